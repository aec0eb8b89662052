import Derived.Test.YtbaihncnbejjbaaPSnell
import Derived.Test.YtbaihncnbejjbaaLSnellLess
set_option linter.unusedVariables false
set_option linter.unusedSimpArgs false
namespace Go.Proofs.Ytbaihncnbejjbaa

theorem bend_turn (d n : V) (r : Iv) (k : Int) : (snellBend (vecTurn d k) (vecTurn n k) r).2 = (snellBend d n r).2 ∧ ((snellBend d n r).2 = 1 → (snellBend (vecTurn d k) (vecTurn n k) r).1 = vecTurn (snellBend d n r).1 k) := by
  have c : ∀ (d n : V), (snellBend (turn1 d) (turn1 n) r).2 = (snellBend d n r).2 ∧ ((snellBend d n r).2 = 1 → (snellBend (turn1 d) (turn1 n) r).1 = turn1 (snellBend d n r).1) := fun d n => bend_turns turns_turn1 d n r
  have c1 := c d n
  have c2 := c (turn1 d) (turn1 n)
  have c3 := c (turn1 (turn1 d)) (turn1 (turn1 n))
  rcases k4 k with h | h | h | h
  · rw [t0 h, t0 h, t0 h]; exact ⟨rfl, fun _ => rfl⟩
  · rw [t1 h, t1 h, t1 h]; exact c1
  · rw [t2 h, t2 h, t2 h]
    exact ⟨c2.1.trans c1.1, fun e => by rw [c2.2 (c1.1.trans e), c1.2 e]⟩
  · rw [t3 h, t3 h, t3 h]
    exact ⟨c3.1.trans (c2.1.trans c1.1), fun e => by rw [c3.2 (c2.1.trans (c1.1.trans e)), c2.2 (c1.1.trans e), c1.2 e]⟩
theorem lawSnellLess_true (x y w u v z a b m n k : Int) : lawSnellLess x y w u v z a b m n k = true := by
  unfold lawSnellLess
  generalize lean17 x y w = d
  generalize lean17 (w64 (Int.tdiv u 3)) (w64 (Int.tdiv v 3)) z = o
  generalize hWide (w64 (30000 + hPick a 90000)) (hPick b 300) = r
  have ht := bend_turn d o r k
  have hm := bend_turns turns_mirror d o r
  have c7 : lawSnellLess_c7 x y w u v z a b m n k d o r (snellBend d o r).1 (snellBend d o r).2 = true := by
    unfold lawSnellLess_c7
    refine lT (by rw [ht.1, beq_self_eq_true]) (lT (by rw [hm.1, beq_self_eq_true]) (lC (fun _ => rfl) (fun h => ?_)))
    have h : (snellBend d o r).2 = 1 := by simpa using h
    exact lT (dT (ht.2 h)) (dT (hm.2 h))
  have hl := bend_less (hInV_Le d m n) (hInV_Le o n m) (hIn_Le r m n)
  unfold lawSnellLess_c4 lawSnellLess_e0
  rw [c7, known17_true]
  rcases bend_012 d o r with h | h | h
  · rw [h]; rfl
  · have k := hl.1 h
    rw [h, k.1, k.2]; rfl
  · have k := hl.2 h
    rw [h, k]; rfl
end Go.Proofs.Ytbaihncnbejjbaa
