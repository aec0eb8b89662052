import Derived.Test.YthngkopcadlciaaPHorner
import Derived.Test.YthngkopcadlciaaPLaw
set_option linter.unusedVariables false
set_option linter.unusedSimpArgs false
namespace Go.Proofs.Ythngkopcadlciaa

theorem mulb {a b A B : Int} (ha : -A ≤ a ∧ a ≤ A) (hb : -B ≤ b ∧ b ≤ B) (C : Int) (h : A * B ≤ C) : -C ≤ a * b ∧ a * b ≤ C := by
  have := mul_bound ha hb
  omega
def evalP (X : Int) : List Int → Int
  | [] => 0
  | K :: l => evalP X l * X + K
def bnd : Nat → Int
  | 0 => 0
  | n + 1 => bnd n * 6 + 10
def Small (l : List Int) : Prop := ∀ K ∈ l, -10 ≤ K ∧ K ≤ 10
theorem evalP_bnd {X : Int} (hX : -6 ≤ X ∧ X ≤ 6) : ∀ l : List Int, Small l → -(bnd l.length) ≤ evalP X l ∧ evalP X l ≤ bnd l.length
  | [], _ => by simp [evalP, bnd]
  | K :: l, h => by
    have ih := evalP_bnd hX l (fun k hk => h k (List.mem_cons_of_mem _ hk))
    have hK := h K List.mem_cons_self
    have := mulb ih hX (bnd l.length * 6) (Int.le_refl _)
    simp only [evalP, bnd, List.length_cons]
    omega
theorem bnd_le {n : Nat} (h : n ≤ 4) : 0 ≤ bnd n ∧ bnd n ≤ 2590 := by
  match n, h with
  | 0, _ => decide
  | 1, _ => decide
  | 2, _ => decide
  | 3, _ => decide
  | 4, _ => decide
theorem horner_exact {X : Int} (hX : -6 ≤ X ∧ X ≤ 6) : ∀ (l : List Int) (K : Int), Small (K :: l) → l.length ≤ 4 → hornerN (ivWhole K) (l.map ivWhole) (ivWhole X) = pt (evalP X (K :: l) * 65536)
  | [], K, h, _ => by
    have hK := h K List.mem_cons_self
    show htop (ivWhole K) = _
    rw [whole_eq (by omega), htop_R (R_pt (by omega))]
    simp [evalP]
  | b :: l, K, h, hl => by
    have hK := h K List.mem_cons_self
    have hs : Small (b :: l) := fun k hk => h k (List.mem_cons_of_mem _ hk)
    have ih := horner_exact hX l b hs (by simp only [List.length_cons] at hl; omega)
    have e := evalP_bnd hX (b :: l) hs
    have hb := bnd_le (n := (b :: l).length) hl
    have hm := mulb (a := evalP X (b :: l)) (A := 2590) (by omega) hX 15540 (by decide)
    show ivAdd (ivMul (hornerN (ivWhole b) (l.map ivWhole) (ivWhole X)) (ivWhole X)) (ivWhole K) = _
    rw [ih, whole_eq (k := X) (by omega), whole_eq (k := K) (by omega), mul_wh (by omega) (by omega) (by omega), add_wh (by omega) (by omega) (by omega)]
    rfl
/-- The sum as the law reckons it. -/
def runP (X : Int) : List Int → Int → Int → Int
  | [], s, _ => s
  | K :: l, s, p => runP X l (w64 (s + w64 (K * p))) (w64 (p * X))
theorem runP_eq {X : Int} (hX : -6 ≤ X ∧ X ≤ 6) : ∀ (l : List Int) (s p B : Int), Small l → -B ≤ p ∧ p ≤ B → -(20 * B) ≤ s ∧ s ≤ 20 * B → 0 ≤ B → B * 6 ^ l.length ≤ 60466176 → runP X l s p = s + p * evalP X l
  | [], s, p, B, _, _, _, _, _ => by simp [runP, evalP]
  | K :: l, s, p, B, h, hp, hs, h0, hB => by
    have hK := h K List.mem_cons_self
    have hl : Small l := fun k hk => h k (List.mem_cons_of_mem _ hk)
    have h6 : (1 : Int) ≤ 6 ^ l.length := Int.pow_pos (by decide)
    have e6 : B * 6 ^ (K :: l).length = B * 6 * 6 ^ l.length := by rw [List.length_cons, Int.pow_succ]; ac_rfl
    have hB6 : B * 6 ≤ 60466176 := by
      have := Int.mul_le_mul_of_nonneg_left h6 (show 0 ≤ B * 6 by omega)
      omega
    have m1 := mulb hK hp (10 * B) (Int.le_refl _)
    have m2 := mulb hp hX (B * 6) (Int.le_refl _)
    have w1 : w64 (K * p) = K * p := w64_of (by omega) (by omega)
    have w2 : w64 (s + K * p) = s + K * p := w64_of (by omega) (by omega)
    have w3 : w64 (p * X) = p * X := w64_of (by omega) (by omega)
    simp only [runP, w1, w2, w3]
    rw [runP_eq hX l (s + K * p) (p * X) (B * 6) hl m2 (by omega) (by omega) (by rw [← e6]; exact hB)]
    simp only [evalP]
    grind
theorem coef_le (z q : Int) : Le (ivWhole (w64 (hPick z 21 - 10))) (hWide (w64 (w64 (w64 (hPick z 21 - 10) * 65536) - hPick q 50)) 100) := by
  have hz := hPick_lt z (m := 21) (by decide) (by decide)
  have hq := hPick_lt q (m := 50) (by decide) (by decide)
  have e : w64 (hPick z 21 - 10) = hPick z 21 - 10 := w64_of (by omega) (by omega)
  rw [e, w64_of (n := (hPick z 21 - 10) * 65536) (by omega) (by omega), w64_of (n := (hPick z 21 - 10) * 65536 - hPick q 50) (by omega) (by omega), whole_eq (by omega)]
  intro _
  refine ⟨R_pt (by omega), ?_, ?_⟩
  · simp only [hWide, within, pt]; omega
  · simp only [hWide, within, pt]
    rw [w64_of (by omega) (by omega)]
    omega
theorem at_le (x n : Int) : Le (ivWhole (w64 (hPick x 13 - 6))) (hWide (w64 (w64 (w64 (hPick x 13 - 6) * 65536) - hPick n 9)) 20) := by
  have hz := hPick_lt x (m := 13) (by decide) (by decide)
  have hq := hPick_lt n (m := 9) (by decide) (by decide)
  have e : w64 (hPick x 13 - 6) = hPick x 13 - 6 := w64_of (by omega) (by omega)
  rw [e, w64_of (n := (hPick x 13 - 6) * 65536) (by omega) (by omega), w64_of (n := (hPick x 13 - 6) * 65536 - hPick n 9) (by omega) (by omega), whole_eq (by omega)]
  intro _
  refine ⟨R_pt (by omega), ?_, ?_⟩
  · simp only [hWide, within, pt]; omega
  · simp only [hWide, within, pt]
    rw [w64_of (by omega) (by omega)]
    omega
theorem coef_small (z : Int) : -10 ≤ w64 (hPick z 21 - 10) ∧ w64 (hPick z 21 - 10) ≤ 10 := by
  have hz := hPick_lt z (m := 21) (by decide) (by decide)
  rw [w64_of (by omega) (by omega)]
  omega
theorem at_small (x : Int) : -6 ≤ w64 (hPick x 13 - 6) ∧ w64 (hPick x 13 - 6) ≤ 6 := by
  have hz := hPick_lt x (m := 13) (by decide) (by decide)
  rw [w64_of (by omega) (by omega)]
  omega
/-- What the law asks, of the sums. -/
theorem encl {X : Int} (hX : -6 ≤ X ∧ X ≤ 6) (K : Int) (l : List Int) (c : Iv) (cs : List Iv) (y : Iv) (hs : Small (K :: l)) (hl : l.length ≤ 4) (h1 : Le (ivWhole K) c) (h2 : LeAll (l.map ivWhole) cs) (hy : Le (ivWhole X) y) :
    (bif known4 then (bif ivHas (horner (ivWhole K :: l.map ivWhole) (ivWhole X)) (w64 (runP X (K :: l) 0 1 * 65536)) then (bif (horner (ivWhole K :: l.map ivWhole) (ivWhole X)).lo == (horner (ivWhole K :: l.map ivWhole) (ivWhole X)).hi then (bif ivRight (horner (c :: cs) y) then ivInside (horner (ivWhole K :: l.map ivWhole) (ivWhole X)) (horner (c :: cs) y) else true) else false) else false) else false) = true := by
  have e := horner_exact hX l K hs hl
  have le := le_horner (x := ivWhole X) (y := y) hy (ivWhole K :: l.map ivWhole) (c :: cs) ⟨h1, h2⟩
  have eq : horner (ivWhole K :: l.map ivWhole) (ivWhole X) = pt (evalP X (K :: l) * 65536) := e
  have hp : ∀ n : Nat, n ≤ 5 → (6 : Int) ^ n ≤ 7776 := by
    intro n hn
    match n, hn with
    | 0, _ => decide
    | 1, _ => decide
    | 2, _ => decide
    | 3, _ => decide
    | 4, _ => decide
    | 5, _ => decide
  have hr := runP_eq hX (K :: l) 0 1 1 hs (by decide) (by decide) (by decide) (by have := hp (K :: l).length (by simp only [List.length_cons]; omega); omega)
  have hb0 := evalP_bnd hX l (fun k hk => hs k (List.mem_cons_of_mem _ hk))
  have hb1 := bnd_le hl
  have hK := hs K List.mem_cons_self
  have hm := mulb (a := evalP X l) (A := 2590) (by omega) hX 15540 (by decide)
  have hb : -15550 ≤ evalP X (K :: l) ∧ evalP X (K :: l) ≤ 15550 := by simp only [evalP]; omega
  rw [eq] at le ⊢
  rw [hr, known4_true, Int.zero_add, Int.one_mul, w64_of (by omega) (by omega)]
  have r0 : R (pt (evalP X (K :: l) * 65536)) := R_pt (by omega)
  have h : ivHas (pt (evalP X (K :: l) * 65536)) (evalP X (K :: l) * 65536) = true := (ivHas_iff _ _).2 ⟨r0, Int.le_refl _, Int.le_refl _⟩
  rw [h]
  simp only [cond_true, pt, BEq.rfl]
  cases hr : ivRight (horner (c :: cs) y)
  · rfl
  · have hR := (ivRight_iff _).1 hr
    exact (ivInside_iff _ _).2 ⟨r0, hR, (le hR).2.1, (le hR).2.2⟩
end Go.Proofs.Ythngkopcadlciaa
