import Derived.Test.YtbaihncnbejjbaaPQuad
import Derived.Test.YtbaihncnbejjbaaLQuadRoots
set_option linter.unusedVariables false
set_option linter.unusedSimpArgs false
namespace Go.Proofs.Ytbaihncnbejjbaa

/-- Each of the 156 sums. -/
def rootsAt (p q k : Int) : Bool :=
  let t := quadNear (ivWhole (w64 (2 * k))) (ivWhole (w64 (w64 (0 - k) * w64 (p + q)))) (ivWhole (w64 (w64 (w64 (2 * k) * p) * q)))
  !(t.2 == 2) && ((t.2 == 1) == (q != 0)) && (t.2 != 1 || ivHas t.1 (w64 (p * 65536)))
def rootsAll : Bool := (List.range 13).all fun i => (List.range 6).all fun j => (List.range 2).all fun l =>
  let p : Int := w64 ((i : Int) - 6); let q : Int := w64 (w64 (p + 1) + (j : Int)); let k : Int := w64 (1 + (l : Int))
  rootsAt p q k
theorem rootsAll_true : rootsAll = true := by decide +kernel
theorem roots_true (i j l : Nat) (hi : i < 13) (hj : j < 6) (hl : l < 2) : rootsAt (w64 ((i : Int) - 6)) (w64 (w64 (w64 ((i : Int) - 6) + 1) + (j : Int))) (w64 (1 + (l : Int))) = true := by
  have h := rootsAll_true
  unfold rootsAll at h
  have h1 := List.all_eq_true.1 h i (List.mem_range.2 hi)
  have h2 := List.all_eq_true.1 h1 j (List.mem_range.2 hj)
  exact List.all_eq_true.1 h2 l (List.mem_range.2 hl)
theorem whole_in {n : Int} (h : -16384 ≤ n ∧ n ≤ 16384) : ivWhole n = ⟨n * 65536, n * 65536, false⟩ := by
  unfold ivWhole ivPoint
  rw [(numIn_iff n).2 (by omega), w64_of (by omega) (by omega), ivOf_in (by omega)]; rfl
theorem wide_Le {n x : Int} (h : -16000 ≤ n ∧ n ≤ 16000) (hx : 0 ≤ x ∧ x < 20) : Le (ivWhole n) (hWide (w64 (w64 (n * 65536) - x)) 20) := fun _ => by
  rw [whole_in (by omega), w64_of (n := n * 65536) (by omega) (by omega), w64_of (n := n * 65536 - x) (by omega) (by omega)]
  unfold hWide within
  rw [w64_of (n := max (-1073741824) (min 1073741824 (n * 65536 - x)) + 20) (by omega) (by omega)]
  exact ⟨R_mk (by omega) (by omega) (by omega), by simp only; omega, by simp only; omega⟩
theorem lawQuadRoots_true (p q k m n : Int) : lawQuadRoots p q k m n = true := by
  unfold lawQuadRoots lawQuadRoots_e7 lawQuadRoots_e6 lawQuadRoots_e5 lawQuadRoots_e4 lawQuadRoots_e3 lawQuadRoots_e2 lawQuadRoots_e1 lawQuadRoots_e0
  have p1 := hPick_lt p (m := 13) (by omega) (by omega)
  have p2 := hPick_lt q (m := 6) (by omega) (by omega)
  have p3 := hPick_lt k (m := 2) (by omega) (by omega)
  have p4 := hPick_lt m (m := 20) (by omega) (by omega)
  have p5 := hPick_lt n (m := 20) (by omega) (by omega)
  obtain ⟨i, hi⟩ := Int.eq_ofNat_of_zero_le p1.1
  obtain ⟨j, hj⟩ := Int.eq_ofNat_of_zero_le p2.1
  obtain ⟨l, hl⟩ := Int.eq_ofNat_of_zero_le p3.1
  rw [hi] at p1 ⊢
  rw [hj] at p2 ⊢
  rw [hl] at p3 ⊢
  have hr := roots_true i j l (by omega) (by omega) (by omega)
  unfold rootsAt at hr
  simp only at hr
  have eP : w64 ((i : Int) - 6) = (i : Int) - 6 := w64_of (by omega) (by omega)
  have eQ : w64 (w64 (w64 ((i : Int) - 6) + 1) + (j : Int)) = (i : Int) - 6 + 1 + j := by rw [eP, w64_of (n := (i : Int) - 6 + 1) (by omega) (by omega), w64_of (by omega) (by omega)]
  have eK : w64 (1 + (l : Int)) = 1 + (l : Int) := w64_of (by omega) (by omega)
  rw [eQ, eP, eK] at hr ⊢
  generalize hP : (i : Int) - 6 = P at *
  generalize hQ : P + 1 + (j : Int) = Q at *
  generalize hK : 1 + (l : Int) = K at *
  have e2 : w64 (2 * K) = 2 * K := w64_of (by omega) (by omega)
  have eN : w64 (0 - K) = -K := by rw [w64_of (by omega) (by omega)]; omega
  have eS : w64 (P + Q) = P + Q := w64_of (by omega) (by omega)
  have mB := mul_bound (a := -K) (b := P + Q) (A := 2) (B := 18) (by omega) (by omega)
  have eB : w64 (w64 (0 - K) * w64 (P + Q)) = -K * (P + Q) := by rw [eN, eS]; exact w64_of (by omega) (by omega)
  rw [eB, e2] at hr ⊢
  have w1 : Le (ivWhole (2 * K)) (hWide (w64 (w64 (2 * K * 65536) - hPick m 20)) 20) := wide_Le (by omega) p4
  have w2 : Le (ivWhole (-K * (P + Q))) (hWide (w64 (w64 (-K * (P + Q) * 65536) - hPick n 20)) 20) := wide_Le (by omega) p5
  have hl := near_less w1 w2 (Le.rfl' (ivWhole (w64 (w64 (2 * K * P) * Q))))
  generalize quadNear (ivWhole (2 * K)) (ivWhole (-K * (P + Q))) (ivWhole (w64 (w64 (2 * K * P) * Q))) = t at *
  have h012 := near_012 (hWide (w64 (w64 (2 * K * 65536) - hPick m 20)) 20) (hWide (w64 (w64 (-K * (P + Q) * 65536) - hPick n 20)) 20) (ivWhole (w64 (w64 (2 * K * P) * Q)))
  generalize quadNear (hWide (w64 (w64 (2 * K * 65536) - hPick m 20)) 20) (hWide (w64 (w64 (-K * (P + Q) * 65536) - hPick n 20)) 20) (ivWhole (w64 (w64 (2 * K * P) * Q))) = u at *
  rw [Bool.and_eq_true, Bool.and_eq_true, Bool.not_eq_true'] at hr
  obtain ⟨⟨r1, r2⟩, r3⟩ := hr
  have r2' : (t.2 == 1) = (Q != 0) := by simpa using r2
  refine lT known6_true (lF r1 (lF ?_ (lF (by rw [r2']; simp) ?_)))
  · rcases h012 with h | h | h
    · rw [h]; rfl
    · rw [h]; rfl
    · have := hl.2 h
      rw [this] at r1
      exact absurd r1 (by decide)
  · have hu : (bif u.2 != 1 then true else ivHas u.1 (w64 (P * 65536))) = true := by
      rcases h012 with h | h | h
      · rw [h]; rfl
      · have k := hl.1 h
        rw [k.1] at r3
        have r3 : ivHas t.1 (w64 (P * 65536)) = true := by simpa using r3
        have a1 := (ivHas_iff _ _).1 r3
        have a2 := (ivInside_iff _ _).1 k.2
        have : ivHas u.1 (w64 (P * 65536)) = true := (ivHas_iff _ _).2 ⟨a2.2.1, by omega, by omega⟩
        rw [this]
        cases u.2 != 1 <;> rfl
      · rw [h]; rfl
    refine lC (fun _ => hu) (fun h => lT ?_ hu)
    rw [h] at r3
    simpa using r3
end Go.Proofs.Ytbaihncnbejjbaa
