import Derived.Test.YtbaihncnbejjbaaPQuad
import Derived.Test.YtbaihncnbejjbaaPRat
import Derived.Test.YtbaihncnbejjbaaLQuadIsNothing
set_option linter.unusedVariables false
set_option linter.unusedSimpArgs false
namespace Go.Proofs.Ytbaihncnbejjbaa

/-- At the root that is told the sum of squares has 0. -/
theorem near_nothing {x y z : Iv} (rD : R (nearD x y z)) (rT : R (nearT x y z)) (h : R (ivAdd (ivAdd (ivMul x (ivSqr (nearT x y z))) (ivTimes (ivMul y (nearT x y z)) 2)) z)) :
    ivHas (ivAdd (ivAdd (ivMul x (ivSqr (nearT x y z))) (ivTimes (ivMul y (nearT x y z)) 2)) z) 0 = true := by
  obtain ⟨rA, rz⟩ := R_args2 ivAdd_out h
  obtain ⟨rM, rTi⟩ := R_args2 ivAdd_out rA
  obtain ⟨rx, rSq⟩ := R_args2 ivMul_out rM
  have rMy : R (ivMul y (nearT x y z)) := Classical.byContradiction fun n => by rw [ivTimes_out (fun k => n k.1)] at rTi; exact R_none rTi
  obtain ⟨ry, _⟩ := R_args2 ivMul_out rMy
  have rD' := rD
  unfold nearD ivSub at rD'
  obtain ⟨rS, rN⟩ := R_args2 ivAdd_out rD'
  have rP := R_neg.1 rN
  obtain ⟨_, rSub, h0⟩ := R_div (show R (ivDiv z (ivSub (ivRoot (nearD x y z)) y)) from rT)
  have rSub' := rSub
  unfold ivSub at rSub'
  obtain ⟨rR, _⟩ := R_args2 ivAdd_out rSub'
  have ma := mem_lo rx
  have mb := mem_lo ry
  have mc := mem_lo rz
  generalize (x.lo : Rat) / 65536 = a at *
  generalize (y.lo : Rat) / 65536 = b at *
  generalize (z.lo : Rat) / 65536 = c at *
  have mD : Mem (b * b - a * c) (nearD x y z) := mem_sub (mem_sqr mb rS) (mem_mul ma mc rP) rD
  obtain ⟨e0, e1, e2, e3⟩ := root_ends mD rR
  have ms1 := mem_lo rR
  have ms2 := mem_hi rR
  generalize ((ivRoot (nearD x y z)).lo : Rat) / 65536 = s1 at *
  generalize ((ivRoot (nearD x y z)).hi : Rat) / 65536 = s2 at *
  have f : ∀ s, Mem s (ivRoot (nearD x y z)) → s - b ≠ 0 ∧ Mem (a * (c / (s - b) * (c / (s - b))) + ((2 : Int) : Rat) * (b * (c / (s - b))) + c) (ivAdd (ivAdd (ivMul x (ivSqr (nearT x y z))) (ivTimes (ivMul y (nearT x y z)) 2)) z) := by
    intro s hs
    obtain ⟨n0, mt⟩ := mem_div mc (mem_sub hs mb rSub) (show R (ivDiv z (ivSub (ivRoot (nearD x y z)) y)) from rT)
    exact ⟨n0, mem_add (mem_add (mem_mul ma (mem_sqr mt rSq) rM) (mem_times (mem_mul mb mt rMy) rTi) rA) mc h⟩
  obtain ⟨n1, m1⟩ := f s1 ms1
  obtain ⟨n2, m2⟩ := f s2 ms2
  have key : ∀ s : Rat, s - b ≠ 0 → (a * (c / (s - b) * (c / (s - b))) + ((2 : Int) : Rat) * (b * (c / (s - b))) + c) * ((s - b) * (s - b)) = c * (s * s - (b * b - a * c)) := by
    intro s hs
    have h2 : ((2 : Int) : Rat) = 2 := rfl
    rw [h2]
    have e : c / (s - b) * (s - b) = c := by grind
    generalize c / (s - b) = t at *
    grind
  have k1 := key s1 n1
  have k2 := key s2 n2
  have pos : ∀ s : Rat, s - b ≠ 0 → 0 < (s - b) * (s - b) := by
    intro s hs
    rcases (by grind : 0 < s - b ∨ 0 < -(s - b)) with p | p
    · exact Rat.mul_pos p p
    · have := Rat.mul_pos p p
      grind
  have p1 := pos s1 n1
  have p2 := pos s2 n2
  have sgn : ∀ g w r : Rat, 0 < w → g * w = r → (r ≤ 0 → g ≤ 0) ∧ (0 ≤ r → 0 ≤ g) := by
    intro g w r hw hg
    constructor
    · intro hr
      refine Rat.not_lt.1 fun hn => ?_
      have := Rat.mul_pos hn hw
      grind
    · intro hr
      refine Rat.not_lt.1 fun hn => ?_
      have := Rat.mul_pos (show 0 < -g by grind) hw
      grind
  have q1 := sgn _ _ _ p1 k1
  have q2 := sgn _ _ _ p2 k2
  generalize a * (c / (s1 - b) * (c / (s1 - b))) + ((2 : Int) : Rat) * (b * (c / (s1 - b))) + c = g1 at *
  generalize a * (c / (s2 - b) * (c / (s2 - b))) + ((2 : Int) : Rat) * (b * (c / (s2 - b))) + c = g2 at *
  by_cases hc : 0 ≤ c
  · have z1 : c * (s1 * s1 - (b * b - a * c)) ≤ 0 := by
      have := Rat.mul_nonneg hc (show 0 ≤ (b * b - a * c) - s1 * s1 by grind)
      grind
    have z2 : 0 ≤ c * (s2 * s2 - (b * b - a * c)) := Rat.mul_nonneg hc (by grind)
    have y1 := q1.1 z1
    have y2 := q2.2 z2
    exact has_between m1 m2 (by show _ ≤ ((0 : Int) : Rat); grind) (by show ((0 : Int) : Rat) ≤ _; grind)
  · have z1 : 0 ≤ c * (s1 * s1 - (b * b - a * c)) := by
      have := Rat.mul_nonneg (show 0 ≤ -c by grind) (show 0 ≤ (b * b - a * c) - s1 * s1 by grind)
      grind
    have z2 : c * (s2 * s2 - (b * b - a * c)) ≤ 0 := by
      have := Rat.mul_nonneg (show 0 ≤ -c by grind) (show 0 ≤ s2 * s2 - (b * b - a * c) by grind)
      grind
    have y1 := q1.2 z1
    have y2 := q2.1 z2
    exact has_between m2 m1 (by show _ ≤ ((0 : Int) : Rat); grind) (by show ((0 : Int) : Rat) ≤ _; grind)
theorem lawQuadIsNothing_true (a b c d e f : Int) : lawQuadIsNothing a b c d e f = true := by
  unfold lawQuadIsNothing lawQuadIsNothing_e4 lawQuadIsNothing_e3 lawQuadIsNothing_e2 lawQuadIsNothing_e1 lawQuadIsNothing_e0
  generalize hWide (w64 (hPick a 524288 - 262144)) (hPick b 300) = x
  generalize hWide (w64 (hPick c 2621440 - 1310720)) (hPick d 300) = y
  generalize hWide (w64 (hPick e 5242880 - 2621440)) (hPick f 300) = z
  rcases near_cases x y z with ⟨_, _, ee⟩ | ⟨rD, _, rT, ee⟩ | ⟨_, _, ee⟩ <;> rw [ee, known6_true]
  · rfl
  · refine lC (fun h => (nomatch (show false = true from h))) (fun _ => ?_)
    by_cases h : R (ivAdd (ivAdd (ivMul x (ivSqr (nearT x y z))) (ivTimes (ivMul y (nearT x y z)) 2)) z)
    · show (bif ivRight _ then ivHas _ 0 else true) = true
      rw [ivRight_t h, near_nothing rD rT h]; rfl
    · show (bif ivRight _ then ivHas _ 0 else true) = true
      rw [ivRight_f h]; rfl
  · rfl
end Go.Proofs.Ytbaihncnbejjbaa
