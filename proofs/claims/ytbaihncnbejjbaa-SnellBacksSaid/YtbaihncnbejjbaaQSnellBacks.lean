import Derived.Test.YtbaihncnbejjbaaPSnell
import Derived.Test.YtbaihncnbejjbaaLSnellBacks
set_option linter.unusedVariables false
set_option linter.unusedSimpArgs false
namespace Go.Proofs.Ytbaihncnbejjbaa

theorem nones_right : vecRight snellNones = false := rfl
/-- What is bent back: never thrown back, and its parts. -/
theorem back_pts {v : V} {r t : Iv} {q : Rat} (q0 : q ≠ 0) (mq : Mem q r) (mt : Mem (1 / q) t) (h : bYes (vecUnit v) axis17 r) :
    ¬ bNo (bO (vecUnit v) axis17 r) axis17 t ∧ (bYes (bO (vecUnit v) axis17 r) axis17 t → R (ivMeet (bO (bO (vecUnit v) axis17 r) axis17 t).x (vecUnit v).x) ∧ R (ivMeet (bO (bO (vecUnit v) axis17 r) axis17 t).y (vecUnit v).y) ∧ R (ivMeet (bO (bO (vecUnit v) axis17 r) axis17 t).z (vecUnit v).z)) := by
  obtain ⟨_, _, _, _, rd, _⟩ := R_dot (show R (vecDot (vecUnit v) axis17) from h.1)
  obtain ⟨a, b, c, l1, l2, ml1, ml2, p1, p12, e1, e2, hp⟩ := unit_pts rd
  obtain ⟨n0, m1, m2, m3⟩ := hp l1 ml1
  have rR := R_rootK h
  have mg := mem_bG h.1 m1 m2 m3
  have mk := mem_bK h.2.2.1 mg mq
  obtain ⟨_, _, g1, g2⟩ := root_ends mk rR
  obtain ⟨o1, o2, o3⟩ := mem_bO h m1 m2 m3 mq (mem_lo rR)
  obtain ⟨u1, u2, u3⟩ := mem_bO h m1 m2 m3 mq (mem_hi rR)
  have hpos : 0 ≤ c / l1 := by
    have h3 : ((0 : Int) : Rat) < ((bG (vecUnit v) axis17).lo : Rat) := Rat.intCast_lt_intCast.2 h.2.1
    have h4 : ((0 : Int) : Rat) = 0 := rfl
    have := mg.2.1
    grind
  have sq : 0 ≤ c / l1 * (c / l1) := Rat.mul_nonneg hpos hpos
  generalize ((ivRoot (bK (vecUnit v) axis17 r)).lo : Rat) / 65536 = s1 at *
  generalize ((ivRoot (bK (vecUnit v) axis17 r)).hi : Rat) / 65536 = s2 at *
  have inv : 1 / q * q = 1 := by grind
  have ii : 0 ≤ 1 / q * (1 / q) := by
    rcases (by grind : 0 ≤ 1 / q ∨ 0 ≤ -(1 / q)) with p | p
    · exact Rat.mul_nonneg p p
    · have := Rat.mul_nonneg p p; grind
  have back : ∀ s : Rat, 1 - 1 / q * (1 / q) * (1 - s * s) = c / l1 * (c / l1) + 1 / q * (1 / q) * (s * s - (1 - q * q * (1 - c / l1 * (c / l1)))) := by
    intro s
    generalize c / l1 = z
    generalize 1 / q = i at *
    have : i * i * (q * q) = 1 := by grind
    grind
  have lo_le : 1 - 1 / q * (1 / q) * (1 - s1 * s1) ≤ c / l1 * (c / l1) := by
    have := Rat.mul_nonneg ii (show 0 ≤ (1 - q * q * (1 - c / l1 * (c / l1))) - s1 * s1 by grind)
    rw [back s1]
    grind
  have le_hi : c / l1 * (c / l1) ≤ 1 - 1 / q * (1 / q) * (1 - s2 * s2) := by
    have := Rat.mul_nonneg ii (show 0 ≤ s2 * s2 - (1 - q * q * (1 - c / l1 * (c / l1))) by grind)
    rw [back s2]
    grind
  constructor
  · rintro ⟨rG, hG, rK, hK⟩
    have k := mem_bK rK (mem_bG rG u1 u2 u3) mt
    have h2 := k.2.2
    have h3 : ((bK (bO (vecUnit v) axis17 r) axis17 t).hi : Rat) < ((0 : Int) : Rat) := Rat.intCast_lt_intCast.2 hK
    have h4 : ((0 : Int) : Rat) = 0 := rfl
    generalize c / l1 * (c / l1) = zz at *
    generalize 1 - 1 / q * (1 / q) * (1 - s2 * s2) = kk at *
    grind
  · intro hy
    have k1 := mem_bK hy.2.2.1 (mem_bG hy.1 o1 o2 o3) mt
    have k2 := mem_bK hy.2.2.1 (mem_bG hy.1 u1 u2 u3) mt
    have k := mem_convex k1 k2 lo_le le_hi
    have ms := mem_root k (R_rootK hy) hpos rfl
    obtain ⟨w1, w2, w3⟩ := mem_bO hy o1 o2 o3 mt ms
    have ea : a / l1 * q * (1 / q) = a / l1 := by
      generalize a / l1 = z
      generalize 1 / q = i at *
      grind
    have eb : b / l1 * q * (1 / q) = b / l1 := by
      generalize b / l1 = z
      generalize 1 / q = i at *
      grind
    rw [ea] at w1
    rw [eb] at w2
    exact ⟨meet_of w1 m1, meet_of w2 m2, meet_of w3 m3⟩
theorem ratio_mem (i j : Int) (hi : 0 ≤ i ∧ i < 2) (hj : 0 ≤ j ∧ j < 2) : ∃ q : Rat, q ≠ 0 ∧ Mem q (ivDiv (ivWhole (w64 (1 + j))) (ivWhole (w64 (1 + i)))) ∧ Mem (1 / q) (ivDiv (ivWhole (w64 (1 + i))) (ivWhole (w64 (1 + j)))) := by
  have d11 : ivDiv (ivWhole (w64 (1 + 0))) (ivWhole (w64 (1 + 0))) = ⟨65536, 65536, false⟩ := by decide +kernel
  have d22 : ivDiv (ivWhole (w64 (1 + 1))) (ivWhole (w64 (1 + 1))) = ⟨65536, 65536, false⟩ := by decide +kernel
  have d12 : ivDiv (ivWhole (w64 (1 + 0))) (ivWhole (w64 (1 + 1))) = ⟨32768, 32768, false⟩ := by decide +kernel
  have d21 : ivDiv (ivWhole (w64 (1 + 1))) (ivWhole (w64 (1 + 0))) = ⟨131072, 131072, false⟩ := by decide +kernel
  have m2 : Mem 2 ⟨131072, 131072, false⟩ := ⟨R_mk (by omega) (by omega) (by omega), by decide +kernel, by decide +kernel⟩
  have mh : Mem (1 / 2) ⟨32768, 32768, false⟩ := ⟨R_mk (by omega) (by omega) (by omega), by decide +kernel, by decide +kernel⟩
  rcases (by omega : i = 0 ∨ i = 1) with rfl | rfl <;> rcases (by omega : j = 0 ∨ j = 1) with rfl | rfl
  · exact ⟨1, by decide, by rw [d11]; exact mem_one, by rw [d11, show (1 : Rat) / 1 = 1 by grind]; exact mem_one⟩
  · exact ⟨2, by decide, by rw [d21]; exact m2, by rw [d12]; exact mh⟩
  · exact ⟨1 / 2, by grind, by rw [d12]; exact mh, by rw [d21, show (1 : Rat) / (1 / 2) = 2 by grind]; exact m2⟩
  · exact ⟨1, by decide, by rw [d22]; exact mem_one, by rw [d22, show (1 : Rat) / 1 = 1 by grind]; exact mem_one⟩
theorem lawSnellBacks_true (x y a b : Int) : lawSnellBacks x y a b = true := by
  unfold lawSnellBacks lawSnellBacks_e6 lawSnellBacks_e5 lawSnellBacks_e4 lawSnellBacks_e3 lawSnellBacks_e2 lawSnellBacks_e1 lawSnellBacks_e0
  have hv : ∃ v, lean17 x y 0 = vecUnit v := ⟨_, rfl⟩
  obtain ⟨v, hv⟩ := hv
  rw [hv, known17_true]
  have p1 := hPick_lt a (m := 2) (by omega) (by omega)
  have p2 := hPick_lt b (m := 2) (by omega) (by omega)
  obtain ⟨q, q0, mq, mt⟩ := ratio_mem (hPick a 2) (hPick b 2) p1 p2
  generalize ivDiv (ivWhole (w64 (1 + hPick b 2))) (ivWhole (w64 (1 + hPick a 2))) = r at *
  generalize ivDiv (ivWhole (w64 (1 + hPick a 2))) (ivWhole (w64 (1 + hPick b 2))) = t at *
  rcases bend_cases (vecUnit v) axis17 r with ⟨_, e⟩ | ⟨k, e⟩ | ⟨_, _, e⟩
  · rw [e]; rfl
  · rw [e]
    obtain ⟨hn, hy⟩ := back_pts q0 mq mt k
    simp only
    rcases bend_cases (bO (vecUnit v) axis17 r) axis17 t with ⟨k2, e2⟩ | ⟨k2, e2⟩ | ⟨_, _, e2⟩
    · exact absurd k2 hn
    · obtain ⟨m1, m2, m3⟩ := hy k2
      rw [e2, ivRight_t m1, ivRight_t m2, ivRight_t m3]; rfl
    · rw [e2]; rfl
  · rw [e]; rfl
end Go.Proofs.Ytbaihncnbejjbaa
