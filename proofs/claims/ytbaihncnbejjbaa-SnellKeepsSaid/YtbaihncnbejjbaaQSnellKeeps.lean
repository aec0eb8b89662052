import Derived.Test.YtbaihncnbejjbaaPSnell
import Derived.Test.YtbaihncnbejjbaaPVec2
import Derived.Test.YtbaihncnbejjbaaLSnellKeeps
set_option linter.unusedVariables false
set_option linter.unusedSimpArgs false
namespace Go.Proofs.Ytbaihncnbejjbaa

theorem div_mul_div (a b c l q : Rat) (h : l ≠ 0) : (a / l * q * (a / l * q) + b / l * q * (b / l * q)) * (l * l) = q * q * (a * a + b * b) := by
  have e1 : a / l * l = a := by grind
  have e2 : b / l * l = b := by grind
  generalize a / l = x at *
  generalize b / l = y at *
  subst e1 e2
  grind
theorem keep_up {x y Q L A C : Rat} (d : x * L = Q * A) (c : y * L = C) (hS : A + C ≤ L) (hL : 0 < L) (hQ : 0 ≤ Q) : x + Q * y ≤ Q := by
  refine Rat.not_lt.1 fun hn => ?_
  have h1 := Rat.mul_pos (show 0 < x + Q * y - Q by grind) hL
  have h2 := Rat.mul_nonneg hQ (show 0 ≤ L - (A + C) by grind)
  have h3 : (x + Q * y - Q) * L = -(Q * (L - (A + C))) := by
    subst c
    grind
  grind
theorem keep_dn {x y Q L A C : Rat} (d : x * L = Q * A) (c : y * L = C) (hS : L ≤ A + C) (hL : 0 < L) (hQ : 0 ≤ Q) : Q ≤ x + Q * y := by
  refine Rat.not_lt.1 fun hn => ?_
  have h1 := Rat.mul_pos (show 0 < Q - (x + Q * y) by grind) hL
  have h2 := Rat.mul_nonneg hQ (show 0 ≤ (A + C) - L by grind)
  have h3 : (Q - (x + Q * y)) * L = -(Q * ((A + C) - L)) := by
    subst c
    grind
  grind
/-- What is bent has a length whose square has One. -/
theorem bent_long {v : V} {r : Iv} {q : Rat} (mq : Mem q r) (h : bYes (vecUnit v) axis17 r) (hl : R (vecLen2 (bO (vecUnit v) axis17 r))) : ivHas (vecLen2 (bO (vecUnit v) axis17 r)) 65536 = true := by
  obtain ⟨_, _, _, _, rd, _⟩ := R_dot (show R (vecDot (vecUnit v) axis17) from h.1)
  obtain ⟨a, b, c, l1, l2, ml1, ml2, p1, p12, e1, e2, hp⟩ := unit_pts rd
  have rR := R_rootK h
  have val : ∀ l s, Mem l (ivRoot (vecLen2 v)) → Mem s (ivRoot (bK (vecUnit v) axis17 r)) → l ≠ 0 ∧ Mem (a / l * q * (a / l * q) + b / l * q * (b / l * q) + s * s) (vecLen2 (bO (vecUnit v) axis17 r)) ∧ Mem (1 - q * q * (1 - c / l * (c / l))) (bK (vecUnit v) axis17 r) := by
    intro l s ml ms
    obtain ⟨n0, m1, m2, m3⟩ := hp l ml
    obtain ⟨o1, o2, o3⟩ := mem_bO h m1 m2 m3 mq ms
    have hl' := hl
    unfold vecLen2 at hl'
    obtain ⟨h1, hz⟩ := R_args2 ivAdd_out hl'
    obtain ⟨hx, hy⟩ := R_args2 ivAdd_out h1
    exact ⟨n0, mem_add (mem_add (mem_sqr o1 hx) (mem_sqr o2 hy) h1) (mem_sqr o3 hz) hl, mem_bK h.2.2.1 (mem_bG h.1 m1 m2 m3) mq⟩
  obtain ⟨n1, f1, k1⟩ := val l2 _ ml2 (mem_lo rR)
  obtain ⟨n2, f2, k2⟩ := val l1 _ ml1 (mem_hi rR)
  obtain ⟨_, _, g1, _⟩ := root_ends k1 rR
  obtain ⟨_, _, _, g2⟩ := root_ends k2 rR
  have d1 := div_mul_div a b c l2 q n1
  have d2 := div_mul_div a b c l1 q n2
  have c1 : c / l2 * (c / l2) * (l2 * l2) = c * c := by
    have e : c / l2 * l2 = c := by grind
    generalize c / l2 = t at *
    subst e
    grind
  have c2 : c / l1 * (c / l1) * (l1 * l1) = c * c := by
    have e : c / l1 * l1 = c := by grind
    generalize c / l1 = t at *
    subst e
    grind
  have qq : 0 ≤ q * q := by
    rcases (by grind : 0 ≤ q ∨ 0 ≤ -q) with p | p
    · exact Rat.mul_nonneg p p
    · have := Rat.mul_nonneg p p; grind
  have w1 : 0 < l1 * l1 := Rat.mul_pos p1 p1
  have w2 : 0 < l2 * l2 := Rat.mul_pos (by grind) (by grind)
  generalize a / l2 * q * (a / l2 * q) + b / l2 * q * (b / l2 * q) = x2 at *
  generalize a / l1 * q * (a / l1 * q) + b / l1 * q * (b / l1 * q) = x1 at *
  generalize c / l2 * (c / l2) = y2 at *
  generalize c / l1 * (c / l1) = y1 at *
  generalize ((ivRoot (bK (vecUnit v) axis17 r)).lo : Rat) / 65536 * (((ivRoot (bK (vecUnit v) axis17 r)).lo : Rat) / 65536) = s1 at *
  generalize ((ivRoot (bK (vecUnit v) axis17 r)).hi : Rat) / 65536 * (((ivRoot (bK (vecUnit v) axis17 r)).hi : Rat) / 65536) = s2 at *
  generalize l1 * l1 = L1 at *
  generalize l2 * l2 = L2 at *
  generalize q * q = Q at *
  -- x2 + s1 ≤ 1 ≤ x1 + s2
  have t1 : x2 + Q * y2 ≤ Q := keep_up d1 c1 (by grind) w2 qq
  have t2 : Q ≤ x1 + Q * y1 := keep_dn d2 c2 (by grind) w1 qq
  clear val hp
  exact has_between f1 f2 (by show _ ≤ ((65536 : Int) : Rat); grind) (by show ((65536 : Int) : Rat) ≤ _; grind)
theorem bent_across {v : V} {r : Iv} {q : Rat} (mq : Mem q r) (h : bYes (vecUnit v) axis17 r) : R (ivMeet (bO (vecUnit v) axis17 r).x (ivMul (vecUnit v).x r)) ∧ R (ivMeet (bO (vecUnit v) axis17 r).y (ivMul (vecUnit v).y r)) := by
  obtain ⟨_, _, _, _, rd, _⟩ := R_dot (show R (vecDot (vecUnit v) axis17) from h.1)
  obtain ⟨a, b, c, l1, l2, ml1, ml2, p1, p12, e1, e2, hp⟩ := unit_pts rd
  obtain ⟨n0, m1, m2, m3⟩ := hp l1 ml1
  obtain ⟨o1, o2, o3⟩ := mem_bO h m1 m2 m3 mq (mem_lo (R_rootK h))
  have ox' : R (ivAdd (ivMul (vecUnit v).x r) (ivMul axis17.x (ivSub (ivRoot (bK (vecUnit v) axis17 r)) (ivMul r (bG (vecUnit v) axis17))))) := h.2.2.2.2.1
  have oy' : R (ivAdd (ivMul (vecUnit v).y r) (ivMul axis17.y (ivSub (ivRoot (bK (vecUnit v) axis17 r)) (ivMul r (bG (vecUnit v) axis17))))) := h.2.2.2.2.2.1
  obtain ⟨x1, x2⟩ := R_args2 ivAdd_out ox'
  obtain ⟨y1, y2⟩ := R_args2 ivAdd_out oy'
  exact ⟨meet_of o1 (mem_mul m1 mq x1), meet_of o2 (mem_mul m2 mq y1)⟩
/-- With the ratio One a way is never thrown back, and has its own in the answer. -/
theorem one_not_no (v : V) : ¬ bNo (vecUnit v) axis17 (ivWhole 1) := by
  rintro ⟨rG, hG, rK, hK⟩
  obtain ⟨_, _, _, _, rd, _⟩ := R_dot (show R (vecDot (vecUnit v) axis17) from rG)
  obtain ⟨a, b, c, l1, l2, ml1, ml2, p1, p12, e1, e2, hp⟩ := unit_pts rd
  obtain ⟨n0, m1, m2, m3⟩ := hp l1 ml1
  have k := mem_bK rK (mem_bG rG m1 m2 m3) (whole_1 ▸ mem_one : Mem 1 (ivWhole 1))
  generalize c / l1 = t at *
  have sq : 0 ≤ t * t := by
    rcases (by grind : 0 ≤ t ∨ 0 ≤ -t) with p | p
    · exact Rat.mul_nonneg p p
    · have := Rat.mul_nonneg p p; grind
  have h2 := k.2.2
  have h3 : ((bK (vecUnit v) axis17 (ivWhole 1)).hi : Rat) < ((0 : Int) : Rat) := Rat.intCast_lt_intCast.2 hK
  have h4 : ((0 : Int) : Rat) = 0 := rfl
  grind
theorem one_own {v : V} (h : bYes (vecUnit v) axis17 (ivWhole 1)) : R (ivMeet (bO (vecUnit v) axis17 (ivWhole 1)).x (vecUnit v).x) ∧ R (ivMeet (bO (vecUnit v) axis17 (ivWhole 1)).z (vecUnit v).z) := by
  obtain ⟨_, _, _, _, rd, _⟩ := R_dot (show R (vecDot (vecUnit v) axis17) from h.1)
  obtain ⟨a, b, c, l1, l2, ml1, ml2, p1, p12, e1, e2, hp⟩ := unit_pts rd
  obtain ⟨n0, m1, m2, m3⟩ := hp l1 ml1
  have mq : Mem 1 (ivWhole 1) := whole_1 ▸ mem_one
  have mg := mem_bG h.1 m1 m2 m3
  have k := mem_bK h.2.2.1 mg mq
  have e : (1 : Rat) - 1 * 1 * (1 - c / l1 * (c / l1)) = c / l1 * (c / l1) := by grind
  rw [e] at k
  have hpos : 0 ≤ c / l1 := by
    have h3 : ((0 : Int) : Rat) < ((bG (vecUnit v) axis17).lo : Rat) := Rat.intCast_lt_intCast.2 h.2.1
    have h4 : ((0 : Int) : Rat) = 0 := rfl
    have := mg.2.1
    grind
  have ms := mem_root k (R_rootK h) hpos rfl
  obtain ⟨o1, o2, o3⟩ := mem_bO h m1 m2 m3 mq ms
  rw [show a / l1 * 1 = a / l1 by grind] at o1
  exact ⟨meet_of o1 m1, meet_of o3 m3⟩
theorem lawSnellKeeps_true (x y a : Int) : lawSnellKeeps x y a = true := by
  unfold lawSnellKeeps
  have hv : ∃ v, lean17 x y 0 = vecUnit v := ⟨_, rfl⟩
  obtain ⟨v, hv⟩ := hv
  rw [hv]
  have p1 := hPick_lt a (m := 40000) (by omega) (by omega)
  have er : ivPoint (w64 (40000 + hPick a 40000)) = ⟨40000 + hPick a 40000, 40000 + hPick a 40000, false⟩ := by
    rw [w64_of (by omega) (by omega)]; unfold ivPoint; rw [ivOf_in (by omega)]
  have mq : Mem (((40000 + hPick a 40000 : Int) : Rat) / 65536) (ivPoint (w64 (40000 + hPick a 40000))) := by
    rw [er]; exact mem_pt (by omega)
  generalize ivPoint (w64 (40000 + hPick a 40000)) = r at *
  have c5 : lawSnellKeeps_c5 x y a (vecUnit v) = true := by
    unfold lawSnellKeeps_c5 lawSnellKeeps_e2 lawSnellKeeps_e3
    rw [known17_true]
    rcases bend_012 (vecUnit v) axis17 (ivWhole 1) with h | h | h
    · rw [h]; rfl
    · obtain ⟨k, e⟩ := bend_yes h
      have o := one_own k
      rw [h, e, ivRight_t o.1, ivRight_t o.2]; rfl
    · exact absurd (bend_no h) (one_not_no v)
  unfold lawSnellKeeps_c3 lawSnellKeeps_e0 lawSnellKeeps_e1
  rw [c5]
  refine lC (fun h => ?_) (fun _ => rfl)
  have h : (snellBend (vecUnit v) axis17 r).2 = 1 := by simpa using h
  obtain ⟨k, e⟩ := bend_yes h
  have o := bent_across mq k
  rw [e, ivRight_t o.1, ivRight_t o.2]
  exact lC (fun hl => lT (bent_long mq k ((ivRight_iff _).1 hl)) rfl) (fun _ => rfl)
end Go.Proofs.Ytbaihncnbejjbaa
