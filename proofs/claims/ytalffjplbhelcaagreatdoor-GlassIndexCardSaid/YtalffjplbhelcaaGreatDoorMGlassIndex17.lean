import Derived.Test.YtalffjplbhelcaaGreatDoorMGlassIndex16
import Derived.Test.YtalffjplbhelcaaGreatDoorMGlassIndex9
import Derived.Test.YtalffjplbhelcaaGreatDoorMGlassIndex4
import Derived.Test.YtalffjplbhelcaaGreatDoorMGlassIndex8
import Derived.Test.YtalffjplbhelcaaGreatDoorMGlassIndex15
import Derived.Test.YtalffjplbhelcaaGreatDoorMGlassIndex13
set_option linter.unusedVariables false
set_option linter.unusedSimpArgs false
namespace Go.Proofs.YtalffjplbhelcaaGreatDoor
theorem rEndsMul_eq (a b : Iv) : rEndsMul a b = rends4 (rMul a.lo b.lo false) (rMul a.lo b.lo true) (rMul a.hi b.lo false) (rMul a.hi b.lo true) (rMul a.lo b.hi false) (rMul a.lo b.hi true) (rMul a.hi b.hi false) (rMul a.hi b.hi true) := rfl
theorem rEndsDiv_eq (a b : Iv) : rEndsDiv a b = rends4 (rDiv a.lo b.lo false) (rDiv a.lo b.lo true) (rDiv a.hi b.lo false) (rDiv a.hi b.lo true) (rDiv a.lo b.hi false) (rDiv a.lo b.hi true) (rDiv a.hi b.hi false) (rDiv a.hi b.hi true) := rfl
theorem both_bif {α : Type} (a b : Iv) (x y : α) : (bif rRight a then (bif rRight b then x else y) else y) = bif ivBoth a b then x else y := by
  unfold ivBoth
  rw [rRight_eq, rRight_eq]
  cases ivRight a <;> rfl
theorem rAdd_eq (a b : Iv) : rAdd a b = ivAdd a b := by
  unfold rAdd ivAdd
  rw [both_bif]; rfl
theorem rSub_eq (a b : Iv) : rSub a b = ivSub a b := by
  unfold rSub
  rw [both_bif]
  by_cases h : R a ∧ R b
  · have h1 := h.1.2
    have h2 := h.2.2
    rw [ivBoth_t h.1 h.2, ivSub_spec h.1 h.2, w64_of (by omega) (by omega), w64_of (by omega) (by omega)]; rfl
  · rw [ivBoth_f h, ivSub_out h]; rfl
theorem rSqr_eq (a : Iv) : rSqr a = ivSqr a := by
  unfold rSqr rSqr_e2 rSqr_e1 rSqr_e3 rSqr_e0
  by_cases h : R a
  · have h1 := h.2
    have e1 : w64 (0 - a.lo) = -a.lo := by rw [w64_of (by omega) (by omega)]; omega
    have e2 : w64 (0 - a.hi) = -a.hi := by rw [w64_of (by omega) (by omega)]; omega
    have e3 : max (max (max a.lo (-a.lo)) a.hi) (-a.hi) = far a := by unfold far; omega
    have h0 := near_far h
    have hs := sq_mono h0.1 h0.2.1
    have n0 : 0 ≤ near a * near a := Int.mul_nonneg h0.1 h0.1
    have m1 : 0 ≤ dn (near a * near a) 65536 := dn_nonneg (by omega) n0
    have m2 : dn (near a * near a) 65536 ≤ upq (far a * far a) 65536 := Int.le_trans (dn_mono (by omega) hs) (dn_le_upq (by omega))
    have fin : (bif (rMul (far a) (far a) true).2 then rOf (rMul (near a) (near a) false).1 (rMul (far a) (far a) true).1 else rNone) = ivSqr a := by
      rw [rMul_eq, rMul_eq, numMul_spec (by omega) (by omega), numMul_spec (by omega) (by omega), rq, rq, ivSqr_spec h]
      simp only [cond_true, cond_false]
      by_cases hc : upq (far a * far a) 65536 ≤ 1073741824
      · rw [told_in (by omega), told_in (by omega)]; rfl
      · rw [told_snd, numIn_f (by omega), ivOf_out (l := dn (near a * near a) 65536) (h := upq (far a * far a) 65536) (by omega)]; rfl
    rw [rRight_eq, ivRight_t h, e1, e2, e3]
    simp only [cond_true]
    by_cases hl : a.lo ≤ 0
    · have e4 : (bif decide (a.hi ≥ 0) then 0 else min (max a.lo (-a.lo)) (max a.hi (-a.hi))) = near a := by
        unfold near
        by_cases hh : a.hi ≥ 0
        · rw [decide_eq_true hh]; simp only [cond_true]; omega
        · rw [decide_eq_false hh]; simp only [cond_false]; omega
      rw [decide_eq_true hl, e4]
      simp only [cond_true]
      exact fin
    · have e4 : min (max a.lo (-a.lo)) (max a.hi (-a.hi)) = near a := by unfold near; omega
      rw [decide_eq_false hl, e4]
      simp only [cond_false]
      exact fin
  · rw [rRight_eq, ivRight_f h, ivSqr_out h]; rfl
theorem rRootIv_eq (a : Iv) : rRootIv a = ivRoot a := by
  unfold rRootIv ivRoot
  rw [rRoot_eq, rRoot_eq]; rfl
theorem min4_swap (a b c d : Int) : min4 a b c d = min4 a c b d := by
  unfold min4
  omega
theorem max4_swap (a b c d : Int) : max4 a b c d = max4 a c b d := by
  unfold max4
  omega
theorem rMulIv_eq (a b : Iv) : rMulIv a b = ivMul a b := by
  unfold rMulIv
  rw [both_bif]
  by_cases h : R a ∧ R b
  · have h1 := h.1.2
    have h2 := h.2.2
    rw [ivBoth_t h.1 h.2, ivMul_spec h.1 h.2, rEndsMul_eq]
    simp only [rMul_eq, cond_true]
    simp (disch := omega) only [numMul_spec]
    simp only [rq, cond_true, cond_false]
    rw [rends4_spec (dn_le_upq (by omega)) (dn_le_upq (by omega)) (dn_le_upq (by omega)) (dn_le_upq (by omega))]
    unfold mn mx
    rw [dn_min4 (by omega), upq_max4 (by omega), min4_swap, max4_swap]
  · rw [ivBoth_f h, ivMul_out h]; rfl
theorem rDivIv_eq (a b : Iv) : rDivIv a b = ivDiv a b := by
  unfold rDivIv
  rw [both_bif]
  by_cases h : R a ∧ R b
  · have h1 := h.1.2
    have h2 := h.2.2
    rw [ivBoth_t h.1 h.2]
    simp only [cond_true]
    by_cases h0 : b.lo ≤ 0 ∧ 0 ≤ b.hi
    · rw [decide_eq_true h0.1, decide_eq_true (show b.hi ≥ 0 from h0.2), ivDiv_out (fun k => k.2.2 h0)]; rfl
    · have fin : rEndsDiv a b = ivDiv a b := by
        rw [ivDiv_spec h.1 h.2 h0, rEndsDiv_eq]
        simp only [rDiv_eq]
        simp (disch := omega) only [numDiv_spec]
        rw [rends4_spec (dq_le (by omega)) (dq_le (by omega)) (dq_le (by omega)) (dq_le (by omega)), min4_swap, max4_swap]
      by_cases hl : b.lo ≤ 0
      · rw [decide_eq_true hl, decide_eq_false (by omega), fin]; rfl
      · rw [decide_eq_false hl, fin]; rfl
  · rw [ivBoth_f h, ivDiv_out (fun k => h ⟨k.1, k.2.1⟩)]; rfl
end Go.Proofs.YtalffjplbhelcaaGreatDoor
namespace Go.Proofs.YtalffjplbhelcaaGreatDoor
theorem tm_sign (a b : Int) : (0 ≤ a → 0 ≤ a.tmod b) ∧ (a ≤ 0 → a.tmod b ≤ 0) := by
  refine ⟨fun h => Int.tmod_nonneg b h, fun h => ?_⟩
  have := Int.tmod_nonneg b (a := -a) (by omega)
  rw [Int.neg_tmod] at this
  omega
theorem td_abs (a : Int) {b : Int} (h : -9223372036854775808 < a ∧ a ≤ 9223372036854775807) : -9223372036854775807 ≤ a.tdiv b ∧ a.tdiv b ≤ 9223372036854775807 := by
  have h1 : (a.tdiv b).natAbs ≤ a.natAbs := by
    rw [Int.natAbs_tdiv]
    exact Nat.div_le_self _ _
  omega
theorem ed_of {b : Int} (hb : 0 < b) (a q r : Int) (h1 : b * q + r = a) (h2 : 0 ≤ r) (h3 : r < b) : a / b = q := ((Int.ediv_emod_unique (r := r) (q := q) hb).2 ⟨by omega, h2, h3⟩).1
theorem nf_pos (a : Int) {b : Int} (hb : 0 < b) (h : -9223372036854775808 < a ∧ a ≤ 9223372036854775807) : numFloor a b = a / b := by
  have ht := td_abs a (b := b) h
  have he := Int.mul_tdiv_add_tmod a b
  have hs := tm_sign a b
  have hne : (b == 0) = false := beq_eq_false_iff_ne.2 (by omega)
  have hw1 : w64 (a.tdiv b) = a.tdiv b := w64_in (by omega)
  have hw2 : w64 (a.tdiv b - 1) = a.tdiv b - 1 := w64_in (by omega)
  have hl := Int.tmod_lt_of_pos a hb
  have hl' := Int.lt_tmod_of_pos a hb
  unfold numFloor numFloor_e0
  rw [hne, hw1, hw2, cond_false]
  by_cases hr : a.tmod b = 0
  · simp only [hr, bne_self_eq_false, cond_false]
    exact (ed_of hb a _ _ he (by omega) (by omega)).symm
  · have hr' : (a.tmod b != 0) = true := by simpa using hr
    rw [hr', decide_eq_false (show ¬ b < 0 by omega), cond_true]
    by_cases ha : a < 0
    · simp only [ha, decide_true, Bool.bne_false, cond_true]
      refine (ed_of hb a (a.tdiv b - 1) (a.tmod b + b) ?_ (by omega) (by omega)).symm
      rw [Int.mul_sub, Int.mul_one]
      omega
    · simp only [ha, decide_false, bne_self_eq_false, cond_false]
      exact (ed_of hb a _ _ he (hs.1 (by omega)) hl).symm
theorem dp_pos (n : Int) : 0 < decPower n := by
  unfold decPower
  exact Int.pow_pos (by decide)
theorem dp_le {n : Int} (h : n ≤ 6) : decPower n ≤ 1000000 := by
  unfold decPower
  have h1 : (10 : Nat) ^ n.toNat ≤ 10 ^ 6 := Nat.pow_le_pow_right (by decide) (by omega)
  have h2 : ((10 : Nat) ^ n.toNat : Nat) ≤ 1000000 := Nat.le_trans h1 (by decide)
  have h3 : ((10 : Int) ^ n.toNat) = (((10 : Nat) ^ n.toNat : Nat) : Int) := by push_cast; rfl
  rw [h3]
  omega
theorem w65 {d : Dec} (h : decRight d = true) : w64 (d.c * 65536) = d.c * 65536 := by
  have := dr_bounds h
  exact w64_in (by omega)
theorem decOf_val {d : Dec} (h : decRight d = true) : decOf d = ivOf (d.c * 65536 / decPower d.scale) (-((-(d.c * 65536)) / decPower d.scale)) := by
  have hb := dr_bounds h
  have hp := dp_pos d.scale
  have hn : ∀ a : Int, -10000000000000000 ≤ a ∧ a ≤ 10000000000000000 → -10000000000000000 ≤ a / decPower d.scale ∧ a / decPower d.scale ≤ 10000000000000000 := by
    intro a ha
    refine ⟨Int.le_ediv_of_mul_le hp ?_, Int.ediv_le_of_le_mul hp ?_⟩
    · have := Int.mul_le_mul_of_nonneg_left (show 1 ≤ decPower d.scale by omega) (show (0 : Int) ≤ 10000000000000000 by decide)
      omega
    · have := Int.mul_le_mul_of_nonneg_left (show 1 ≤ decPower d.scale by omega) (show (0 : Int) ≤ 10000000000000000 by decide)
      omega
  unfold decOf decOf_e1 decOf_e0
  rw [h, cond_true, w65 h, show w64 (0 - d.c * 65536) = -(d.c * 65536) by rw [w64_in (by omega)]; omega, nf_pos _ hp (by omega), nf_pos _ hp (by omega)]
  have h2 := hn (-(d.c * 65536)) (by omega)
  rw [show w64 (0 - (-(d.c * 65536)) / decPower d.scale) = -((-(d.c * 65536)) / decPower d.scale) by rw [w64_in (by omega)]; omega]
end Go.Proofs.YtalffjplbhelcaaGreatDoor
namespace Go.Proofs.YtalffjplbhelcaaGreatDoor
theorem rf_eq (a b : Int) : rFloor a b = numFloor a b := by
  unfold rFloor rFloor_e0 numFloor numFloor_e0
  cases hb : b == 0
  · simp only [cond_false]
    by_cases hr : a.tmod b = 0
    · simp only [hr, bne_self_eq_false, cond_false]
    · have hs := tm_sign a b
      have e : decide (a.tmod b < 0) = decide (a < 0) := by
        by_cases h : a < 0
        · have := hs.2 (by omega)
          rw [decide_eq_true h, decide_eq_true (by omega)]
        · have := hs.1 (by omega)
          rw [decide_eq_false h, decide_eq_false (by omega)]
      rw [e]
  · simp only [cond_true]
theorem cl_pos (a : Int) {b : Int} (hb : 0 < b) (hb' : b ≤ 1000000) (h : -10000000000000000 ≤ a ∧ a ≤ 10000000000000000) : rCeil a b = -((-a) / b) := by
  have hf : rFloor a b = a / b := by rw [rf_eq, nf_pos a hb (by omega)]
  have h1 := Int.mul_ediv_add_emod a b
  have h2 := Int.emod_nonneg a (Int.ne_of_gt hb)
  have h3 := Int.emod_lt_of_pos a hb
  have hc : b * (a / b) = a / b * b := Int.mul_comm _ _
  have hq : -10000000000000000 - 1 ≤ a / b ∧ a / b ≤ 10000000000000000 := by
    refine ⟨Int.le_ediv_of_mul_le hb ?_, Int.ediv_le_of_le_mul hb ?_⟩
    · have := Int.mul_le_mul_of_nonneg_left (show 1 ≤ b by omega) (show (0 : Int) ≤ 10000000000000001 by decide)
      omega
    · have := Int.mul_le_mul_of_nonneg_left (show 1 ≤ b by omega) (show (0 : Int) ≤ 10000000000000000 by decide)
      omega
  unfold rCeil rCeil_e0
  rw [hf, w64_in (n := a / b * b) (by omega)]
  by_cases hr : a % b = 0
  · have e : (a / b * b != a) = false := by rw [bne_eq_false_iff_eq]; omega
    rw [e, cond_false, ed_of hb (-a) (-(a / b)) 0 (by rw [Int.mul_neg]; omega) (by omega) hb]
    omega
  · have e : (a / b * b != a) = true := by rw [bne_iff_ne]; omega
    rw [e, cond_true, w64_in (by omega), ed_of hb (-a) (-(a / b) - 1) (b - a % b) (by rw [Int.mul_sub, Int.mul_neg, Int.mul_one]; omega) (by omega) (by omega)]
    omega
theorem decIv_eq (d : Dec) : rDecIv d = decOf d := by
  cases h : decRight d
  · have h' : rRightDec d = false := h
    unfold rDecIv decOf
    rw [h', h]
    rfl
  · have h' : rRightDec d = true := h
    have hb := dr_bounds h
    unfold rDecIv rDecIv_e0
    rw [decOf_val h, h', cond_true, w65 h, rf_eq, nf_pos _ (dp_pos _) (by omega), cl_pos _ (dp_pos _) (dp_le (by omega)) (by omega)]
    rfl
end Go.Proofs.YtalffjplbhelcaaGreatDoor
namespace Go.Proofs.YtalffjplbhelcaaGreatDoor
theorem gIndex_eq (x : Glass) (w : Iv) : gIndex x w = rIndex x w := by
  unfold gIndex rIndex rIndex_e3 rIndex_e2 rIndex_e1 rIndex_e0 gIndex_e3 gIndex_e2 gIndex_e1 gIndex_e0
  rw [rRootIv_eq, rAdd_eq, rAdd_eq, rAdd_eq, rDivIv_eq, rDivIv_eq, rDivIv_eq, rMulIv_eq, rMulIv_eq, rMulIv_eq, rSub_eq, rSub_eq, rSub_eq, rSqr_eq, decIv_eq, decIv_eq, decIv_eq, decIv_eq, decIv_eq, decIv_eq, rPoint_eq]
theorem gLnK_eq (k : Int) : gLnK k = rLine_ k := by
  unfold gLnK rLine_ gLn0 gLn1 gLn2 gLnN
  rw [decIv_eq, decIv_eq, decIv_eq]
  cases decide (k < 0) <;> rfl
theorem gAbbe_eq (x : Glass) : gAbbe x = rAbbe x := by
  have h0 : gLn0 = rLine_ 0 := gLnK_eq 0
  have h1 : gLn1 = rLine_ 1 := gLnK_eq 1
  have h2 : gLn2 = rLine_ 2 := gLnK_eq 2
  unfold gAbbe rAbbe gAbbe_e0 rAbbe_e0
  rw [h0, h1, h2, gIndex_eq, gIndex_eq, gIndex_eq, rDivIv_eq, rSub_eq, rSub_eq, rPoint_eq]
theorem dec_true {α : Type} [DecidableEq α] {a b : α} (h : a = b) : decide (a = b) = true := decide_eq_true h
theorem and_true3 {a b c d : Bool} (ha : a = true) (hb : b = true) (hc : c = true) (hd : d = true) : (bif a then (bif b then (bif c then d else false) else false) else false) = true := by
  subst ha hb hc hd; rfl
theorem bif_both {c : Bool} {a b : Bool} (ha : a = true) (hb : b = true) : (bif c then a else b) = true := by
  cases c
  · exact hb
  · exact ha
theorem lawGlassIndexT_true (x : Glass) (which a b k : Int) (tame : Bool) : lawGlassIndexT x which a b k tame = true :=
  bif_both
    (bif_both (and_true3 (dec_true (gIndex_eq _ _)) (dec_true (gAbbe_eq _)) (dec_true (gLnK_eq _)) (dec_true (gLnK_eq _)))
      (and_true3 (dec_true (gIndex_eq _ _)) (dec_true (gAbbe_eq _)) (dec_true (gLnK_eq _)) (dec_true (gLnK_eq _))))
    (bif_both (and_true3 (dec_true (gIndex_eq _ _)) (dec_true (gAbbe_eq _)) (dec_true (gLnK_eq _)) (dec_true (gLnK_eq _)))
      (and_true3 (dec_true (gIndex_eq _ _)) (dec_true (gAbbe_eq _)) (dec_true (gLnK_eq _)) (dec_true (gLnK_eq _))))
end Go.Proofs.YtalffjplbhelcaaGreatDoor
namespace Go.Proofs.YtalffjplbhelcaaGreatDoor
open Go.RowKit
def noI64 (v : Value) : Bool := match v with
  | .int .i64 _ => false
  | _ => true
theorem pow_no : ∀ v ∈ (powBox 0).cs, noI64 v = true := by decide
theorem pow_args {W : World} {tP : Nat} {a1 : Option Addr} {N : Nat} (hT : At [powBox tP] W) (h1 : Ints W a1 N) : ∃ (NA : List Box) (x1 : Nat → Int), ArgI a1 N x1 NA ∧ (NA.all fun b => b.ro) = true ∧ At (powBox tP :: NA) W ∧ ((powBox tP :: NA).map Box.g).Nodup := by
  by_cases h0 : N = 0
  · exact ⟨[], fun _ => 0, .inl ⟨rfl, h0⟩, rfl, hT, by simp⟩
  · rcases h1 with h | ⟨b1, o1, rfl, cs1, t1, fr1, hh1, z1, hz1⟩
    · exact absurd h h0
    · have ht := hT (powBox tP) List.mem_cons_self
      refine ⟨[⟨b1, cs1, t1, true⟩], z1, .inr ⟨b1, o1, cs1, t1, rfl, rfl, hz1⟩, rfl, ?_, ?_⟩
      · intro c hc
        rcases List.mem_cons.1 hc with rfl | hc
        · exact ht
        · obtain rfl := List.mem_singleton.1 hc
          exact ⟨fr1, hh1⟩
      · have hne : (powBox tP).g ≠ b1 := by
          rintro rfl
          obtain ⟨fr, hp⟩ := ht
          have he := hp.symm.trans hh1
          have hcs : (powBox 0).cs = cs1 := by
            have h2 := Option.some.inj he
            injection h2 with h3 h4 h5
            exact congrArg Array.toList h3
          have hv := hz1 0 (by omega)
          rw [← hcs] at hv
          exact Bool.noConfusion (pow_no _ (List.mem_of_getElem? hv))
        show [(powBox tP).g, b1].Nodup
        simp [hne]
end Go.Proofs.YtalffjplbhelcaaGreatDoor
namespace Go.Proofs.YtalffjplbhelcaaGreatDoor
open Go.RowKit
theorem glassIndex_calls {W : World} {tP : Nat} (hT : At [powBox tP] W) (a1 : Option Addr) (N cap : Nat) (h1 : Ints W a1 N) (which a b k : Int) (tame : Bool) : Calls Tryz.prog 3 #[.slice a1 N cap, .int .i64 which, .int .i64 a, .int .i64 b, .int .i64 k, .bool tame] W fun e W' => e = .returned (.bool true) ∧ Below W.heap.size W W' := by
  obtain ⟨NA, x1, ha, hro, hA, hnd⟩ := pow_args hT h1
  obtain ⟨h2, h5⟩ := hGl_len N x1
  obtain ⟨j, hj, hjl⟩ := pick_L h2 h5 which
  exact (c_lawGlassIndex a1 N cap j tP x1 _ NA which a b k tame ha rfl h2 hj hjl hro (lawGlassIndexT_true _ which a b k tame) W hA hnd).mono fun e w' ⟨v, N', he, ⟨hv, _⟩, _, _, hb⟩ => ⟨by rw [he, hv], hb⟩
end Go.Proofs.YtalffjplbhelcaaGreatDoor
