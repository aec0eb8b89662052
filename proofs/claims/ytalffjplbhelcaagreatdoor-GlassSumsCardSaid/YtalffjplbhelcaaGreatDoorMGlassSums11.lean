import Derived.Test.YtalffjplbhelcaaGreatDoorMGlassSums10
import Derived.Test.YtalffjplbhelcaaGreatDoorMGlassSums4
import Derived.Test.YtalffjplbhelcaaGreatDoorMGlassSums9
import Derived.Test.YtalffjplbhelcaaGreatDoorMGlassSums3
import Derived.Test.YtalffjplbhelcaaGreatDoorMGlassSums7
import Derived.Test.YtalffjplbhelcaaGreatDoorMGlassSums8
import Derived.Test.YtalffjplbhelcaaGreatDoorMGlassSums1
set_option linter.unusedVariables false
set_option linter.unusedSimpArgs false
namespace Go.Proofs.YtalffjplbhelcaaGreatDoor
open Go.RowKit
attribute [local irreducible] AC AR DWalk
def gIndex_b0 (x : Glass) (wave : Iv) (g : Nat) : Box := ⟨g, (Glass.cells x), 29, false⟩
def gIndex_b1 (x : Glass) (wave : Iv) (g : Nat) : Box := ⟨g, [.int .i64 ((ivSqr wave).lo), .int .i64 ((ivSqr wave).hi), .bool ((ivSqr wave).no)], 32, false⟩
def gIndex_b2 (x : Glass) (wave : Iv) (g : Nat) : Box := ⟨g, [.int .i64 ((ivPoint 65536).lo), .int .i64 ((ivPoint 65536).hi), .bool ((ivPoint 65536).no)], 32, false⟩
def gIndex_e0 (x : Glass) (wave : Iv) : Iv := (ivDiv (ivMul (decOf x.b.d0) (ivSqr wave)) (ivSub (ivSqr wave) (decOf x.c.d0)))
def gIndex_e1 (x : Glass) (wave : Iv) : Iv := (ivDiv (ivMul (decOf x.b.d1) (ivSqr wave)) (ivSub (ivSqr wave) (decOf x.c.d1)))
def gIndex_e2 (x : Glass) (wave : Iv) : Iv := (ivAdd (ivAdd (ivPoint 65536) (gIndex_e0 x wave)) (gIndex_e1 x wave))
def gIndex_e3 (x : Glass) (wave : Iv) : Iv := (ivDiv (ivMul (decOf x.b.d2) (ivSqr wave)) (ivSub (ivSqr wave) (decOf x.c.d2)))
def gIndex (x : Glass) (wave : Iv) : Iv := (bif sEq x.name (⟨#[97, 105, 114]⟩ : ByteArray) then (ivPoint 65536) else (ivRoot (ivAdd (gIndex_e2 x wave) (gIndex_e3 x wave))))
set_option maxRecDepth 100000 in
set_option maxHeartbeats 4000000 in
theorem c_gIndex (x : Glass) (wave : Iv) : Gets Tryz.prog 14 #[.agg (Glass.cells x).toArray, (Iv.v wave)] (Iv.v (gIndex x wave)) := by
 refine gets_fin Tryz.func14 rfl rfl rfl (aQ (aL (ao 2 rfl rfl (st_box (v := .agg (Glass.cells x).toArray) (cs := (Glass.cells x)) rfl rfl rfl fun g0 => (ao 3 rfl rfl (st_box (v := (Iv.v wave)) (cs := [.int .i64 wave.lo, .int .i64 wave.hi, .bool wave.no]) rfl rfl rfl fun g1 => (ao 4 rfl rfl (st_new zero32 rfl fun g2 => (aN (aQ ?_))))))))))
 refine ac_any follows 7 rfl (fun Φ stepR doneR permR => ?_)
 refine ((fun s1_21 => ?_) : (∀ (E : Env) (b1_4 : Nat) (b1_3 : Nat), E 2 = .pointer (some ⟨g0, 0, none⟩) → E 4 = .pointer (some ⟨g2, 0, none⟩) → E 5 = .pointer (some ⟨b1_3, 0, none⟩) → E 6 = .pointer (some ⟨b1_4, 0, none⟩) → Φ 0 [true, true, true, true, true, true, true] E [(gIndex_b1 x wave b1_4), (gIndex_b2 x wave b1_3), ⟨g2, [.int .i64 0, .int .i64 0, .bool false], 32, false⟩, ⟨g1, [.int .i64 wave.lo, .int .i64 wave.hi, .bool wave.no], 32, false⟩, (gIndex_b0 x wave g0)]) → _) ?_
 ·have s1_20 : ∀ (E : Env) (b1_4 : Nat) (b1_3 : Nat), E 2 = .pointer (some ⟨g0, 0, none⟩) → E 4 = .pointer (some ⟨g2, 0, none⟩) → E 5 = .pointer (some ⟨b1_3, 0, none⟩) → E 6 = .pointer (some ⟨b1_4, 0, none⟩) → E 10 = (Iv.v (ivSqr wave)) → Φ 1 [true, true, true, true, true, true, false] E [⟨b1_4, [.int .i64 0, .int .i64 0, .bool false], 32, false⟩, (gIndex_b2 x wave b1_3), ⟨g2, [.int .i64 0, .int .i64 0, .bool false], 32, false⟩, ⟨g1, [.int .i64 wave.lo, .int .i64 wave.hi, .bool wave.no], 32, false⟩, (gIndex_b0 x wave g0)] := by
   intro E b1_4 b1_3 q2 q4 q5 q6 q10
   obtain ⟨E0, rfl⟩ : ∃ E0 : Env, E = (((((E0.put (some 2) (.pointer (some ⟨g0, 0, none⟩))).put (some 4) (.pointer (some ⟨g2, 0, none⟩))).put (some 5) (.pointer (some ⟨b1_3, 0, none⟩))).put (some 6) (.pointer (some ⟨b1_4, 0, none⟩))).put (some 10) ((Iv.v (ivSqr wave)))) := ⟨E, by rw [put_self q2, put_self q4, put_self q5, put_self q6, put_self q10]⟩
   refine stepR 0 _ _ _ [6] (by kernel_rfl) rfl ⟨?_, trivial⟩
   ·refine opR_op (d := none) rfl rfl rfl (st_sta (cs := [.int .i64 ((ivSqr wave).lo), .int .i64 ((ivSqr wave).hi), .bool ((ivSqr wave).no)]) agg32 0 rfl rfl rfl rfl rfl rfl rfl rfl rfl ?_)
    exact s1_21 _ _ _ rfl rfl rfl rfl
  have s1_19 : ∀ (E : Env) (b1_4 : Nat) (b1_3 : Nat), E 2 = .pointer (some ⟨g0, 0, none⟩) → E 4 = .pointer (some ⟨g2, 0, none⟩) → E 5 = .pointer (some ⟨b1_3, 0, none⟩) → E 6 = .pointer (some ⟨b1_4, 0, none⟩) → E 8 = (Iv.v (ivPoint 65536)) → E 10 = (Iv.v (ivSqr wave)) → Φ 2 [true, true, true, true, true, false, false] E [⟨b1_4, [.int .i64 0, .int .i64 0, .bool false], 32, false⟩, ⟨b1_3, [.int .i64 0, .int .i64 0, .bool false], 32, false⟩, ⟨g2, [.int .i64 0, .int .i64 0, .bool false], 32, false⟩, ⟨g1, [.int .i64 wave.lo, .int .i64 wave.hi, .bool wave.no], 32, false⟩, (gIndex_b0 x wave g0)] := by
   intro E b1_4 b1_3 q2 q4 q5 q6 q8 q10
   obtain ⟨E0, rfl⟩ : ∃ E0 : Env, E = ((((((E0.put (some 2) (.pointer (some ⟨g0, 0, none⟩))).put (some 4) (.pointer (some ⟨g2, 0, none⟩))).put (some 5) (.pointer (some ⟨b1_3, 0, none⟩))).put (some 6) (.pointer (some ⟨b1_4, 0, none⟩))).put (some 8) ((Iv.v (ivPoint 65536)))).put (some 10) ((Iv.v (ivSqr wave)))) := ⟨E, by rw [put_self q2, put_self q4, put_self q5, put_self q6, put_self q8, put_self q10]⟩
   refine stepR 1 _ _ _ [5] (by kernel_rfl) rfl ⟨?_, trivial⟩
   ·refine opR_op (d := none) rfl rfl rfl (st_sta (cs := [.int .i64 ((ivPoint 65536).lo), .int .i64 ((ivPoint 65536).hi), .bool ((ivPoint 65536).no)]) agg32 1 rfl rfl rfl rfl rfl rfl rfl rfl rfl ?_)
    exact s1_20 _ _ _ rfl rfl rfl rfl rfl
  have s1_18 : ∀ (E : Env) (b1_3 : Nat), E 2 = .pointer (some ⟨g0, 0, none⟩) → E 4 = .pointer (some ⟨g2, 0, none⟩) → E 5 = .pointer (some ⟨b1_3, 0, none⟩) → E 8 = (Iv.v (ivPoint 65536)) → E 10 = (Iv.v (ivSqr wave)) → Φ 3 [true, true, true, true, false, false, false] E [⟨b1_3, [.int .i64 0, .int .i64 0, .bool false], 32, false⟩, ⟨g2, [.int .i64 0, .int .i64 0, .bool false], 32, false⟩, ⟨g1, [.int .i64 wave.lo, .int .i64 wave.hi, .bool wave.no], 32, false⟩, (gIndex_b0 x wave g0)] := by
   intro E b1_3 q2 q4 q5 q8 q10
   obtain ⟨E0, rfl⟩ : ∃ E0 : Env, E = (((((E0.put (some 2) (.pointer (some ⟨g0, 0, none⟩))).put (some 4) (.pointer (some ⟨g2, 0, none⟩))).put (some 5) (.pointer (some ⟨b1_3, 0, none⟩))).put (some 8) ((Iv.v (ivPoint 65536)))).put (some 10) ((Iv.v (ivSqr wave)))) := ⟨E, by rw [put_self q2, put_self q4, put_self q5, put_self q8, put_self q10]⟩
   refine stepR 2 _ _ _ [4] (by kernel_rfl) rfl ⟨?_, trivial⟩
   ·refine opR_op (d := (some 6)) rfl rfl rfl (st_new zero32 rfl fun b1_4 => ?_)
    exact s1_19 _ _ _ rfl rfl rfl rfl rfl rfl
  have s1_17 : ∀ (E : Env) (b1_4 : Nat), E 2 = .pointer (some ⟨g0, 0, none⟩) → E 4 = .pointer (some ⟨g2, 0, none⟩) → E 6 = .pointer (some ⟨b1_4, 0, none⟩) → E 8 = (Iv.v (ivPoint 65536)) → E 10 = (Iv.v (ivSqr wave)) → Φ 3 [true, true, true, false, true, false, false] E [⟨b1_4, [.int .i64 0, .int .i64 0, .bool false], 32, false⟩, ⟨g2, [.int .i64 0, .int .i64 0, .bool false], 32, false⟩, ⟨g1, [.int .i64 wave.lo, .int .i64 wave.hi, .bool wave.no], 32, false⟩, (gIndex_b0 x wave g0)] := by
   intro E b1_4 q2 q4 q6 q8 q10
   obtain ⟨E0, rfl⟩ : ∃ E0 : Env, E = (((((E0.put (some 2) (.pointer (some ⟨g0, 0, none⟩))).put (some 4) (.pointer (some ⟨g2, 0, none⟩))).put (some 6) (.pointer (some ⟨b1_4, 0, none⟩))).put (some 8) ((Iv.v (ivPoint 65536)))).put (some 10) ((Iv.v (ivSqr wave)))) := ⟨E, by rw [put_self q2, put_self q4, put_self q6, put_self q8, put_self q10]⟩
   refine stepR 2 _ _ _ [3] (by kernel_rfl) rfl ⟨?_, trivial⟩
   ·refine opR_op (d := (some 5)) rfl rfl rfl (st_new zero32 rfl fun b1_3 => ?_)
    exact permR _ _ _ _ _ (List.Perm.trans (List.Perm.swap _ _ _) (List.Perm.cons _ (List.Perm.refl _))).symm (s1_19 _ _ _ rfl rfl rfl rfl rfl rfl)
  have s1_16 : ∀ (E : Env) (b1_4 : Nat) (b1_3 : Nat), E 2 = .pointer (some ⟨g0, 0, none⟩) → E 4 = .pointer (some ⟨g2, 0, none⟩) → E 5 = .pointer (some ⟨b1_3, 0, none⟩) → E 6 = .pointer (some ⟨b1_4, 0, none⟩) → E 8 = (Iv.v (ivPoint 65536)) → E 9 = (Iv.v wave) → Φ 3 [true, true, false, true, true, false, false] E [⟨b1_4, [.int .i64 0, .int .i64 0, .bool false], 32, false⟩, ⟨b1_3, [.int .i64 0, .int .i64 0, .bool false], 32, false⟩, ⟨g2, [.int .i64 0, .int .i64 0, .bool false], 32, false⟩, ⟨g1, [.int .i64 wave.lo, .int .i64 wave.hi, .bool wave.no], 32, false⟩, (gIndex_b0 x wave g0)] := by
   intro E b1_4 b1_3 q2 q4 q5 q6 q8 q9
   obtain ⟨E0, rfl⟩ : ∃ E0 : Env, E = ((((((E0.put (some 2) (.pointer (some ⟨g0, 0, none⟩))).put (some 4) (.pointer (some ⟨g2, 0, none⟩))).put (some 5) (.pointer (some ⟨b1_3, 0, none⟩))).put (some 6) (.pointer (some ⟨b1_4, 0, none⟩))).put (some 8) ((Iv.v (ivPoint 65536)))).put (some 9) (Iv.v wave)) := ⟨E, by rw [put_self q2, put_self q4, put_self q5, put_self q6, put_self q8, put_self q9]⟩
   refine stepR 2 _ _ _ [2] (by kernel_rfl) rfl ⟨?_, trivial⟩
   ·refine opR_op (d := (some 10)) rfl rfl rfl (st_cf (c_ivSqr wave) Tryz.func43 rfl (by decide) rfl rfl rfl ?_)
    exact s1_19 _ _ _ rfl rfl rfl rfl rfl rfl
  have s1_15 : ∀ (E : Env), E 2 = .pointer (some ⟨g0, 0, none⟩) → E 4 = .pointer (some ⟨g2, 0, none⟩) → E 8 = (Iv.v (ivPoint 65536)) → E 10 = (Iv.v (ivSqr wave)) → Φ 4 [true, true, true, false, false, false, false] E [⟨g2, [.int .i64 0, .int .i64 0, .bool false], 32, false⟩, ⟨g1, [.int .i64 wave.lo, .int .i64 wave.hi, .bool wave.no], 32, false⟩, (gIndex_b0 x wave g0)] := by
   intro E q2 q4 q8 q10
   obtain ⟨E0, rfl⟩ : ∃ E0 : Env, E = ((((E0.put (some 2) (.pointer (some ⟨g0, 0, none⟩))).put (some 4) (.pointer (some ⟨g2, 0, none⟩))).put (some 8) ((Iv.v (ivPoint 65536)))).put (some 10) ((Iv.v (ivSqr wave)))) := ⟨E, by rw [put_self q2, put_self q4, put_self q8, put_self q10]⟩
   refine stepR 3 _ _ _ [3, 4] (by kernel_rfl) rfl ⟨?_, ?_, trivial⟩
   ·refine opR_op (d := (some 5)) rfl rfl rfl (st_new zero32 rfl fun b1_3 => ?_)
    exact s1_18 _ _ rfl rfl rfl rfl rfl
   ·refine opR_op (d := (some 6)) rfl rfl rfl (st_new zero32 rfl fun b1_4 => ?_)
    exact s1_17 _ _ rfl rfl rfl rfl rfl
  have s1_14 : ∀ (E : Env) (b1_3 : Nat), E 2 = .pointer (some ⟨g0, 0, none⟩) → E 4 = .pointer (some ⟨g2, 0, none⟩) → E 5 = .pointer (some ⟨b1_3, 0, none⟩) → E 8 = (Iv.v (ivPoint 65536)) → E 9 = (Iv.v wave) → Φ 4 [true, true, false, true, false, false, false] E [⟨b1_3, [.int .i64 0, .int .i64 0, .bool false], 32, false⟩, ⟨g2, [.int .i64 0, .int .i64 0, .bool false], 32, false⟩, ⟨g1, [.int .i64 wave.lo, .int .i64 wave.hi, .bool wave.no], 32, false⟩, (gIndex_b0 x wave g0)] := by
   intro E b1_3 q2 q4 q5 q8 q9
   obtain ⟨E0, rfl⟩ : ∃ E0 : Env, E = (((((E0.put (some 2) (.pointer (some ⟨g0, 0, none⟩))).put (some 4) (.pointer (some ⟨g2, 0, none⟩))).put (some 5) (.pointer (some ⟨b1_3, 0, none⟩))).put (some 8) ((Iv.v (ivPoint 65536)))).put (some 9) (Iv.v wave)) := ⟨E, by rw [put_self q2, put_self q4, put_self q5, put_self q8, put_self q9]⟩
   refine stepR 3 _ _ _ [2, 4] (by kernel_rfl) rfl ⟨?_, ?_, trivial⟩
   ·refine opR_op (d := (some 10)) rfl rfl rfl (st_cf (c_ivSqr wave) Tryz.func43 rfl (by decide) rfl rfl rfl ?_)
    exact s1_18 _ _ rfl rfl rfl rfl rfl
   ·refine opR_op (d := (some 6)) rfl rfl rfl (st_new zero32 rfl fun b1_4 => ?_)
    exact s1_16 _ _ _ rfl rfl rfl rfl rfl rfl
  have s1_13 : ∀ (E : Env) (b1_4 : Nat), E 2 = .pointer (some ⟨g0, 0, none⟩) → E 4 = .pointer (some ⟨g2, 0, none⟩) → E 6 = .pointer (some ⟨b1_4, 0, none⟩) → E 8 = (Iv.v (ivPoint 65536)) → E 9 = (Iv.v wave) → Φ 4 [true, true, false, false, true, false, false] E [⟨b1_4, [.int .i64 0, .int .i64 0, .bool false], 32, false⟩, ⟨g2, [.int .i64 0, .int .i64 0, .bool false], 32, false⟩, ⟨g1, [.int .i64 wave.lo, .int .i64 wave.hi, .bool wave.no], 32, false⟩, (gIndex_b0 x wave g0)] := by
   intro E b1_4 q2 q4 q6 q8 q9
   obtain ⟨E0, rfl⟩ : ∃ E0 : Env, E = (((((E0.put (some 2) (.pointer (some ⟨g0, 0, none⟩))).put (some 4) (.pointer (some ⟨g2, 0, none⟩))).put (some 6) (.pointer (some ⟨b1_4, 0, none⟩))).put (some 8) ((Iv.v (ivPoint 65536)))).put (some 9) (Iv.v wave)) := ⟨E, by rw [put_self q2, put_self q4, put_self q6, put_self q8, put_self q9]⟩
   refine stepR 3 _ _ _ [2, 3] (by kernel_rfl) rfl ⟨?_, ?_, trivial⟩
   ·refine opR_op (d := (some 10)) rfl rfl rfl (st_cf (c_ivSqr wave) Tryz.func43 rfl (by decide) rfl rfl rfl ?_)
    exact s1_17 _ _ rfl rfl rfl rfl rfl
   ·refine opR_op (d := (some 5)) rfl rfl rfl (st_new zero32 rfl fun b1_3 => ?_)
    exact permR _ _ _ _ _ (List.Perm.trans (List.Perm.swap _ _ _) (List.Perm.cons _ (List.Perm.refl _))).symm (s1_16 _ _ _ rfl rfl rfl rfl rfl rfl)
  have s1_12 : ∀ (E : Env) (b1_4 : Nat) (b1_3 : Nat), E 2 = .pointer (some ⟨g0, 0, none⟩) → E 3 = .pointer (some ⟨g1, 0, none⟩) → E 4 = .pointer (some ⟨g2, 0, none⟩) → E 5 = .pointer (some ⟨b1_3, 0, none⟩) → E 6 = .pointer (some ⟨b1_4, 0, none⟩) → E 8 = (Iv.v (ivPoint 65536)) → Φ 4 [true, false, false, true, true, false, false] E [⟨b1_4, [.int .i64 0, .int .i64 0, .bool false], 32, false⟩, ⟨b1_3, [.int .i64 0, .int .i64 0, .bool false], 32, false⟩, ⟨g2, [.int .i64 0, .int .i64 0, .bool false], 32, false⟩, ⟨g1, [.int .i64 wave.lo, .int .i64 wave.hi, .bool wave.no], 32, false⟩, (gIndex_b0 x wave g0)] := by
   intro E b1_4 b1_3 q2 q3 q4 q5 q6 q8
   obtain ⟨E0, rfl⟩ : ∃ E0 : Env, E = ((((((E0.put (some 2) (.pointer (some ⟨g0, 0, none⟩))).put (some 3) (.pointer (some ⟨g1, 0, none⟩))).put (some 4) (.pointer (some ⟨g2, 0, none⟩))).put (some 5) (.pointer (some ⟨b1_3, 0, none⟩))).put (some 6) (.pointer (some ⟨b1_4, 0, none⟩))).put (some 8) ((Iv.v (ivPoint 65536)))) := ⟨E, by rw [put_self q2, put_self q3, put_self q4, put_self q5, put_self q6, put_self q8]⟩
   refine stepR 3 _ _ _ [1] (by kernel_rfl) rfl ⟨?_, trivial⟩
   ·refine opR_op (d := (some 9)) rfl rfl rfl (st_lda (vs := [.int .i64 wave.lo, .int .i64 wave.hi, .bool wave.no]) agg32 3 rfl rfl rfl rfl rfl rfl ?_)
    exact s1_16 _ _ _ rfl rfl rfl rfl rfl rfl
  have s1_11 : ∀ (E : Env) (b1_4 : Nat) (b1_3 : Nat), E 2 = .pointer (some ⟨g0, 0, none⟩) → E 4 = .pointer (some ⟨g2, 0, none⟩) → E 5 = .pointer (some ⟨b1_3, 0, none⟩) → E 6 = .pointer (some ⟨b1_4, 0, none⟩) → E 9 = (Iv.v wave) → Φ 4 [false, true, false, true, true, false, false] E [⟨b1_4, [.int .i64 0, .int .i64 0, .bool false], 32, false⟩, ⟨b1_3, [.int .i64 0, .int .i64 0, .bool false], 32, false⟩, ⟨g2, [.int .i64 0, .int .i64 0, .bool false], 32, false⟩, ⟨g1, [.int .i64 wave.lo, .int .i64 wave.hi, .bool wave.no], 32, false⟩, (gIndex_b0 x wave g0)] := by
   intro E b1_4 b1_3 q2 q4 q5 q6 q9
   obtain ⟨E0, rfl⟩ : ∃ E0 : Env, E = (((((E0.put (some 2) (.pointer (some ⟨g0, 0, none⟩))).put (some 4) (.pointer (some ⟨g2, 0, none⟩))).put (some 5) (.pointer (some ⟨b1_3, 0, none⟩))).put (some 6) (.pointer (some ⟨b1_4, 0, none⟩))).put (some 9) (Iv.v wave)) := ⟨E, by rw [put_self q2, put_self q4, put_self q5, put_self q6, put_self q9]⟩
   refine stepR 3 _ _ _ [0] (by kernel_rfl) rfl ⟨?_, trivial⟩
   ·refine opR_op (d := (some 8)) rfl rfl rfl (st_cf (c_ivPoint 65536) Tryz.func49 rfl (by decide) rfl rfl rfl ?_)
    exact s1_16 _ _ _ rfl rfl rfl rfl rfl rfl
  have s1_10 : ∀ (E : Env), E 2 = .pointer (some ⟨g0, 0, none⟩) → E 4 = .pointer (some ⟨g2, 0, none⟩) → E 8 = (Iv.v (ivPoint 65536)) → E 9 = (Iv.v wave) → Φ 5 [true, true, false, false, false, false, false] E [⟨g2, [.int .i64 0, .int .i64 0, .bool false], 32, false⟩, ⟨g1, [.int .i64 wave.lo, .int .i64 wave.hi, .bool wave.no], 32, false⟩, (gIndex_b0 x wave g0)] := by
   intro E q2 q4 q8 q9
   obtain ⟨E0, rfl⟩ : ∃ E0 : Env, E = ((((E0.put (some 2) (.pointer (some ⟨g0, 0, none⟩))).put (some 4) (.pointer (some ⟨g2, 0, none⟩))).put (some 8) ((Iv.v (ivPoint 65536)))).put (some 9) (Iv.v wave)) := ⟨E, by rw [put_self q2, put_self q4, put_self q8, put_self q9]⟩
   refine stepR 4 _ _ _ [2, 3, 4] (by kernel_rfl) rfl ⟨?_, ?_, ?_, trivial⟩
   ·refine opR_op (d := (some 10)) rfl rfl rfl (st_cf (c_ivSqr wave) Tryz.func43 rfl (by decide) rfl rfl rfl ?_)
    exact s1_15 _ rfl rfl rfl rfl
   ·refine opR_op (d := (some 5)) rfl rfl rfl (st_new zero32 rfl fun b1_3 => ?_)
    exact s1_14 _ _ rfl rfl rfl rfl rfl
   ·refine opR_op (d := (some 6)) rfl rfl rfl (st_new zero32 rfl fun b1_4 => ?_)
    exact s1_13 _ _ rfl rfl rfl rfl rfl
  have s1_9 : ∀ (E : Env) (b1_3 : Nat), E 2 = .pointer (some ⟨g0, 0, none⟩) → E 3 = .pointer (some ⟨g1, 0, none⟩) → E 4 = .pointer (some ⟨g2, 0, none⟩) → E 5 = .pointer (some ⟨b1_3, 0, none⟩) → E 8 = (Iv.v (ivPoint 65536)) → Φ 5 [true, false, false, true, false, false, false] E [⟨b1_3, [.int .i64 0, .int .i64 0, .bool false], 32, false⟩, ⟨g2, [.int .i64 0, .int .i64 0, .bool false], 32, false⟩, ⟨g1, [.int .i64 wave.lo, .int .i64 wave.hi, .bool wave.no], 32, false⟩, (gIndex_b0 x wave g0)] := by
   intro E b1_3 q2 q3 q4 q5 q8
   obtain ⟨E0, rfl⟩ : ∃ E0 : Env, E = (((((E0.put (some 2) (.pointer (some ⟨g0, 0, none⟩))).put (some 3) (.pointer (some ⟨g1, 0, none⟩))).put (some 4) (.pointer (some ⟨g2, 0, none⟩))).put (some 5) (.pointer (some ⟨b1_3, 0, none⟩))).put (some 8) ((Iv.v (ivPoint 65536)))) := ⟨E, by rw [put_self q2, put_self q3, put_self q4, put_self q5, put_self q8]⟩
   refine stepR 4 _ _ _ [1, 4] (by kernel_rfl) rfl ⟨?_, ?_, trivial⟩
   ·refine opR_op (d := (some 9)) rfl rfl rfl (st_lda (vs := [.int .i64 wave.lo, .int .i64 wave.hi, .bool wave.no]) agg32 2 rfl rfl rfl rfl rfl rfl ?_)
    exact s1_14 _ _ rfl rfl rfl rfl rfl
   ·refine opR_op (d := (some 6)) rfl rfl rfl (st_new zero32 rfl fun b1_4 => ?_)
    exact s1_12 _ _ _ rfl rfl rfl rfl rfl rfl
  have s1_8 : ∀ (E : Env) (b1_4 : Nat), E 2 = .pointer (some ⟨g0, 0, none⟩) → E 3 = .pointer (some ⟨g1, 0, none⟩) → E 4 = .pointer (some ⟨g2, 0, none⟩) → E 6 = .pointer (some ⟨b1_4, 0, none⟩) → E 8 = (Iv.v (ivPoint 65536)) → Φ 5 [true, false, false, false, true, false, false] E [⟨b1_4, [.int .i64 0, .int .i64 0, .bool false], 32, false⟩, ⟨g2, [.int .i64 0, .int .i64 0, .bool false], 32, false⟩, ⟨g1, [.int .i64 wave.lo, .int .i64 wave.hi, .bool wave.no], 32, false⟩, (gIndex_b0 x wave g0)] := by
   intro E b1_4 q2 q3 q4 q6 q8
   obtain ⟨E0, rfl⟩ : ∃ E0 : Env, E = (((((E0.put (some 2) (.pointer (some ⟨g0, 0, none⟩))).put (some 3) (.pointer (some ⟨g1, 0, none⟩))).put (some 4) (.pointer (some ⟨g2, 0, none⟩))).put (some 6) (.pointer (some ⟨b1_4, 0, none⟩))).put (some 8) ((Iv.v (ivPoint 65536)))) := ⟨E, by rw [put_self q2, put_self q3, put_self q4, put_self q6, put_self q8]⟩
   refine stepR 4 _ _ _ [1, 3] (by kernel_rfl) rfl ⟨?_, ?_, trivial⟩
   ·refine opR_op (d := (some 9)) rfl rfl rfl (st_lda (vs := [.int .i64 wave.lo, .int .i64 wave.hi, .bool wave.no]) agg32 2 rfl rfl rfl rfl rfl rfl ?_)
    exact s1_13 _ _ rfl rfl rfl rfl rfl
   ·refine opR_op (d := (some 5)) rfl rfl rfl (st_new zero32 rfl fun b1_3 => ?_)
    exact permR _ _ _ _ _ (List.Perm.trans (List.Perm.swap _ _ _) (List.Perm.cons _ (List.Perm.refl _))).symm (s1_12 _ _ _ rfl rfl rfl rfl rfl rfl)
  have s1_7 : ∀ (E : Env) (b1_3 : Nat), E 2 = .pointer (some ⟨g0, 0, none⟩) → E 4 = .pointer (some ⟨g2, 0, none⟩) → E 5 = .pointer (some ⟨b1_3, 0, none⟩) → E 9 = (Iv.v wave) → Φ 5 [false, true, false, true, false, false, false] E [⟨b1_3, [.int .i64 0, .int .i64 0, .bool false], 32, false⟩, ⟨g2, [.int .i64 0, .int .i64 0, .bool false], 32, false⟩, ⟨g1, [.int .i64 wave.lo, .int .i64 wave.hi, .bool wave.no], 32, false⟩, (gIndex_b0 x wave g0)] := by
   intro E b1_3 q2 q4 q5 q9
   obtain ⟨E0, rfl⟩ : ∃ E0 : Env, E = ((((E0.put (some 2) (.pointer (some ⟨g0, 0, none⟩))).put (some 4) (.pointer (some ⟨g2, 0, none⟩))).put (some 5) (.pointer (some ⟨b1_3, 0, none⟩))).put (some 9) (Iv.v wave)) := ⟨E, by rw [put_self q2, put_self q4, put_self q5, put_self q9]⟩
   refine stepR 4 _ _ _ [0, 4] (by kernel_rfl) rfl ⟨?_, ?_, trivial⟩
   ·refine opR_op (d := (some 8)) rfl rfl rfl (st_cf (c_ivPoint 65536) Tryz.func49 rfl (by decide) rfl rfl rfl ?_)
    exact s1_14 _ _ rfl rfl rfl rfl rfl
   ·refine opR_op (d := (some 6)) rfl rfl rfl (st_new zero32 rfl fun b1_4 => ?_)
    exact s1_11 _ _ _ rfl rfl rfl rfl rfl
  have s1_6 : ∀ (E : Env) (b1_4 : Nat), E 2 = .pointer (some ⟨g0, 0, none⟩) → E 4 = .pointer (some ⟨g2, 0, none⟩) → E 6 = .pointer (some ⟨b1_4, 0, none⟩) → E 9 = (Iv.v wave) → Φ 5 [false, true, false, false, true, false, false] E [⟨b1_4, [.int .i64 0, .int .i64 0, .bool false], 32, false⟩, ⟨g2, [.int .i64 0, .int .i64 0, .bool false], 32, false⟩, ⟨g1, [.int .i64 wave.lo, .int .i64 wave.hi, .bool wave.no], 32, false⟩, (gIndex_b0 x wave g0)] := by
   intro E b1_4 q2 q4 q6 q9
   obtain ⟨E0, rfl⟩ : ∃ E0 : Env, E = ((((E0.put (some 2) (.pointer (some ⟨g0, 0, none⟩))).put (some 4) (.pointer (some ⟨g2, 0, none⟩))).put (some 6) (.pointer (some ⟨b1_4, 0, none⟩))).put (some 9) (Iv.v wave)) := ⟨E, by rw [put_self q2, put_self q4, put_self q6, put_self q9]⟩
   refine stepR 4 _ _ _ [0, 3] (by kernel_rfl) rfl ⟨?_, ?_, trivial⟩
   ·refine opR_op (d := (some 8)) rfl rfl rfl (st_cf (c_ivPoint 65536) Tryz.func49 rfl (by decide) rfl rfl rfl ?_)
    exact s1_13 _ _ rfl rfl rfl rfl rfl
   ·refine opR_op (d := (some 5)) rfl rfl rfl (st_new zero32 rfl fun b1_3 => ?_)
    exact permR _ _ _ _ _ (List.Perm.trans (List.Perm.swap _ _ _) (List.Perm.cons _ (List.Perm.refl _))).symm (s1_11 _ _ _ rfl rfl rfl rfl rfl)
  have s1_5 : ∀ (E : Env) (b1_4 : Nat) (b1_3 : Nat), E 2 = .pointer (some ⟨g0, 0, none⟩) → E 3 = .pointer (some ⟨g1, 0, none⟩) → E 4 = .pointer (some ⟨g2, 0, none⟩) → E 5 = .pointer (some ⟨b1_3, 0, none⟩) → E 6 = .pointer (some ⟨b1_4, 0, none⟩) → Φ 5 [false, false, false, true, true, false, false] E [⟨b1_4, [.int .i64 0, .int .i64 0, .bool false], 32, false⟩, ⟨b1_3, [.int .i64 0, .int .i64 0, .bool false], 32, false⟩, ⟨g2, [.int .i64 0, .int .i64 0, .bool false], 32, false⟩, ⟨g1, [.int .i64 wave.lo, .int .i64 wave.hi, .bool wave.no], 32, false⟩, (gIndex_b0 x wave g0)] := by
   intro E b1_4 b1_3 q2 q3 q4 q5 q6
   obtain ⟨E0, rfl⟩ : ∃ E0 : Env, E = (((((E0.put (some 2) (.pointer (some ⟨g0, 0, none⟩))).put (some 3) (.pointer (some ⟨g1, 0, none⟩))).put (some 4) (.pointer (some ⟨g2, 0, none⟩))).put (some 5) (.pointer (some ⟨b1_3, 0, none⟩))).put (some 6) (.pointer (some ⟨b1_4, 0, none⟩))) := ⟨E, by rw [put_self q2, put_self q3, put_self q4, put_self q5, put_self q6]⟩
   refine stepR 4 _ _ _ [0, 1] (by kernel_rfl) rfl ⟨?_, ?_, trivial⟩
   ·refine opR_op (d := (some 8)) rfl rfl rfl (st_cf (c_ivPoint 65536) Tryz.func49 rfl (by decide) rfl rfl rfl ?_)
    exact s1_12 _ _ _ rfl rfl rfl rfl rfl rfl
   ·refine opR_op (d := (some 9)) rfl rfl rfl (st_lda (vs := [.int .i64 wave.lo, .int .i64 wave.hi, .bool wave.no]) agg32 3 rfl rfl rfl rfl rfl rfl ?_)
    exact s1_11 _ _ _ rfl rfl rfl rfl rfl
  have s1_4 : ∀ (E : Env), E 2 = .pointer (some ⟨g0, 0, none⟩) → E 3 = .pointer (some ⟨g1, 0, none⟩) → E 4 = .pointer (some ⟨g2, 0, none⟩) → E 8 = (Iv.v (ivPoint 65536)) → Φ 6 [true, false, false, false, false, false, false] E [⟨g2, [.int .i64 0, .int .i64 0, .bool false], 32, false⟩, ⟨g1, [.int .i64 wave.lo, .int .i64 wave.hi, .bool wave.no], 32, false⟩, (gIndex_b0 x wave g0)] := by
   intro E q2 q3 q4 q8
   obtain ⟨E0, rfl⟩ : ∃ E0 : Env, E = ((((E0.put (some 2) (.pointer (some ⟨g0, 0, none⟩))).put (some 3) (.pointer (some ⟨g1, 0, none⟩))).put (some 4) (.pointer (some ⟨g2, 0, none⟩))).put (some 8) ((Iv.v (ivPoint 65536)))) := ⟨E, by rw [put_self q2, put_self q3, put_self q4, put_self q8]⟩
   refine stepR 5 _ _ _ [1, 3, 4] (by kernel_rfl) rfl ⟨?_, ?_, ?_, trivial⟩
   ·refine opR_op (d := (some 9)) rfl rfl rfl (st_lda (vs := [.int .i64 wave.lo, .int .i64 wave.hi, .bool wave.no]) agg32 1 rfl rfl rfl rfl rfl rfl ?_)
    exact s1_10 _ rfl rfl rfl rfl
   ·refine opR_op (d := (some 5)) rfl rfl rfl (st_new zero32 rfl fun b1_3 => ?_)
    exact s1_9 _ _ rfl rfl rfl rfl rfl
   ·refine opR_op (d := (some 6)) rfl rfl rfl (st_new zero32 rfl fun b1_4 => ?_)
    exact s1_8 _ _ rfl rfl rfl rfl rfl
  have s1_3 : ∀ (E : Env), E 2 = .pointer (some ⟨g0, 0, none⟩) → E 4 = .pointer (some ⟨g2, 0, none⟩) → E 9 = (Iv.v wave) → Φ 6 [false, true, false, false, false, false, false] E [⟨g2, [.int .i64 0, .int .i64 0, .bool false], 32, false⟩, ⟨g1, [.int .i64 wave.lo, .int .i64 wave.hi, .bool wave.no], 32, false⟩, (gIndex_b0 x wave g0)] := by
   intro E q2 q4 q9
   obtain ⟨E0, rfl⟩ : ∃ E0 : Env, E = (((E0.put (some 2) (.pointer (some ⟨g0, 0, none⟩))).put (some 4) (.pointer (some ⟨g2, 0, none⟩))).put (some 9) (Iv.v wave)) := ⟨E, by rw [put_self q2, put_self q4, put_self q9]⟩
   refine stepR 5 _ _ _ [0, 3, 4] (by kernel_rfl) rfl ⟨?_, ?_, ?_, trivial⟩
   ·refine opR_op (d := (some 8)) rfl rfl rfl (st_cf (c_ivPoint 65536) Tryz.func49 rfl (by decide) rfl rfl rfl ?_)
    exact s1_10 _ rfl rfl rfl rfl
   ·refine opR_op (d := (some 5)) rfl rfl rfl (st_new zero32 rfl fun b1_3 => ?_)
    exact s1_7 _ _ rfl rfl rfl rfl
   ·refine opR_op (d := (some 6)) rfl rfl rfl (st_new zero32 rfl fun b1_4 => ?_)
    exact s1_6 _ _ rfl rfl rfl rfl
  have s1_2 : ∀ (E : Env) (b1_3 : Nat), E 2 = .pointer (some ⟨g0, 0, none⟩) → E 3 = .pointer (some ⟨g1, 0, none⟩) → E 4 = .pointer (some ⟨g2, 0, none⟩) → E 5 = .pointer (some ⟨b1_3, 0, none⟩) → Φ 6 [false, false, false, true, false, false, false] E [⟨b1_3, [.int .i64 0, .int .i64 0, .bool false], 32, false⟩, ⟨g2, [.int .i64 0, .int .i64 0, .bool false], 32, false⟩, ⟨g1, [.int .i64 wave.lo, .int .i64 wave.hi, .bool wave.no], 32, false⟩, (gIndex_b0 x wave g0)] := by
   intro E b1_3 q2 q3 q4 q5
   obtain ⟨E0, rfl⟩ : ∃ E0 : Env, E = ((((E0.put (some 2) (.pointer (some ⟨g0, 0, none⟩))).put (some 3) (.pointer (some ⟨g1, 0, none⟩))).put (some 4) (.pointer (some ⟨g2, 0, none⟩))).put (some 5) (.pointer (some ⟨b1_3, 0, none⟩))) := ⟨E, by rw [put_self q2, put_self q3, put_self q4, put_self q5]⟩
   refine stepR 5 _ _ _ [0, 1, 4] (by kernel_rfl) rfl ⟨?_, ?_, ?_, trivial⟩
   ·refine opR_op (d := (some 8)) rfl rfl rfl (st_cf (c_ivPoint 65536) Tryz.func49 rfl (by decide) rfl rfl rfl ?_)
    exact s1_9 _ _ rfl rfl rfl rfl rfl
   ·refine opR_op (d := (some 9)) rfl rfl rfl (st_lda (vs := [.int .i64 wave.lo, .int .i64 wave.hi, .bool wave.no]) agg32 2 rfl rfl rfl rfl rfl rfl ?_)
    exact s1_7 _ _ rfl rfl rfl rfl
   ·refine opR_op (d := (some 6)) rfl rfl rfl (st_new zero32 rfl fun b1_4 => ?_)
    exact s1_5 _ _ _ rfl rfl rfl rfl rfl
  have s1_1 : ∀ (E : Env) (b1_4 : Nat), E 2 = .pointer (some ⟨g0, 0, none⟩) → E 3 = .pointer (some ⟨g1, 0, none⟩) → E 4 = .pointer (some ⟨g2, 0, none⟩) → E 6 = .pointer (some ⟨b1_4, 0, none⟩) → Φ 6 [false, false, false, false, true, false, false] E [⟨b1_4, [.int .i64 0, .int .i64 0, .bool false], 32, false⟩, ⟨g2, [.int .i64 0, .int .i64 0, .bool false], 32, false⟩, ⟨g1, [.int .i64 wave.lo, .int .i64 wave.hi, .bool wave.no], 32, false⟩, (gIndex_b0 x wave g0)] := by
   intro E b1_4 q2 q3 q4 q6
   obtain ⟨E0, rfl⟩ : ∃ E0 : Env, E = ((((E0.put (some 2) (.pointer (some ⟨g0, 0, none⟩))).put (some 3) (.pointer (some ⟨g1, 0, none⟩))).put (some 4) (.pointer (some ⟨g2, 0, none⟩))).put (some 6) (.pointer (some ⟨b1_4, 0, none⟩))) := ⟨E, by rw [put_self q2, put_self q3, put_self q4, put_self q6]⟩
   refine stepR 5 _ _ _ [0, 1, 3] (by kernel_rfl) rfl ⟨?_, ?_, ?_, trivial⟩
   ·refine opR_op (d := (some 8)) rfl rfl rfl (st_cf (c_ivPoint 65536) Tryz.func49 rfl (by decide) rfl rfl rfl ?_)
    exact s1_8 _ _ rfl rfl rfl rfl rfl
   ·refine opR_op (d := (some 9)) rfl rfl rfl (st_lda (vs := [.int .i64 wave.lo, .int .i64 wave.hi, .bool wave.no]) agg32 2 rfl rfl rfl rfl rfl rfl ?_)
    exact s1_6 _ _ rfl rfl rfl rfl
   ·refine opR_op (d := (some 5)) rfl rfl rfl (st_new zero32 rfl fun b1_3 => ?_)
    exact permR _ _ _ _ _ (List.Perm.trans (List.Perm.swap _ _ _) (List.Perm.cons _ (List.Perm.refl _))).symm (s1_5 _ _ _ rfl rfl rfl rfl rfl)
  refine stepR 6 _ _ _ [0, 1, 3, 4] (by kernel_rfl) rfl ⟨?_, ?_, ?_, ?_, trivial⟩
  ·refine opR_op (d := (some 8)) rfl rfl rfl (st_cf (c_ivPoint 65536) Tryz.func49 rfl (by decide) rfl rfl rfl ?_)
   exact s1_4 _ rfl rfl rfl rfl
  ·refine opR_op (d := (some 9)) rfl rfl rfl (st_lda (vs := [.int .i64 wave.lo, .int .i64 wave.hi, .bool wave.no]) agg32 1 rfl rfl rfl rfl rfl rfl ?_)
   exact s1_3 _ rfl rfl rfl
  ·refine opR_op (d := (some 5)) rfl rfl rfl (st_new zero32 rfl fun b1_3 => ?_)
   exact s1_2 _ _ rfl rfl rfl rfl
  ·refine opR_op (d := (some 6)) rfl rfl rfl (st_new zero32 rfl fun b1_4 => ?_)
   exact s1_1 _ _ rfl rfl rfl rfl
 intro E b1_4 b1_3 q2 q4 q5 q6
 obtain ⟨E0, rfl⟩ : ∃ E0 : Env, E = ((((E0.put (some 2) (.pointer (some ⟨g0, 0, none⟩))).put (some 4) (.pointer (some ⟨g2, 0, none⟩))).put (some 5) (.pointer (some ⟨b1_3, 0, none⟩))).put (some 6) (.pointer (some ⟨b1_4, 0, none⟩))) := ⟨E, by rw [put_self q2, put_self q4, put_self q5, put_self q6]⟩
 refine doneR _ _ _ (by kernel_rfl) (aQ (aQ (aL (aF 11 fa29_0 rfl rfl (aD 12 (.string x.name) cell9 4 rfl rfl rfl rfl (aB 13 (.bool (sEq x.name (⟨#[97, 105, 114]⟩ : ByteArray))) rfl rfl rfl (bi_seql rfl) (aN ?_)))))))
 refine bool_split (sEq x.name (⟨#[97, 105, 114]⟩ : ByteArray)) (fun h1 => ?_) (fun h1 => ?_)
 ·refine ac_then' (b := sEq x.name (⟨#[97, 105, 114]⟩ : ByteArray)) h1 rfl (aQ (aL (aG 14 [.int .i64 ((ivPoint 65536).lo), .int .i64 ((ivPoint 65536).hi), .bool ((ivPoint 65536).no)] agg32 1 rfl rfl rfl rfl rfl (aS [.int .i64 ((ivPoint 65536).lo), .int .i64 ((ivPoint 65536).hi), .bool ((ivPoint 65536).no)] agg32 2 rfl rfl rfl rfl rfl rfl (aN (ac_ret (fin_eq (v := (Iv.v (ivPoint 65536))) (by show _ = Iv.v (gIndex x wave); rw [gIndex, h1] <;> rfl) (fin_ret (res_c (vs := [.int .i64 ((ivPoint 65536).lo), .int .i64 ((ivPoint 65536).hi), .bool ((ivPoint 65536).no)]) agg32 2 rfl rfl rfl rfl rfl rfl)))))))))
 ·refine ac_else' (b := sEq x.name (⟨#[97, 105, 114]⟩ : ByteArray)) h1 rfl (ac_skip (aQ (aQ (aL (aM 15 (.int .i64 0) rfl rfl (aN (ac_block ?_)))))))
  refine ac_rounds 61 (ar_round (aQ (aL (aB 16 (.bool true) rfl rfl rfl (bi_lss (by decide)) (aN (aQ (ac_then rfl (ac_skip (aQ (ac_block (aQ (aL (aM 17 (.int .i64 0) rfl rfl (aA 7 (.int .i64 0) rfl rfl (aN ?_)))))))))))))))
  refine ac_draw0 (id := 7) [0, 1, 2, 3, 4, 5, 6, 7, 8, 9, 10, 11, 12, 13, 14, 15, 16] [17] _ (by kernel_rfl) follows rfl  (dw_op (d := some 18) _ rfl rfl rfl (st_lda (vs := [.int .i64 ((ivPoint 65536).lo), .int .i64 ((ivPoint 65536).hi), .bool ((ivPoint 65536).no)]) agg32 1 rfl rfl rfl rfl rfl rfl ⟨rfl, rfl⟩) (dw_op (d := some 19) _ rfl rfl rfl (st_move (v := .int .i64 0) rfl rfl ⟨rfl, rfl⟩) (dw_op (d := some 20) _ rfl rfl rfl (st_fa rfl fa29_1 rfl ⟨rfl, rfl⟩) (dw_op (d := some 21) _ rfl rfl rfl (st_ia (v := .pointer (some ⟨g0, 1, none⟩)) rfl rfl rfl (ia27_0 _ _) ⟨rfl, rfl⟩) ?_))))
  refine dw_op (d := some 22) _ rfl rfl rfl (st_lda (vs := [.int .i64 x.b.d0.c, .int .i64 x.b.d0.scale]) agg26 4 rfl rfl rfl rfl rfl rfl ⟨rfl, rfl⟩) (dw_op (d := some 23) _ rfl rfl rfl (st_cf (c_decOf x.b.d0) Tryz.func35 rfl (by decide) rfl rfl rfl ⟨rfl, rfl⟩) (dw_op (d := some 24) _ rfl rfl rfl (st_lda (vs := [.int .i64 ((ivSqr wave).lo), .int .i64 ((ivSqr wave).hi), .bool ((ivSqr wave).no)]) agg32 0 rfl rfl rfl rfl rfl rfl ⟨rfl, rfl⟩) (dw_op (d := some 25) _ rfl rfl rfl (st_cf (c_ivMul (decOf x.b.d0) (ivSqr wave)) Tryz.func52 rfl (by decide) rfl rfl rfl ⟨rfl, rfl⟩) ?_)))
  refine dw_op (d := some 26) _ rfl rfl rfl (st_lda (vs := [.int .i64 ((ivSqr wave).lo), .int .i64 ((ivSqr wave).hi), .bool ((ivSqr wave).no)]) agg32 0 rfl rfl rfl rfl rfl rfl ⟨rfl, rfl⟩) (dw_op (d := some 27) _ rfl rfl rfl (st_move (v := .int .i64 0) rfl rfl ⟨rfl, rfl⟩) (dw_op (d := some 28) _ rfl rfl rfl (st_fa rfl fa29_2 rfl ⟨rfl, rfl⟩) (dw_op (d := some 29) _ rfl rfl rfl (st_ia (v := .pointer (some ⟨g0, 7, none⟩)) rfl rfl rfl (ia27_0 _ _) ⟨rfl, rfl⟩) (dw_op (d := some 30) _ rfl rfl rfl (st_lda (vs := [.int .i64 x.c.d0.c, .int .i64 x.c.d0.scale]) agg26 4 rfl rfl rfl rfl rfl rfl ⟨rfl, rfl⟩) ?_))))
  refine dw_op (d := some 31) _ rfl rfl rfl (st_cf (c_decOf x.c.d0) Tryz.func35 rfl (by decide) rfl rfl rfl ⟨rfl, rfl⟩) (dw_op (d := some 32) _ rfl rfl rfl (st_cf (c_ivSub (ivSqr wave) (decOf x.c.d0)) Tryz.func53 rfl (by decide) rfl rfl rfl ⟨rfl, rfl⟩) (dw_op (d := some 33) _ rfl rfl rfl (st_cf (c_ivDiv (ivMul (decOf x.b.d0) (ivSqr wave)) (ivSub (ivSqr wave) (decOf x.c.d0))) Tryz.func51 rfl (by decide) rfl rfl rfl ⟨rfl, rfl⟩) (dw_op (d := some 34) _ rfl rfl rfl (st_cf (c_ivAdd (ivPoint 65536) (gIndex_e0 x wave)) Tryz.func50 rfl (by decide) rfl rfl rfl ⟨rfl, rfl⟩) (dw_nil ?_))))
  refine aS [.int .i64 ((ivAdd (ivPoint 65536) (gIndex_e0 x wave)).lo), .int .i64 ((ivAdd (ivPoint 65536) (gIndex_e0 x wave)).hi), .bool ((ivAdd (ivPoint 65536) (gIndex_e0 x wave)).no)] agg32 1 rfl rfl rfl rfl rfl rfl (aN (aL (aB 35 (.int .i64 1) rfl rfl rfl (bi_add (by decide)) (aM 15 (.int .i64 1) rfl rfl (aN (ar_round (aQ (aL (aB 16 (.bool true) rfl rfl rfl (bi_lss (by decide)) (aN (aQ (ac_then rfl (ac_skip (aQ (ac_block (aQ (aL (aM 17 (.int .i64 1) rfl rfl (aA 7 (.int .i64 1) rfl rfl (aN ?_))))))))))))))))))))
  refine ac_draw0 (id := 7) [0, 1, 2, 3, 4, 5, 6, 7, 8, 9, 10, 11, 12, 13, 14, 15, 16] [17] _ (by kernel_rfl) follows rfl  (dw_op (d := some 18) _ rfl rfl rfl (st_lda (vs := [.int .i64 ((ivAdd (ivPoint 65536) (gIndex_e0 x wave)).lo), .int .i64 ((ivAdd (ivPoint 65536) (gIndex_e0 x wave)).hi), .bool ((ivAdd (ivPoint 65536) (gIndex_e0 x wave)).no)]) agg32 1 rfl rfl rfl rfl rfl rfl ⟨rfl, rfl⟩) (dw_op (d := some 19) _ rfl rfl rfl (st_move (v := .int .i64 1) rfl rfl ⟨rfl, rfl⟩) (dw_op (d := some 20) _ rfl rfl rfl (st_fa rfl fa29_1 rfl ⟨rfl, rfl⟩) (dw_op (d := some 21) _ rfl rfl rfl (st_ia (v := .pointer (some ⟨g0, 3, none⟩)) rfl rfl rfl (ia27_1 _ _) ⟨rfl, rfl⟩) ?_))))
  refine dw_op (d := some 22) _ rfl rfl rfl (st_lda (vs := [.int .i64 x.b.d1.c, .int .i64 x.b.d1.scale]) agg26 4 rfl rfl rfl rfl rfl rfl ⟨rfl, rfl⟩) (dw_op (d := some 23) _ rfl rfl rfl (st_cf (c_decOf x.b.d1) Tryz.func35 rfl (by decide) rfl rfl rfl ⟨rfl, rfl⟩) (dw_op (d := some 24) _ rfl rfl rfl (st_lda (vs := [.int .i64 ((ivSqr wave).lo), .int .i64 ((ivSqr wave).hi), .bool ((ivSqr wave).no)]) agg32 0 rfl rfl rfl rfl rfl rfl ⟨rfl, rfl⟩) (dw_op (d := some 25) _ rfl rfl rfl (st_cf (c_ivMul (decOf x.b.d1) (ivSqr wave)) Tryz.func52 rfl (by decide) rfl rfl rfl ⟨rfl, rfl⟩) ?_)))
  refine dw_op (d := some 26) _ rfl rfl rfl (st_lda (vs := [.int .i64 ((ivSqr wave).lo), .int .i64 ((ivSqr wave).hi), .bool ((ivSqr wave).no)]) agg32 0 rfl rfl rfl rfl rfl rfl ⟨rfl, rfl⟩) (dw_op (d := some 27) _ rfl rfl rfl (st_move (v := .int .i64 1) rfl rfl ⟨rfl, rfl⟩) (dw_op (d := some 28) _ rfl rfl rfl (st_fa rfl fa29_2 rfl ⟨rfl, rfl⟩) (dw_op (d := some 29) _ rfl rfl rfl (st_ia (v := .pointer (some ⟨g0, 9, none⟩)) rfl rfl rfl (ia27_1 _ _) ⟨rfl, rfl⟩) (dw_op (d := some 30) _ rfl rfl rfl (st_lda (vs := [.int .i64 x.c.d1.c, .int .i64 x.c.d1.scale]) agg26 4 rfl rfl rfl rfl rfl rfl ⟨rfl, rfl⟩) ?_))))
  refine dw_op (d := some 31) _ rfl rfl rfl (st_cf (c_decOf x.c.d1) Tryz.func35 rfl (by decide) rfl rfl rfl ⟨rfl, rfl⟩) (dw_op (d := some 32) _ rfl rfl rfl (st_cf (c_ivSub (ivSqr wave) (decOf x.c.d1)) Tryz.func53 rfl (by decide) rfl rfl rfl ⟨rfl, rfl⟩) (dw_op (d := some 33) _ rfl rfl rfl (st_cf (c_ivDiv (ivMul (decOf x.b.d1) (ivSqr wave)) (ivSub (ivSqr wave) (decOf x.c.d1))) Tryz.func51 rfl (by decide) rfl rfl rfl ⟨rfl, rfl⟩) (dw_op (d := some 34) _ rfl rfl rfl (st_cf (c_ivAdd (ivAdd (ivPoint 65536) (gIndex_e0 x wave)) (gIndex_e1 x wave)) Tryz.func50 rfl (by decide) rfl rfl rfl ⟨rfl, rfl⟩) (dw_nil ?_))))
  refine aS [.int .i64 ((gIndex_e2 x wave).lo), .int .i64 ((gIndex_e2 x wave).hi), .bool ((gIndex_e2 x wave).no)] agg32 1 rfl rfl rfl rfl rfl rfl (aN (aL (aB 35 (.int .i64 2) rfl rfl rfl (bi_add (by decide)) (aM 15 (.int .i64 2) rfl rfl (aN (ar_round (aQ (aL (aB 16 (.bool true) rfl rfl rfl (bi_lss (by decide)) (aN (aQ (ac_then rfl (ac_skip (aQ (ac_block (aQ (aL (aM 17 (.int .i64 2) rfl rfl (aA 7 (.int .i64 2) rfl rfl (aN ?_))))))))))))))))))))
  refine ac_draw0 (id := 7) [0, 1, 2, 3, 4, 5, 6, 7, 8, 9, 10, 11, 12, 13, 14, 15, 16] [17] _ (by kernel_rfl) follows rfl  (dw_op (d := some 18) _ rfl rfl rfl (st_lda (vs := [.int .i64 ((gIndex_e2 x wave).lo), .int .i64 ((gIndex_e2 x wave).hi), .bool ((gIndex_e2 x wave).no)]) agg32 1 rfl rfl rfl rfl rfl rfl ⟨rfl, rfl⟩) (dw_op (d := some 19) _ rfl rfl rfl (st_move (v := .int .i64 2) rfl rfl ⟨rfl, rfl⟩) (dw_op (d := some 20) _ rfl rfl rfl (st_fa rfl fa29_1 rfl ⟨rfl, rfl⟩) (dw_op (d := some 21) _ rfl rfl rfl (st_ia (v := .pointer (some ⟨g0, 5, none⟩)) rfl rfl rfl (ia27_2 _ _) ⟨rfl, rfl⟩) ?_))))
  refine dw_op (d := some 22) _ rfl rfl rfl (st_lda (vs := [.int .i64 x.b.d2.c, .int .i64 x.b.d2.scale]) agg26 4 rfl rfl rfl rfl rfl rfl ⟨rfl, rfl⟩) (dw_op (d := some 23) _ rfl rfl rfl (st_cf (c_decOf x.b.d2) Tryz.func35 rfl (by decide) rfl rfl rfl ⟨rfl, rfl⟩) (dw_op (d := some 24) _ rfl rfl rfl (st_lda (vs := [.int .i64 ((ivSqr wave).lo), .int .i64 ((ivSqr wave).hi), .bool ((ivSqr wave).no)]) agg32 0 rfl rfl rfl rfl rfl rfl ⟨rfl, rfl⟩) (dw_op (d := some 25) _ rfl rfl rfl (st_cf (c_ivMul (decOf x.b.d2) (ivSqr wave)) Tryz.func52 rfl (by decide) rfl rfl rfl ⟨rfl, rfl⟩) ?_)))
  refine dw_op (d := some 26) _ rfl rfl rfl (st_lda (vs := [.int .i64 ((ivSqr wave).lo), .int .i64 ((ivSqr wave).hi), .bool ((ivSqr wave).no)]) agg32 0 rfl rfl rfl rfl rfl rfl ⟨rfl, rfl⟩) (dw_op (d := some 27) _ rfl rfl rfl (st_move (v := .int .i64 2) rfl rfl ⟨rfl, rfl⟩) (dw_op (d := some 28) _ rfl rfl rfl (st_fa rfl fa29_2 rfl ⟨rfl, rfl⟩) (dw_op (d := some 29) _ rfl rfl rfl (st_ia (v := .pointer (some ⟨g0, 11, none⟩)) rfl rfl rfl (ia27_2 _ _) ⟨rfl, rfl⟩) (dw_op (d := some 30) _ rfl rfl rfl (st_lda (vs := [.int .i64 x.c.d2.c, .int .i64 x.c.d2.scale]) agg26 4 rfl rfl rfl rfl rfl rfl ⟨rfl, rfl⟩) ?_))))
  refine dw_op (d := some 31) _ rfl rfl rfl (st_cf (c_decOf x.c.d2) Tryz.func35 rfl (by decide) rfl rfl rfl ⟨rfl, rfl⟩) (dw_op (d := some 32) _ rfl rfl rfl (st_cf (c_ivSub (ivSqr wave) (decOf x.c.d2)) Tryz.func53 rfl (by decide) rfl rfl rfl ⟨rfl, rfl⟩) (dw_op (d := some 33) _ rfl rfl rfl (st_cf (c_ivDiv (ivMul (decOf x.b.d2) (ivSqr wave)) (ivSub (ivSqr wave) (decOf x.c.d2))) Tryz.func51 rfl (by decide) rfl rfl rfl ⟨rfl, rfl⟩) (dw_op (d := some 34) _ rfl rfl rfl (st_cf (c_ivAdd (gIndex_e2 x wave) (gIndex_e3 x wave)) Tryz.func50 rfl (by decide) rfl rfl rfl ⟨rfl, rfl⟩) (dw_nil ?_))))
  refine aS [.int .i64 ((ivAdd (gIndex_e2 x wave) (gIndex_e3 x wave)).lo), .int .i64 ((ivAdd (gIndex_e2 x wave) (gIndex_e3 x wave)).hi), .bool ((ivAdd (gIndex_e2 x wave) (gIndex_e3 x wave)).no)] agg32 1 rfl rfl rfl rfl rfl rfl (aN (aL (aB 35 (.int .i64 3) rfl rfl rfl (bi_add (by decide)) (aM 15 (.int .i64 3) rfl rfl (aN (ar_round (aQ (aL (aB 16 (.bool false) rfl rfl rfl (bi_lss (by decide)) (aN (aQ (ac_else rfl (ac_exit (aQ (aL (aG 36 [.int .i64 ((ivAdd (gIndex_e2 x wave) (gIndex_e3 x wave)).lo), .int .i64 ((ivAdd (gIndex_e2 x wave) (gIndex_e3 x wave)).hi), .bool ((ivAdd (gIndex_e2 x wave) (gIndex_e3 x wave)).no)] agg32 1 rfl rfl rfl rfl rfl ?_))))))))))))))))
  refine aC 37 (c_ivRoot (ivAdd (gIndex_e2 x wave) (gIndex_e3 x wave))) Tryz.func54 ⟨rfl, by decide⟩ rfl rfl (aS [.int .i64 ((ivRoot (ivAdd (gIndex_e2 x wave) (gIndex_e3 x wave))).lo), .int .i64 ((ivRoot (ivAdd (gIndex_e2 x wave) (gIndex_e3 x wave))).hi), .bool ((ivRoot (ivAdd (gIndex_e2 x wave) (gIndex_e3 x wave))).no)] agg32 2 rfl rfl rfl rfl rfl rfl (aN (ac_ret ?_)))
  exact fin_eq (v := (Iv.v (ivRoot (ivAdd (gIndex_e2 x wave) (gIndex_e3 x wave))))) (by show _ = Iv.v (gIndex x wave); rw [gIndex, h1] <;> rfl) (fin_ret (res_c (vs := [.int .i64 ((ivRoot (ivAdd (gIndex_e2 x wave) (gIndex_e3 x wave))).lo), .int .i64 ((ivRoot (ivAdd (gIndex_e2 x wave) (gIndex_e3 x wave))).hi), .bool ((ivRoot (ivAdd (gIndex_e2 x wave) (gIndex_e3 x wave))).no)]) agg32 2 rfl rfl rfl rfl rfl rfl))
end Go.Proofs.YtalffjplbhelcaaGreatDoor
namespace Go.Proofs.YtalffjplbhelcaaGreatDoor
open Go.RowKit
attribute [local irreducible] AC AR DWalk
def hDec1 (c : Int) : Dec := (bif (Int.tmod c 10) == 0 then (⟨w64 (Int.tdiv c 10), 0⟩ : Dec) else (⟨c, 1⟩ : Dec))
set_option maxRecDepth 100000 in
theorem c_hDec1 (c : Int) : Gets Tryz.prog 42 #[.int .i64 c, .int .i64 1] (Dec.v (hDec1 c)) := by
 refine gets_fin Tryz.func42 rfl rfl rfl (aQ (aL (ao 4 rfl rfl (st_new zero26 rfl fun g0 => (aN (aQ (aL (aM 6 (.int .i64 c) rfl rfl (aM 7 (.int .i64 1) rfl rfl (ao 8 rfl rfl (st_bd (us := [(0, .int .i64 c), (1, .int .i64 1)]) (v := .agg #[.int .i64 c, .int .i64 1]) rfl rfl (bd26_0_1 _ _) (ao 5 rfl rfl (st_new zero26 rfl fun g1 => (aS [.int .i64 c, .int .i64 1] agg26 0 rfl rfl rfl rfl rfl rfl (aN (aQ (ac_block ?_)))))))))))))))))
 refine ac_rounds 61 (ar_round (aQ (aQ (aL (aF 9 fa26_1 rfl rfl (aD 10 (.int .i64 1) cell3 0 rfl rfl rfl rfl (aB 11 (.bool true) rfl rfl rfl (bi_gtr (by decide)) (aM 12 (.bool true) rfl rfl (ar_gd (d := (some 13)) rfl rfl (st_fa rfl fa26_0 rfl (ar_gd (d := (some 14)) rfl rfl (st_ldc (v := .int .i64 c) cell3 0 rfl rfl rfl rfl rfl (ar_gd (d := (some 15)) rfl rfl (st_bi (r := .int .i64 (Int.tmod c 10)) rfl rfl rfl (bi_rem (by decide) rfl) (ar_gd (d := (some 16)) rfl rfl (st_bi (r := .bool ((Int.tmod c 10) == 0)) rfl rfl rfl (bi_eql rfl) (ao 17 rfl rfl (st_pkt (v := .bool ((Int.tmod c 10) == 0)) rfl rfl rfl (aN ?_)))))))))))))))))))
 refine bool_split ((Int.tmod c 10) == 0) (fun h1 => ?_) (fun h1 => ?_)
 ·refine ac_then' (b := (Int.tmod c 10) == 0) h1 rfl (ac_skip (ac_block (aQ (aL (aF 18 fa26_0 rfl rfl (aD 19 (.int .i64 c) cell3 0 rfl rfl rfl rfl (aB 20 (.int .i64 (w64 (Int.tdiv c 10))) rfl rfl rfl (bi_quo (by decide) rfl) (aF 21 fa26_0 rfl rfl (ar_op (d := none) rfl rfl (st_stc (cs := [.int .i64 (w64 (Int.tdiv c 10)), .int .i64 1]) cell3 0 rfl rfl rfl rfl rfl rfl rfl rfl rfl (aN (aL (aF 22 fa26_1 rfl rfl (aD 23 (.int .i64 1) cell3 0 rfl rfl rfl rfl (aB 24 (.int .i64 0) rfl rfl rfl (bi_sub (by decide)) (aF 25 fa26_1 rfl rfl (ar_op (d := none) rfl rfl (st_stc (cs := [.int .i64 (w64 (Int.tdiv c 10)), .int .i64 0]) cell3 0 rfl rfl rfl rfl rfl rfl rfl rfl rfl ?_))))))))))))))))))
  refine aN (ar_round (aQ (aQ (aL (aF 9 fa26_1 rfl rfl (aD 10 (.int .i64 0) cell3 0 rfl rfl rfl rfl (aB 11 (.bool false) rfl rfl rfl (bi_gtr (by decide)) (aM 12 (.bool false) rfl rfl (aK 13 rfl rfl (aK 14 rfl rfl (aK 15 rfl rfl (aK 16 rfl rfl (ao 17 rfl rfl (st_pkf (v := .bool false) rfl rfl rfl (aN (ac_else rfl (ac_exit (aQ (aL (aG 26 [.int .i64 (w64 (Int.tdiv c 10)), .int .i64 0] agg26 0 rfl rfl rfl rfl rfl (aS [.int .i64 (w64 (Int.tdiv c 10)), .int .i64 0] agg26 1 rfl rfl rfl rfl rfl rfl (aN (ac_ret ?_)))))))))))))))))))))))
  exact fin_eq (v := .agg #[.int .i64 (w64 (Int.tdiv c 10)), .int .i64 0]) (by show _ = Dec.v (hDec1 c); rw [hDec1, h1] <;> rfl) (fin_ret (res_c (vs := [.int .i64 (w64 (Int.tdiv c 10)), .int .i64 0]) agg26 1 rfl rfl rfl rfl rfl rfl))
 ·refine ac_else' (b := (Int.tmod c 10) == 0) h1 rfl (ac_exit (aQ (aL (aG 26 [.int .i64 c, .int .i64 1] agg26 0 rfl rfl rfl rfl rfl (aS [.int .i64 c, .int .i64 1] agg26 1 rfl rfl rfl rfl rfl rfl (aN (ac_ret (fin_eq (v := .agg #[.int .i64 c, .int .i64 1]) (by show _ = Dec.v (hDec1 c); rw [hDec1, h1] <;> rfl) (fin_ret (res_c (vs := [.int .i64 c, .int .i64 1]) agg26 1 rfl rfl rfl rfl rfl rfl))))))))))
end Go.Proofs.YtalffjplbhelcaaGreatDoor
namespace Go.Proofs.YtalffjplbhelcaaGreatDoor
open Go.RowKit
attribute [local irreducible] AC AR DWalk
end Go.Proofs.YtalffjplbhelcaaGreatDoor
namespace Go.Proofs.YtalffjplbhelcaaGreatDoor
section
variable {p : Program} {n : Nat} {o : Oper} {H : List Box} {ρ : Operand → Value} {K : Post}
end
end Go.Proofs.YtalffjplbhelcaaGreatDoor
namespace Go.Proofs.YtalffjplbhelcaaGreatDoor
open Go.RowKit
attribute [local irreducible] AC AR DWalk
end Go.Proofs.YtalffjplbhelcaaGreatDoor
namespace Go.Proofs.YtalffjplbhelcaaGreatDoor
end Go.Proofs.YtalffjplbhelcaaGreatDoor
namespace Go.Proofs.YtalffjplbhelcaaGreatDoor
end Go.Proofs.YtalffjplbhelcaaGreatDoor
namespace Go.Proofs.YtalffjplbhelcaaGreatDoor
end Go.Proofs.YtalffjplbhelcaaGreatDoor
namespace Go.Proofs.YtalffjplbhelcaaGreatDoor
open Go.RowKit
attribute [local irreducible] AC AR DWalk
end Go.Proofs.YtalffjplbhelcaaGreatDoor
namespace Go.Proofs.YtalffjplbhelcaaGreatDoor
end Go.Proofs.YtalffjplbhelcaaGreatDoor
namespace Go.Proofs.YtalffjplbhelcaaGreatDoor
open Go.RowKit
attribute [local irreducible] AC AR DWalk
end Go.Proofs.YtalffjplbhelcaaGreatDoor
namespace Go.Proofs.YtalffjplbhelcaaGreatDoor
end Go.Proofs.YtalffjplbhelcaaGreatDoor
namespace Go.Proofs.YtalffjplbhelcaaGreatDoor
open Go.RowKit
attribute [local irreducible] AC AR DWalk
def rIn (n : Int) : Bool := (bif decide (n ≥ (-1073741824)) then decide (n ≤ 1073741824) else false)
def rRight (a : Iv) : Bool := (bif a.no then false else (bif rIn a.lo then (bif rIn a.hi then decide (a.lo ≤ a.hi) else false) else false))
end Go.Proofs.YtalffjplbhelcaaGreatDoor
namespace Go.Proofs.YtalffjplbhelcaaGreatDoor
open Go.RowKit
attribute [local irreducible] AC AR DWalk
end Go.Proofs.YtalffjplbhelcaaGreatDoor
namespace Go.Proofs.YtalffjplbhelcaaGreatDoor
open Go.RowKit
attribute [local irreducible] AC AR DWalk
end Go.Proofs.YtalffjplbhelcaaGreatDoor
namespace Go.Proofs.YtalffjplbhelcaaGreatDoor
open Go.RowKit
attribute [local irreducible] AC AR DWalk
end Go.Proofs.YtalffjplbhelcaaGreatDoor
namespace Go.Proofs.YtalffjplbhelcaaGreatDoor
open Go.RowKit
attribute [local irreducible] AC AR DWalk
def within (n : Int) (low : Int) (high : Int) : Int := max low (min high n)
set_option maxRecDepth 100000 in
theorem c_within (n : Int) (low : Int) (high : Int) : Gets Tryz.prog 48 #[.int .i64 n, .int .i64 low, .int .i64 high] ((fun (r : Int) => (.int .i64 r : Value)) (within n low high)) := by
 refine gets_fin Tryz.func48 rfl rfl rfl (aQ (aL (aA 6 (.int .i64 0) rfl rfl (aN (aQ (aL (aM 7 (.int .i64 low) rfl rfl (aM 8 (.int .i64 high) rfl rfl (aM 9 (.int .i64 n) rfl rfl (ao 10 rfl rfl (st_mn (x := high) (y := n) (c := (min high n)) rfl rfl rfl (ao 11 rfl rfl (st_mx (x := low) (y := (min high n)) (c := (max low (min high n))) rfl rfl rfl (aA 6 (.int .i64 (max low (min high n))) rfl rfl (aN (ac_ret (fin_eq (v := .int .i64 (max low (min high n))) rfl (fin_ret (res_tmp rfl rfl)))))))))))))))))))
def hWide (x : Int) (w : Int) : Iv := (⟨(within x (-1073741824) 1073741824), min 1073741824 (w64 ((within x (-1073741824) 1073741824) + w)), false⟩ : Iv)
set_option maxRecDepth 100000 in
theorem c_hWide (x : Int) (w : Int) : Gets Tryz.prog 12 #[.int .i64 x, .int .i64 w] (Iv.v (hWide x w)) := by
 refine gets_fin Tryz.func12 rfl rfl rfl (aQ (aL (ao 4 rfl rfl (st_new zero32 rfl fun g0 => (aN (aQ (aL (aM 5 (.int .i64 x) rfl rfl (aC 6 (c_within x (-1073741824) 1073741824) Tryz.func48 ⟨rfl, by decide⟩ rfl rfl (aA 0 (.int .i64 (within x (-1073741824) 1073741824)) rfl rfl (aN (aQ (aL (aM 7 (.int .i64 (within x (-1073741824) 1073741824)) rfl rfl (aM 8 (.int .i64 (within x (-1073741824) 1073741824)) rfl rfl (aM 9 (.int .i64 w) rfl rfl (aB 10 (.int .i64 (w64 ((within x (-1073741824) 1073741824) + w))) rfl rfl rfl (bi_add rfl) ?_)))))))))))))))))
 refine ao 11 rfl rfl (st_mn (x := 1073741824) (y := (w64 ((within x (-1073741824) 1073741824) + w))) (c := (min 1073741824 (w64 ((within x (-1073741824) 1073741824) + w)))) rfl rfl rfl (ao 12 rfl rfl (st_bd (us := [(0, .int .i64 (within x (-1073741824) 1073741824)), (1, .int .i64 (min 1073741824 (w64 ((within x (-1073741824) 1073741824) + w))))]) (v := .agg #[.int .i64 (within x (-1073741824) 1073741824), .int .i64 (min 1073741824 (w64 ((within x (-1073741824) 1073741824) + w))), .bool false]) rfl rfl (bd32_0_1 _ _) ?_)))
 refine aS [.int .i64 (within x (-1073741824) 1073741824), .int .i64 (min 1073741824 (w64 ((within x (-1073741824) 1073741824) + w))), .bool false] agg32 0 rfl rfl rfl rfl rfl rfl (aN (ac_ret (fin_eq (v := .agg #[.int .i64 (within x (-1073741824) 1073741824), .int .i64 (min 1073741824 (w64 ((within x (-1073741824) 1073741824) + w))), .bool false]) rfl (fin_ret (res_c (vs := [.int .i64 (within x (-1073741824) 1073741824), .int .i64 (min 1073741824 (w64 ((within x (-1073741824) 1073741824) + w))), .bool false]) agg32 0 rfl rfl rfl rfl rfl rfl)))))
end Go.Proofs.YtalffjplbhelcaaGreatDoor
namespace Go.Proofs.YtalffjplbhelcaaGreatDoor
open Go.RowKit
end Go.Proofs.YtalffjplbhelcaaGreatDoor
namespace Go.Proofs.YtalffjplbhelcaaGreatDoor
open Go.RowKit
attribute [local irreducible] AC AR DWalk
def lawGlassSums_e0 (b : Int) (more : Int) (a : Int) (w : Int) : Iv := (gIndex (⟨(⟨#[120]⟩ : ByteArray), (⟨(hDec1 (hPick b 200)), (⟨0, 0⟩ : Dec), (⟨0, 0⟩ : Dec)⟩ : D3), (⟨(⟨0, 0⟩ : Dec), (⟨9, 0⟩ : Dec), (⟨9, 0⟩ : Dec)⟩ : D3)⟩ : Glass) (hWide (w64 (20000 + (hPick a 40000))) (hPick w 9)))
def lawGlassSums_e1 (b : Int) (more : Int) (a : Int) (w : Int) : Iv := (gIndex (⟨(⟨#[121]⟩ : ByteArray), (⟨(hDec1 (w64 ((hPick b 200) + (hPick more 100)))), (⟨0, 0⟩ : Dec), (⟨0, 0⟩ : Dec)⟩ : D3), (⟨(⟨0, 0⟩ : Dec), (⟨9, 0⟩ : Dec), (⟨9, 0⟩ : Dec)⟩ : D3)⟩ : Glass) (hWide (w64 (20000 + (hPick a 40000))) (hPick w 9)))
def lawGlassSums (b : Int) (more : Int) (a : Int) (w : Int) : Bool := (bif ivRight (lawGlassSums_e0 b more a w) then (bif ivRight (lawGlassSums_e1 b more a w) then (bif decide ((w64 (((ivSqr (lawGlassSums_e0 b more a w)).lo) * 10)) ≤ (w64 ((w64 (10 + (hPick b 200))) * 65536))) then (bif decide ((w64 (((ivSqr (lawGlassSums_e0 b more a w)).hi) * 10)) ≥ (w64 ((w64 (10 + (hPick b 200))) * 65536))) then (bif decide (((lawGlassSums_e1 b more a w).hi) ≥ ((lawGlassSums_e0 b more a w).hi)) then decide (((lawGlassSums_e1 b more a w).lo) ≥ ((lawGlassSums_e0 b more a w).lo)) else false) else false) else false) else false) else false)
set_option maxRecDepth 100000 in
theorem c_lawGlassSums (b : Int) (more : Int) (a : Int) (w : Int) (tP : Nat) (H : (lawGlassSums b more a w) = true) : Gives Tryz.prog 7 #[.int .i64 b, .int .i64 more, .int .i64 a, .int .i64 w] [powBox tP] (fun u N => u = .bool true ∧ N = []) := by
 refine gives_fin Tryz.func7 rfl rfl rfl rfl (AC.mono ?_ (fun e E H h => fing_v h rfl))
 refine aQ (aL (aA 8 (.bool false) rfl rfl (aN (aQ (aL (aM 13 (.int .i64 b) rfl rfl (aC 14 (c_hPick b 200 (by decide)) Tryz.func10 ⟨rfl, by decide⟩ rfl rfl (aA 0 (.int .i64 (hPick b 200)) rfl rfl (aN (aQ (aL (aM 15 (.int .i64 more) rfl rfl (aC 16 (c_hPick more 100 (by decide)) Tryz.func10 ⟨rfl, by decide⟩ rfl rfl (aA 1 (.int .i64 (hPick more 100)) rfl rfl (aN (aQ (aL (aM 17 (.int .i64 a) rfl rfl (aC 18 (c_hPick a 40000 (by decide)) Tryz.func10 ⟨rfl, by decide⟩ rfl rfl (aB 19 (.int .i64 (w64 (20000 + (hPick a 40000)))) rfl rfl rfl (bi_add rfl) (aM 20 (.int .i64 w) rfl rfl (aC 21 (c_hPick w 9 (by decide)) Tryz.func10 ⟨rfl, by decide⟩ rfl rfl ?_))))))))))))))))))))))
 refine aC 22 (c_hWide (w64 (20000 + (hPick a 40000))) (hPick w 9)) Tryz.func12 ⟨rfl, by decide⟩ rfl rfl (ao 9 rfl rfl (st_new zero32 rfl fun g0 => (aS [.int .i64 ((hWide (w64 (20000 + (hPick a 40000))) (hPick w 9)).lo), .int .i64 ((hWide (w64 (20000 + (hPick a 40000))) (hPick w 9)).hi), .bool ((hWide (w64 (20000 + (hPick a 40000))) (hPick w 9)).no)] agg32 0 rfl rfl rfl rfl rfl rfl (aN (aQ ?_)))))
 refine ac_draw1 (id := 4) [0, 1, 2, 3, 4, 5, 6, 7, 8, 9] [11] 10 10 32 _ _ (by kernel_rfl) follows rfl zero32 ⟨_, rfl, rfl, rfl, rfl⟩ (dw_op (d := some 23) _ rfl rfl rfl (st_move (v := .int .i64 (hPick b 200)) rfl rfl ⟨rfl, rfl⟩) (dw_op (d := some 24) _ rfl rfl rfl (st_cf (c_hDec1 (hPick b 200)) Tryz.func42 rfl (by decide) rfl rfl rfl ⟨rfl, rfl⟩) (dw_op (d := some 25) _ rfl rfl rfl (st_bd (us := [(0, .agg #[.int .i64 ((hDec1 (hPick b 200)).c), .int .i64 ((hDec1 (hPick b 200)).scale)])]) (v := .agg #[.int .i64 ((hDec1 (hPick b 200)).c), .int .i64 ((hDec1 (hPick b 200)).scale), .int .i64 0, .int .i64 0, .int .i64 0, .int .i64 0]) rfl rfl (bd27_0a _ _) ⟨rfl, rfl⟩) ?_)))
 refine dw_op (d := some 26) _ rfl rfl rfl (st_bd (us := []) (v := .agg #[.int .i64 0, .int .i64 0]) rfl rfl (bd26_ ) ⟨rfl, rfl⟩) (dw_op (d := some 27) _ rfl rfl rfl (st_bd (us := [(0, .int .i64 9)]) (v := .agg #[.int .i64 9, .int .i64 0]) rfl rfl (bd26_0 _) ⟨rfl, rfl⟩) (dw_op (d := some 28) _ rfl rfl rfl (st_bd (us := [(0, .int .i64 9)]) (v := .agg #[.int .i64 9, .int .i64 0]) rfl rfl (bd26_0 _) ⟨rfl, rfl⟩) ?_))
 refine dw_op (d := some 29) _ rfl rfl rfl (st_bd (us := [(0, .agg #[.int .i64 0, .int .i64 0]), (1, .agg #[.int .i64 9, .int .i64 0]), (2, .agg #[.int .i64 9, .int .i64 0])]) (v := .agg #[.int .i64 0, .int .i64 0, .int .i64 9, .int .i64 0, .int .i64 9, .int .i64 0]) rfl rfl (bd27_0a_1a_2a _ _ _ _ _ _) ⟨rfl, rfl⟩) ?_
 refine dw_op (d := some 30) _ rfl rfl rfl (st_bd (us := [(0, .string (⟨#[120]⟩ : ByteArray)), (1, .agg #[.int .i64 ((hDec1 (hPick b 200)).c), .int .i64 ((hDec1 (hPick b 200)).scale), .int .i64 0, .int .i64 0, .int .i64 0, .int .i64 0]), (2, .agg #[.int .i64 0, .int .i64 0, .int .i64 9, .int .i64 0, .int .i64 9, .int .i64 0])]) (v := .agg #[.string (⟨#[120]⟩ : ByteArray), .int .i64 ((hDec1 (hPick b 200)).c), .int .i64 ((hDec1 (hPick b 200)).scale), .int .i64 0, .int .i64 0, .int .i64 0, .int .i64 0, .int .i64 0, .int .i64 0, .int .i64 9, .int .i64 0, .int .i64 9, .int .i64 0]) rfl rfl (bd29_0_1a_2a _ _ _ _ _ _ _ _ _ _ _ _ _) ⟨rfl, rfl⟩) ?_
 refine dw_op (d := some 31) _ rfl rfl rfl (st_lda (vs := [.int .i64 ((hWide (w64 (20000 + (hPick a 40000))) (hPick w 9)).lo), .int .i64 ((hWide (w64 (20000 + (hPick a 40000))) (hPick w 9)).hi), .bool ((hWide (w64 (20000 + (hPick a 40000))) (hPick w 9)).no)]) agg32 0 rfl rfl rfl rfl rfl rfl ⟨rfl, rfl⟩) (dw_op (d := some 32) _ rfl rfl rfl (st_cf (c_gIndex (⟨(⟨#[120]⟩ : ByteArray), (⟨(hDec1 (hPick b 200)), (⟨0, 0⟩ : Dec), (⟨0, 0⟩ : Dec)⟩ : D3), (⟨(⟨0, 0⟩ : Dec), (⟨9, 0⟩ : Dec), (⟨9, 0⟩ : Dec)⟩ : D3)⟩ : Glass) (hWide (w64 (20000 + (hPick a 40000))) (hPick w 9))) Tryz.func14 rfl (by decide) rfl rfl rfl ⟨rfl, rfl⟩) (dw_nil ?_))
 intro g1
 refine aS [.int .i64 ((lawGlassSums_e0 b more a w).lo), .int .i64 ((lawGlassSums_e0 b more a w).hi), .bool ((lawGlassSums_e0 b more a w).no)] agg32 0 rfl rfl rfl rfl rfl rfl (aN (aQ ?_))
 refine ac_draw1 (id := 5) [0, 1, 2, 3, 4, 5, 6, 7, 8, 9, 10, 11] [13] 12 11 32 _ _ (by kernel_rfl) follows rfl zero32 ⟨_, rfl, rfl, rfl, rfl⟩ (dw_op (d := some 33) _ rfl rfl rfl (st_move (v := .int .i64 (hPick b 200)) rfl rfl ⟨rfl, rfl⟩) (dw_op (d := some 34) _ rfl rfl rfl (st_move (v := .int .i64 (hPick more 100)) rfl rfl ⟨rfl, rfl⟩) (dw_op (d := some 35) _ rfl rfl rfl (st_bi (r := .int .i64 (w64 ((hPick b 200) + (hPick more 100)))) rfl rfl rfl (bi_add rfl) ⟨rfl, rfl⟩) (dw_op (d := some 36) _ rfl rfl rfl (st_cf (c_hDec1 (w64 ((hPick b 200) + (hPick more 100)))) Tryz.func42 rfl (by decide) rfl rfl rfl ⟨rfl, rfl⟩) ?_))))
 refine dw_op (d := some 37) _ rfl rfl rfl (st_bd (us := [(0, .agg #[.int .i64 ((hDec1 (w64 ((hPick b 200) + (hPick more 100)))).c), .int .i64 ((hDec1 (w64 ((hPick b 200) + (hPick more 100)))).scale)])]) (v := .agg #[.int .i64 ((hDec1 (w64 ((hPick b 200) + (hPick more 100)))).c), .int .i64 ((hDec1 (w64 ((hPick b 200) + (hPick more 100)))).scale), .int .i64 0, .int .i64 0, .int .i64 0, .int .i64 0]) rfl rfl (bd27_0a _ _) ⟨rfl, rfl⟩) (dw_op (d := some 38) _ rfl rfl rfl (st_bd (us := []) (v := .agg #[.int .i64 0, .int .i64 0]) rfl rfl (bd26_ ) ⟨rfl, rfl⟩) ?_)
 refine dw_op (d := some 39) _ rfl rfl rfl (st_bd (us := [(0, .int .i64 9)]) (v := .agg #[.int .i64 9, .int .i64 0]) rfl rfl (bd26_0 _) ⟨rfl, rfl⟩) (dw_op (d := some 40) _ rfl rfl rfl (st_bd (us := [(0, .int .i64 9)]) (v := .agg #[.int .i64 9, .int .i64 0]) rfl rfl (bd26_0 _) ⟨rfl, rfl⟩) (dw_op (d := some 41) _ rfl rfl rfl (st_bd (us := [(0, .agg #[.int .i64 0, .int .i64 0]), (1, .agg #[.int .i64 9, .int .i64 0]), (2, .agg #[.int .i64 9, .int .i64 0])]) (v := .agg #[.int .i64 0, .int .i64 0, .int .i64 9, .int .i64 0, .int .i64 9, .int .i64 0]) rfl rfl (bd27_0a_1a_2a _ _ _ _ _ _) ⟨rfl, rfl⟩) ?_))
 refine dw_op (d := some 42) _ rfl rfl rfl (st_bd (us := [(0, .string (⟨#[121]⟩ : ByteArray)), (1, .agg #[.int .i64 ((hDec1 (w64 ((hPick b 200) + (hPick more 100)))).c), .int .i64 ((hDec1 (w64 ((hPick b 200) + (hPick more 100)))).scale), .int .i64 0, .int .i64 0, .int .i64 0, .int .i64 0]), (2, .agg #[.int .i64 0, .int .i64 0, .int .i64 9, .int .i64 0, .int .i64 9, .int .i64 0])]) (v := .agg #[.string (⟨#[121]⟩ : ByteArray), .int .i64 ((hDec1 (w64 ((hPick b 200) + (hPick more 100)))).c), .int .i64 ((hDec1 (w64 ((hPick b 200) + (hPick more 100)))).scale), .int .i64 0, .int .i64 0, .int .i64 0, .int .i64 0, .int .i64 0, .int .i64 0, .int .i64 9, .int .i64 0, .int .i64 9, .int .i64 0]) rfl rfl (bd29_0_1a_2a _ _ _ _ _ _ _ _ _ _ _ _ _) ⟨rfl, rfl⟩) ?_
 refine dw_op (d := some 43) _ rfl rfl rfl (st_lda (vs := [.int .i64 ((hWide (w64 (20000 + (hPick a 40000))) (hPick w 9)).lo), .int .i64 ((hWide (w64 (20000 + (hPick a 40000))) (hPick w 9)).hi), .bool ((hWide (w64 (20000 + (hPick a 40000))) (hPick w 9)).no)]) agg32 1 rfl rfl rfl rfl rfl rfl ⟨rfl, rfl⟩) (dw_op (d := some 44) _ rfl rfl rfl (st_cf (c_gIndex (⟨(⟨#[121]⟩ : ByteArray), (⟨(hDec1 (w64 ((hPick b 200) + (hPick more 100)))), (⟨0, 0⟩ : Dec), (⟨0, 0⟩ : Dec)⟩ : D3), (⟨(⟨0, 0⟩ : Dec), (⟨9, 0⟩ : Dec), (⟨9, 0⟩ : Dec)⟩ : D3)⟩ : Glass) (hWide (w64 (20000 + (hPick a 40000))) (hPick w 9))) Tryz.func14 rfl (by decide) rfl rfl rfl ⟨rfl, rfl⟩) (dw_nil ?_))
 intro g2
 refine aS [.int .i64 ((lawGlassSums_e1 b more a w).lo), .int .i64 ((lawGlassSums_e1 b more a w).hi), .bool ((lawGlassSums_e1 b more a w).no)] agg32 0 rfl rfl rfl rfl rfl rfl (aN (aQ (aL (aG 45 [.int .i64 ((lawGlassSums_e0 b more a w).lo), .int .i64 ((lawGlassSums_e0 b more a w).hi), .bool ((lawGlassSums_e0 b more a w).no)] agg32 1 rfl rfl rfl rfl rfl (aC 46 (c_ivSqr (lawGlassSums_e0 b more a w)) Tryz.func43 ⟨rfl, by decide⟩ rfl rfl (ao 12 rfl rfl (st_new zero32 rfl fun g3 => (aS [.int .i64 ((ivSqr (lawGlassSums_e0 b more a w)).lo), .int .i64 ((ivSqr (lawGlassSums_e0 b more a w)).hi), .bool ((ivSqr (lawGlassSums_e0 b more a w)).no)] agg32 0 rfl rfl rfl rfl rfl rfl (aN ?_)))))))))
 refine aQ (aL (ao 47 rfl rfl (st_gr (R := [powBox tP]) (r := .bool true) (c_known11 tP) Tryz.func13 rfl (by decide) rfl rfl rfl (has_cons 4 _ rfl rfl rfl rfl has_nil) (by simp) (aM 48 (.bool true) rfl rfl (ar_gd (d := (some 49)) rfl rfl (st_lda (vs := [.int .i64 ((lawGlassSums_e0 b more a w).lo), .int .i64 ((lawGlassSums_e0 b more a w).hi), .bool ((lawGlassSums_e0 b more a w).no)]) agg32 2 rfl rfl rfl rfl rfl rfl (ar_gd (d := (some 50)) rfl rfl (st_cf (c_ivRight (lawGlassSums_e0 b more a w)) Tryz.func24 rfl (by decide) rfl rfl rfl (ao 51 rfl rfl (st_pkt (v := .bool (ivRight (lawGlassSums_e0 b more a w))) rfl rfl rfl ?_))))))))))
 refine aM 52 (.bool (ivRight (lawGlassSums_e0 b more a w))) rfl rfl (bool_split (ivRight (lawGlassSums_e0 b more a w)) (fun h1 => ?_) (fun h1 => nomatch (show false = true from (show (lawGlassSums b more a w) = _ from (eF h1 rfl)).symm.trans H)))
 refine ar_gd (d := (some 53)) (by show ((ivRight (lawGlassSums_e0 b more a w)) == true) = true; rw [h1]; rfl) rfl (st_lda (vs := [.int .i64 ((lawGlassSums_e1 b more a w).lo), .int .i64 ((lawGlassSums_e1 b more a w).hi), .bool ((lawGlassSums_e1 b more a w).no)]) agg32 1 rfl rfl rfl rfl rfl rfl (ar_gd (d := (some 54)) (by show ((ivRight (lawGlassSums_e0 b more a w)) == true) = true; rw [h1]; rfl) rfl (st_cf (c_ivRight (lawGlassSums_e1 b more a w)) Tryz.func24 rfl (by decide) rfl rfl rfl (ao 55 rfl rfl (st_pkt' (b := ivRight (lawGlassSums_e0 b more a w)) (v := .bool (ivRight (lawGlassSums_e1 b more a w))) h1 rfl rfl rfl ?_)))))
 refine aM 56 (.bool (ivRight (lawGlassSums_e1 b more a w))) rfl rfl (bool_split (ivRight (lawGlassSums_e1 b more a w)) (fun h2 => ?_) (fun h2 => nomatch (show false = true from (show (lawGlassSums b more a w) = _ from (eT h1 (eF h2 rfl))).symm.trans H)))
 refine ar_gd (d := (some 57)) (by show ((ivRight (lawGlassSums_e1 b more a w)) == true) = true; rw [h2]; rfl) rfl (st_fa rfl fa32_0 rfl (ar_gd (d := (some 58)) (by show ((ivRight (lawGlassSums_e1 b more a w)) == true) = true; rw [h2]; rfl) rfl (st_ldc (v := .int .i64 ((ivSqr (lawGlassSums_e0 b more a w)).lo)) cell3 0 rfl rfl rfl rfl rfl (ar_gd (d := (some 59)) (by show ((ivRight (lawGlassSums_e1 b more a w)) == true) = true; rw [h2]; rfl) rfl (st_bi (r := .int .i64 (w64 (((ivSqr (lawGlassSums_e0 b more a w)).lo) * 10))) rfl rfl rfl (bi_mul rfl) ?_)))))
 refine ar_gd (d := (some 60)) (by show ((ivRight (lawGlassSums_e1 b more a w)) == true) = true; rw [h2]; rfl) rfl (st_move (v := .int .i64 (hPick b 200)) rfl rfl (ar_gd (d := (some 61)) (by show ((ivRight (lawGlassSums_e1 b more a w)) == true) = true; rw [h2]; rfl) rfl (st_bi (r := .int .i64 (w64 (10 + (hPick b 200)))) rfl rfl rfl (bi_add rfl) (ar_gd (d := (some 62)) (by show ((ivRight (lawGlassSums_e1 b more a w)) == true) = true; rw [h2]; rfl) rfl (st_bi (r := .int .i64 (w64 ((w64 (10 + (hPick b 200))) * 65536))) rfl rfl rfl (bi_mul rfl) ?_)))))
 refine ar_gd (d := (some 63)) (by show ((ivRight (lawGlassSums_e1 b more a w)) == true) = true; rw [h2]; rfl) rfl (st_bi (r := .bool (decide ((w64 (((ivSqr (lawGlassSums_e0 b more a w)).lo) * 10)) ≤ (w64 ((w64 (10 + (hPick b 200))) * 65536))))) rfl rfl rfl (bi_leq rfl) (ao 64 rfl rfl (st_pkt' (b := ivRight (lawGlassSums_e1 b more a w)) (v := .bool (decide ((w64 (((ivSqr (lawGlassSums_e0 b more a w)).lo) * 10)) ≤ (w64 ((w64 (10 + (hPick b 200))) * 65536))))) h2 rfl rfl rfl (aM 65 (.bool (decide ((w64 (((ivSqr (lawGlassSums_e0 b more a w)).lo) * 10)) ≤ (w64 ((w64 (10 + (hPick b 200))) * 65536))))) rfl rfl ?_))))
 refine bool_split (decide ((w64 (((ivSqr (lawGlassSums_e0 b more a w)).lo) * 10)) ≤ (w64 ((w64 (10 + (hPick b 200))) * 65536)))) (fun h3 => ?_) (fun h3 => nomatch (show false = true from (show (lawGlassSums b more a w) = _ from (eT h1 (eT h2 (eF h3 rfl)))).symm.trans H))
 refine ar_gd (d := (some 66)) (by show ((decide ((w64 (((ivSqr (lawGlassSums_e0 b more a w)).lo) * 10)) ≤ (w64 ((w64 (10 + (hPick b 200))) * 65536)))) == true) = true; rw [h3]; rfl) rfl (st_fa rfl fa32_1 rfl (ar_gd (d := (some 67)) (by show ((decide ((w64 (((ivSqr (lawGlassSums_e0 b more a w)).lo) * 10)) ≤ (w64 ((w64 (10 + (hPick b 200))) * 65536)))) == true) = true; rw [h3]; rfl) rfl (st_ldc (v := .int .i64 ((ivSqr (lawGlassSums_e0 b more a w)).hi)) cell3 0 rfl rfl rfl rfl rfl ?_)))
 refine ar_gd (d := (some 68)) (by show ((decide ((w64 (((ivSqr (lawGlassSums_e0 b more a w)).lo) * 10)) ≤ (w64 ((w64 (10 + (hPick b 200))) * 65536)))) == true) = true; rw [h3]; rfl) rfl (st_bi (r := .int .i64 (w64 (((ivSqr (lawGlassSums_e0 b more a w)).hi) * 10))) rfl rfl rfl (bi_mul rfl) (ar_gd (d := (some 69)) (by show ((decide ((w64 (((ivSqr (lawGlassSums_e0 b more a w)).lo) * 10)) ≤ (w64 ((w64 (10 + (hPick b 200))) * 65536)))) == true) = true; rw [h3]; rfl) rfl (st_move (v := .int .i64 (hPick b 200)) rfl rfl ?_)))
 refine ar_gd (d := (some 70)) (by show ((decide ((w64 (((ivSqr (lawGlassSums_e0 b more a w)).lo) * 10)) ≤ (w64 ((w64 (10 + (hPick b 200))) * 65536)))) == true) = true; rw [h3]; rfl) rfl (st_bi (r := .int .i64 (w64 (10 + (hPick b 200)))) rfl rfl rfl (bi_add rfl) (ar_gd (d := (some 71)) (by show ((decide ((w64 (((ivSqr (lawGlassSums_e0 b more a w)).lo) * 10)) ≤ (w64 ((w64 (10 + (hPick b 200))) * 65536)))) == true) = true; rw [h3]; rfl) rfl (st_bi (r := .int .i64 (w64 ((w64 (10 + (hPick b 200))) * 65536))) rfl rfl rfl (bi_mul rfl) ?_)))
 refine ar_gd (d := (some 72)) (by show ((decide ((w64 (((ivSqr (lawGlassSums_e0 b more a w)).lo) * 10)) ≤ (w64 ((w64 (10 + (hPick b 200))) * 65536)))) == true) = true; rw [h3]; rfl) rfl (st_bi (r := .bool (decide ((w64 (((ivSqr (lawGlassSums_e0 b more a w)).hi) * 10)) ≥ (w64 ((w64 (10 + (hPick b 200))) * 65536))))) rfl rfl rfl (bi_geq rfl) (ao 73 rfl rfl (st_pkt' (b := decide ((w64 (((ivSqr (lawGlassSums_e0 b more a w)).lo) * 10)) ≤ (w64 ((w64 (10 + (hPick b 200))) * 65536)))) (v := .bool (decide ((w64 (((ivSqr (lawGlassSums_e0 b more a w)).hi) * 10)) ≥ (w64 ((w64 (10 + (hPick b 200))) * 65536))))) h3 rfl rfl rfl ?_)))
 refine aM 74 (.bool (decide ((w64 (((ivSqr (lawGlassSums_e0 b more a w)).hi) * 10)) ≥ (w64 ((w64 (10 + (hPick b 200))) * 65536))))) rfl rfl (bool_split (decide ((w64 (((ivSqr (lawGlassSums_e0 b more a w)).hi) * 10)) ≥ (w64 ((w64 (10 + (hPick b 200))) * 65536)))) (fun h4 => ?_) (fun h4 => nomatch (show false = true from (show (lawGlassSums b more a w) = _ from (eT h1 (eT h2 (eT h3 (eF h4 rfl))))).symm.trans H)))
 refine ar_gd (d := (some 75)) (by show ((decide ((w64 (((ivSqr (lawGlassSums_e0 b more a w)).hi) * 10)) ≥ (w64 ((w64 (10 + (hPick b 200))) * 65536)))) == true) = true; rw [h4]; rfl) rfl (st_fa rfl fa32_1 rfl (ar_gd (d := (some 76)) (by show ((decide ((w64 (((ivSqr (lawGlassSums_e0 b more a w)).hi) * 10)) ≥ (w64 ((w64 (10 + (hPick b 200))) * 65536)))) == true) = true; rw [h4]; rfl) rfl (st_ldc (v := .int .i64 ((lawGlassSums_e1 b more a w).hi)) cell3 1 rfl rfl rfl rfl rfl (ar_gd (d := (some 77)) (by show ((decide ((w64 (((ivSqr (lawGlassSums_e0 b more a w)).hi) * 10)) ≥ (w64 ((w64 (10 + (hPick b 200))) * 65536)))) == true) = true; rw [h4]; rfl) rfl (st_fa rfl fa32_1 rfl ?_)))))
 refine ar_gd (d := (some 78)) (by show ((decide ((w64 (((ivSqr (lawGlassSums_e0 b more a w)).hi) * 10)) ≥ (w64 ((w64 (10 + (hPick b 200))) * 65536)))) == true) = true; rw [h4]; rfl) rfl (st_ldc (v := .int .i64 ((lawGlassSums_e0 b more a w).hi)) cell3 2 rfl rfl rfl rfl rfl (ar_gd (d := (some 79)) (by show ((decide ((w64 (((ivSqr (lawGlassSums_e0 b more a w)).hi) * 10)) ≥ (w64 ((w64 (10 + (hPick b 200))) * 65536)))) == true) = true; rw [h4]; rfl) rfl (st_bi (r := .bool (decide (((lawGlassSums_e1 b more a w).hi) ≥ ((lawGlassSums_e0 b more a w).hi)))) rfl rfl rfl (bi_geq rfl) ?_)))
 refine ao 80 rfl rfl (st_pkt' (b := decide ((w64 (((ivSqr (lawGlassSums_e0 b more a w)).hi) * 10)) ≥ (w64 ((w64 (10 + (hPick b 200))) * 65536)))) (v := .bool (decide (((lawGlassSums_e1 b more a w).hi) ≥ ((lawGlassSums_e0 b more a w).hi)))) h4 rfl rfl rfl (aM 81 (.bool (decide (((lawGlassSums_e1 b more a w).hi) ≥ ((lawGlassSums_e0 b more a w).hi)))) rfl rfl (bool_split (decide (((lawGlassSums_e1 b more a w).hi) ≥ ((lawGlassSums_e0 b more a w).hi))) (fun h5 => ?_) (fun h5 => nomatch (show false = true from (show (lawGlassSums b more a w) = _ from (eT h1 (eT h2 (eT h3 (eT h4 (eF h5 rfl)))))).symm.trans H)))))
 refine ar_gd (d := (some 82)) (by show ((decide (((lawGlassSums_e1 b more a w).hi) ≥ ((lawGlassSums_e0 b more a w).hi))) == true) = true; rw [h5]; rfl) rfl (st_fa rfl fa32_0 rfl (ar_gd (d := (some 83)) (by show ((decide (((lawGlassSums_e1 b more a w).hi) ≥ ((lawGlassSums_e0 b more a w).hi))) == true) = true; rw [h5]; rfl) rfl (st_ldc (v := .int .i64 ((lawGlassSums_e1 b more a w).lo)) cell3 1 rfl rfl rfl rfl rfl (ar_gd (d := (some 84)) (by show ((decide (((lawGlassSums_e1 b more a w).hi) ≥ ((lawGlassSums_e0 b more a w).hi))) == true) = true; rw [h5]; rfl) rfl (st_fa rfl fa32_0 rfl ?_)))))
 refine ar_gd (d := (some 85)) (by show ((decide (((lawGlassSums_e1 b more a w).hi) ≥ ((lawGlassSums_e0 b more a w).hi))) == true) = true; rw [h5]; rfl) rfl (st_ldc (v := .int .i64 ((lawGlassSums_e0 b more a w).lo)) cell3 2 rfl rfl rfl rfl rfl (ar_gd (d := (some 86)) (by show ((decide (((lawGlassSums_e1 b more a w).hi) ≥ ((lawGlassSums_e0 b more a w).hi))) == true) = true; rw [h5]; rfl) rfl (st_bi (r := .bool (decide (((lawGlassSums_e1 b more a w).lo) ≥ ((lawGlassSums_e0 b more a w).lo)))) rfl rfl rfl (bi_geq rfl) ?_)))
 refine ao 87 rfl rfl (st_pkt' (b := decide (((lawGlassSums_e1 b more a w).hi) ≥ ((lawGlassSums_e0 b more a w).hi))) (v := .bool (decide (((lawGlassSums_e1 b more a w).lo) ≥ ((lawGlassSums_e0 b more a w).lo)))) h5 rfl rfl rfl (aA 8 (.bool (decide (((lawGlassSums_e1 b more a w).lo) ≥ ((lawGlassSums_e0 b more a w).lo)))) rfl rfl (aN (ac_ret ?_))))
 exact fin_eq (v := .bool (decide (((lawGlassSums_e1 b more a w).lo) ≥ ((lawGlassSums_e0 b more a w).lo)))) (congrArg Value.bool (show (decide (((lawGlassSums_e1 b more a w).lo) ≥ ((lawGlassSums_e0 b more a w).lo))) = true from (show (lawGlassSums b more a w) = _ from (eT h1 (eT h2 (eT h3 (eT h4 (eT h5 rfl)))))).symm.trans H)) (fin_ret (res_tmp rfl rfl))
end Go.Proofs.YtalffjplbhelcaaGreatDoor
namespace Go.Proofs.YtalffjplbhelcaaGreatDoor
theorem w64_of {n : Int} (h : -9223372036854775808 ≤ n) (h' : n ≤ 9223372036854775807) : w64 n = n := w64_id ⟨h, h'⟩
theorem numIn_iff (n : Int) : numIn n = true ↔ -1073741824 ≤ n ∧ n ≤ 1073741824 := by
  unfold numIn
  by_cases h : n ≥ -1073741824 <;> simp [h] <;> omega
theorem rIn_eq (n : Int) : rIn n = numIn n := rfl
theorem tmod_lt_neg (a : Int) {b : Int} (hb : b < 0) : a.tmod b < -b ∧ b < a.tmod b := by
  have h1 := Int.tmod_lt_of_pos a (b := -b) (by omega)
  have h2 := Int.lt_tmod_of_pos a (b := -b) (by omega)
  rw [Int.tmod_neg] at h1 h2
  omega
theorem tmod_sign (a b : Int) : (0 ≤ a → 0 ≤ a.tmod b) ∧ (a ≤ 0 → a.tmod b ≤ 0) := by
  refine ⟨fun h => Int.tmod_nonneg b h, fun h => ?_⟩
  have := Int.tmod_nonneg b (a := -a) (by omega)
  rw [Int.neg_tmod] at this
  omega
theorem tdiv_abs (a : Int) {b : Int} (hb : b ≠ 0) (h : -9223372036854775808 < a ∧ a ≤ 9223372036854775807) : -9223372036854775807 ≤ a.tdiv b ∧ a.tdiv b ≤ 9223372036854775807 := by
  have h1 : (a.tdiv b).natAbs ≤ a.natAbs := by
    rw [Int.natAbs_tdiv]
    exact Nat.div_le_self _ _
  omega
theorem numFloor_spec (a : Int) {b : Int} (hb : b ≠ 0) (h : -9223372036854775808 < a ∧ a ≤ 9223372036854775807) :
    (0 < b → numFloor a b = a / b) ∧ (b < 0 → numFloor a b = (-a) / (-b)) := by
  have ht := tdiv_abs a hb h
  have he := Int.mul_tdiv_add_tmod a b
  have hs := tmod_sign a b
  have hne : (b == 0) = false := by simpa using hb
  have h0 : ∀ b' : Int, 0 < b' → ∀ a' q r : Int, b' * q + r = a' → 0 ≤ r → r < b' → a' / b' = q := fun b' hb' a' q r h1 h2 h3 =>
    ((Int.ediv_emod_unique (r := r) (q := q) hb').2 ⟨by omega, h2, h3⟩).1
  have hw1 : w64 (a.tdiv b) = a.tdiv b := w64_of (by omega) (by omega)
  have hw2 : w64 (a.tdiv b - 1) = a.tdiv b - 1 := w64_of (by omega) (by omega)
  unfold numFloor numFloor_e0
  rw [hne, hw1, hw2]
  simp only [cond_false]
  refine ⟨fun hp => ?_, fun hn => ?_⟩
  · have hl := Int.tmod_lt_of_pos a hp
    have hl' := Int.lt_tmod_of_pos a hp
    by_cases hr : a.tmod b = 0
    · simp only [hr, bne_self_eq_false, cond_false]
      exact (h0 b hp a _ _ he (by omega) (by omega)).symm
    · have hr' : (a.tmod b != 0) = true := by simpa using hr
      have hbn : decide (b < 0) = false := decide_eq_false (by omega)
      rw [hr', hbn]
      simp only [cond_true]
      by_cases ha : a < 0
      · simp only [ha, decide_true, Bool.bne_false, cond_true]
        refine (h0 b hp a (a.tdiv b - 1) (a.tmod b + b) ?_ (by omega) (by omega)).symm
        rw [Int.mul_sub, Int.mul_one]
        omega
      · simp only [ha, decide_false, bne_self_eq_false, cond_false]
        exact (h0 b hp a _ _ he (hs.1 (by omega)) hl).symm
  · obtain ⟨hl, hl'⟩ := tmod_lt_neg a hn
    have hpn : 0 < -b := by omega
    by_cases hr : a.tmod b = 0
    · simp only [hr, bne_self_eq_false, cond_false]
      refine (h0 (-b) hpn (-a) _ (-(a.tmod b)) ?_ (by omega) (by omega)).symm
      rw [Int.neg_mul]
      omega
    · have hr' : (a.tmod b != 0) = true := by simpa using hr
      have hbn : decide (b < 0) = true := decide_eq_true hn
      rw [hr', hbn]
      simp only [cond_true]
      by_cases ha : a < 0
      · simp only [ha, decide_true, bne_self_eq_false, cond_false]
        refine (h0 (-b) hpn (-a) _ (-(a.tmod b)) ?_ (by have := hs.2 (by omega); omega) (by omega)).symm
        rw [Int.neg_mul]
        omega
      · simp only [ha, decide_false, Bool.bne_true, Bool.not_false, cond_true]
        refine (h0 (-b) hpn (-a) (a.tdiv b - 1) (-(a.tmod b) - b) ?_ (by have := hs.1 (by omega); omega) (by have := hs.1 (by omega); omega)).symm
        rw [Int.mul_sub, Int.neg_mul, Int.mul_one]
        omega
def dn (a b : Int) : Int := a / b
def upq (a b : Int) : Int := -((-a) / b)
def rq (a b : Int) (up : Bool) : Int := bif up then upq a b else dn a b
theorem dn_le {a b : Int} (hb : 0 < b) : dn a b * b ≤ a ∧ a < (dn a b + 1) * b := by
  unfold dn
  have h1 := Int.mul_ediv_add_emod a b
  have h2 := Int.emod_nonneg a (Int.ne_of_gt hb)
  have h3 := Int.emod_lt_of_pos a hb
  rw [Int.add_mul, Int.one_mul, Int.mul_comm]
  omega
theorem upq_ge {a b : Int} (hb : 0 < b) : a ≤ upq a b * b ∧ (upq a b - 1) * b < a := by
  have := dn_le (a := -a) hb
  unfold dn at this
  unfold upq
  rw [Int.sub_mul, Int.neg_mul, Int.one_mul]
  rw [Int.add_mul, Int.one_mul] at this
  omega
theorem upq_eq {a b : Int} (hb : 0 < b) : upq a b = if a % b = 0 then a / b else a / b + 1 := by
  have h1 := Int.mul_ediv_add_emod a b
  have h2 := Int.emod_nonneg a (Int.ne_of_gt hb)
  have h3 := Int.emod_lt_of_pos a hb
  unfold upq
  split
  · rename_i h
    have : (-a) / b = -(a / b) := ((Int.ediv_emod_unique (r := 0) hb).2 ⟨by rw [Int.mul_neg]; omega, by omega, hb⟩).1
    omega
  · rename_i h
    have : (-a) / b = -(a / b) - 1 := ((Int.ediv_emod_unique (r := b - a % b) hb).2 ⟨by rw [Int.mul_sub, Int.mul_neg, Int.mul_one]; omega, by omega, by omega⟩).1
    omega
def told (q : Int) : Int × Bool := bif numIn q then (q, true) else (0, false)
theorem tmod_zero_iff (a : Int) (b : Int) : a.tmod b = 0 ↔ a % b = 0 := by
  rw [← Int.dvd_iff_tmod_eq_zero, Int.dvd_iff_emod_eq_zero]
theorem numRounded_pos (a : Int) {b : Int} (hb : 0 < b) (h : -9223372036854775808 < a ∧ a < 9223372036854775807) (up : Bool) : numRounded a b up = told (rq a b up) := by
  have hf := (numFloor_spec a (Int.ne_of_gt hb) (by omega)).1 hb
  have hq : -9223372036854775808 ≤ a / b ∧ a / b < 9223372036854775807 := by
    have h1 := tdiv_abs a (Int.ne_of_gt hb) (by omega)
    have h2 := dn_le (a := a) hb
    unfold dn at h2
    constructor
    · have : -9223372036854775808 * b ≤ a := by
        have : -9223372036854775808 * b ≤ -9223372036854775808 * 1 := Int.mul_le_mul_of_nonpos_left (by omega) (by omega)
        omega
      refine Decidable.byContradiction fun hc => ?_
      have : (a / b + 1) * b ≤ -9223372036854775808 * b := Int.mul_le_mul_of_nonneg_right (by omega) (by omega)
      omega
    · refine Decidable.byContradiction fun hc => ?_
      have : 9223372036854775807 * 1 ≤ a / b * b := Int.mul_le_mul (by omega) (by omega) (by omega) (by omega)
      omega
  unfold numRounded numRounded_e0 rq
  rw [hf]
  have hw : w64 (a / b + 1) = a / b + 1 := w64_of (by omega) (by omega)
  rw [hw]
  cases up
  · rfl
  · simp only [cond_true]
    rw [upq_eq hb]
    by_cases hz : a % b = 0
    · have h1 := (tmod_zero_iff a b).2 hz
      simp only [h1, bne_self_eq_false, cond_false, hz, if_true]
      rfl
    · have h1 : ¬ a.tmod b = 0 := fun e => hz ((tmod_zero_iff a b).1 e)
      have h2 : (a.tmod b != 0) = true := by simpa using h1
      simp only [h2, cond_true, hz, if_false]
      rfl
end Go.Proofs.YtalffjplbhelcaaGreatDoor
namespace Go.Proofs.YtalffjplbhelcaaGreatDoor
theorem mul_bound {a b A B : Int} (ha : -A ≤ a ∧ a ≤ A) (hb : -B ≤ b ∧ b ≤ B) : -(A * B) ≤ a * b ∧ a * b ≤ A * B := by
  have h : (a * b).natAbs ≤ (A * B).natAbs := by
    rw [Int.natAbs_mul, Int.natAbs_mul]
    exact Nat.mul_le_mul (by omega) (by omega)
  have h2 : 0 ≤ A * B := Int.mul_nonneg (by omega) (by omega)
  omega
theorem told_in {q : Int} (h : -1073741824 ≤ q ∧ q ≤ 1073741824) : told q = (q, true) := by
  unfold told
  rw [(numIn_iff q).2 h]; rfl
theorem told_snd (q : Int) : (told q).2 = numIn q := by
  unfold told
  cases numIn q <;> rfl
theorem numRounded_neg (a : Int) {b : Int} (hb : b < 0) (hb' : -9223372036854775808 < b) (h : -9223372036854775808 < a ∧ a ≤ 9223372036854775807) (up : Bool) : numRounded a b up = numRounded (-a) (-b) up := by
  have h1 := (numFloor_spec a (Int.ne_of_lt hb) h).2 hb
  have h2 := (numFloor_spec (-a) (b := -b) (by omega) (by omega)).1 (by omega)
  have h3 : numFloor a b = numFloor (-a) (-b) := by rw [h1, h2]
  have h4 : (a.tmod b != 0) = ((-a).tmod (-b) != 0) := by
    rw [Int.tmod_neg, Int.neg_tmod]
    by_cases hz : a.tmod b = 0
    · rw [hz]; rfl
    · have e1 : (a.tmod b != 0) = true := by simpa using hz
      have e2 : (-(a.tmod b) != 0) = true := by simpa using hz
      rw [e1, e2]
  unfold numRounded numRounded_e0
  rw [h3, h4]
theorem numMul_spec {a b : Int} (ha : -1073741824 ≤ a ∧ a ≤ 1073741824) (hb : -1073741824 ≤ b ∧ b ≤ 1073741824) (up : Bool) : numMul a b up = told (rq (a * b) 65536 up) := by
  have h := mul_bound ha hb
  unfold numMul
  rw [(numIn_iff a).2 ha, (numIn_iff b).2 hb, w64_of (by omega) (by omega), numRounded_pos (a * b) (b := 65536) (by omega) (by omega)]
  rfl
def dq (a b : Int) (up : Bool) : Int := rq (bif decide (b < 0) then -(a * 65536) else a * 65536) (bif decide (b < 0) then -b else b) up
theorem numDiv_spec {a b : Int} (ha : -1073741824 ≤ a ∧ a ≤ 1073741824) (hb : -1073741824 ≤ b ∧ b ≤ 1073741824) (h0 : b ≠ 0) (up : Bool) : numDiv a b up = told (dq a b up) := by
  have h0' : (b == 0) = false := by simpa using h0
  unfold numDiv dq
  rw [(numIn_iff a).2 ha, (numIn_iff b).2 hb, w64_of (by omega) (by omega), h0']
  simp only [cond_true, cond_false]
  by_cases hn : b < 0
  · rw [numRounded_neg _ hn (by omega) (by omega), numRounded_pos (-(a * 65536)) (b := -b) (by omega) (by omega), decide_eq_true hn]
    rfl
  · rw [numRounded_pos (a * 65536) (b := b) (by omega) (by omega), decide_eq_false hn]
    rfl
def IsRoot (n s : Int) : Prop := 0 ≤ s ∧ s * s ≤ n ∧ n < (s + 1) * (s + 1)
theorem orI_add {r : Int} {j : Nat} (h0 : 0 ≤ r) (h1 : r < 4611686018427387904) (hj : j < 62) (hd : (2 : Int) ^ (j + 1) ∣ r) : orI r (2 ^ j) = r + 2 ^ j := by
  obtain ⟨q, rfl⟩ := hd
  have hp : (0 : Int) < 2 ^ (j + 1) := Int.pow_pos (by omega)
  have hq : 0 ≤ q := by
    refine Decidable.byContradiction fun hc => ?_
    have : (2 : Int) ^ (j + 1) * q ≤ 2 ^ (j + 1) * (-1) := Int.mul_le_mul_of_nonneg_left (by omega) (by omega)
    omega
  obtain ⟨k, rfl⟩ := Int.eq_ofNat_of_zero_le hq
  have e1 : ((2 : Int) ^ (j + 1) * (k : Int)) = ((2 ^ (j + 1) * k : Nat) : Int) := by push_cast; rfl
  have e2 : ((2 : Int) ^ j) = ((2 ^ j : Nat) : Int) := by push_cast; rfl
  have hj2 : (2 : Nat) ^ j < 2 ^ 62 := Nat.pow_lt_pow_right (by omega) hj
  have hlt : (2 : Nat) ^ j < 2 ^ (j + 1) := Nat.pow_lt_pow_right (by omega) (by omega)
  rw [e1] at h1
  have h1' : 2 ^ (j + 1) * k < 4611686018427387904 := by omega
  unfold orI
  rw [e1, e2, BitVec.ofInt_natCast, BitVec.ofInt_natCast, BitVec.toNat_or, BitVec.toNat_ofNat, BitVec.toNat_ofNat, Nat.mod_eq_of_lt (by omega), Nat.mod_eq_of_lt (by omega), ← Nat.two_pow_add_eq_or_of_lt hlt]
  rw [w64_of (by omega) (by omega)]
  push_cast
  rfl
theorem pow_min (j : Nat) (hj : j < 64) : w64 (1 * 2 ^ (min (Int.toNat (j : Int)) 64)) = w64 (2 ^ j) := by
  rw [Int.one_mul, Int.toNat_natCast, Nat.min_eq_left (by omega)]
theorem numRootLoop_spec (n : Int) : ∀ (j : Nat) (r : Int), j ≤ 30 → 0 ≤ r → r + 2 ^ j ≤ 2 ^ 30 → (2 : Int) ^ j ∣ r → r * r ≤ n → n < (r + 2 ^ j) * (r + 2 ^ j) → IsRoot n (numRootLoop n j r) := by
  intro j
  induction j with
  | zero =>
    intro r hj h0 h1 hd h2 h3
    show IsRoot n r
    exact ⟨h0, h2, by simpa using h3⟩
  | succ j ih =>
    intro r hj h0 h1 hd h2 h3
    have hp : (0 : Int) < 2 ^ j := Int.pow_pos (by omega)
    have hs : (2 : Int) ^ (j + 1) = 2 ^ j + 2 ^ j := by rw [Int.pow_succ]; omega
    have hd' : (2 : Int) ^ j ∣ r := Int.dvd_trans ⟨2, Int.pow_succ ..⟩ hd
    have hk : (2 : Int) ^ 30 = 1073741824 := by decide
    have e : orI r (w64 (1 * 2 ^ (min (Int.toNat (j : Int)) 64))) = r + 2 ^ j := by
      rw [pow_min j (by omega), w64_of (by omega) (by omega)]
      exact orI_add h0 (by omega) (by omega) hd
    have hm := mul_bound (a := r + 2 ^ j) (b := r + 2 ^ j) (A := 1073741824) (B := 1073741824) (by omega) (by omega)
    rw [numRootLoop, e, w64_of (by omega) (by omega)]
    by_cases hc : (r + 2 ^ j) * (r + 2 ^ j) ≤ n
    · rw [decide_eq_true hc]
      refine ih (r + 2 ^ j) (by omega) (by omega) (by omega) (Int.dvd_add hd' (Int.dvd_refl _)) hc ?_
      rw [Int.add_assoc, ← hs]; exact h3
    · rw [decide_eq_false hc]
      exact ih r (by omega) h0 (by omega) hd' h2 (by omega)
def rootf (a : Int) : Int := numRootLoop (a * 65536) 25 0
def rootc (a : Int) : Int := if rootf a * rootf a < a * 65536 then rootf a + 1 else rootf a
theorem rootf_is {a : Int} (h0 : 0 ≤ a) (h1 : a ≤ 1073741824) : IsRoot (a * 65536) (rootf a) :=
  numRootLoop_spec _ 25 0 (by omega) (by omega) (by decide) ⟨0, rfl⟩ (by omega) (by
    have : ((0 : Int) + 2 ^ 25) * (0 + 2 ^ 25) = 1125899906842624 := by decide
    omega)
theorem root_lt {n s B : Int} (h : s * s ≤ n) (hn : n < B * B) (hs : 0 ≤ s) (hB : 0 ≤ B) : s < B := by
  refine Decidable.byContradiction fun hc => ?_
  have := Int.mul_le_mul (show B ≤ s by omega) (show B ≤ s by omega) hB hs
  omega
theorem rootf_le {a : Int} (h0 : 0 ≤ a) (h1 : a ≤ 1073741824) : 0 ≤ rootf a ∧ rootf a ≤ 8388608 := by
  obtain ⟨k1, k2, k3⟩ := rootf_is h0 h1
  have := root_lt (B := 8388609) k2 (by omega) k1 (by omega)
  omega
theorem numRoot_spec {a : Int} (h0 : 0 ≤ a) (h1 : a ≤ 1073741824) (up : Bool) : numRoot a up = (bif up then rootc a else rootf a, true) := by
  have hr := rootf_le h0 h1
  have hm := mul_bound (a := rootf a) (b := rootf a) (A := 8388608) (B := 8388608) (by omega) (by omega)
  have e : numRootLoop (a * 65536) 25 0 = rootf a := rfl
  unfold numRoot numRoot_e0
  rw [decide_eq_false (by omega), (numIn_iff a).2 (by omega), w64_of (n := a * 65536) (by omega) (by omega), e, w64_of (n := rootf a * rootf a) (by omega) (by omega), w64_of (n := rootf a + 1) (by omega) (by omega)]
  unfold rootc
  cases up
  · rfl
  · simp only [cond_false, cond_true, Bool.cond_decide]
end Go.Proofs.YtalffjplbhelcaaGreatDoor
namespace Go.Proofs.YtalffjplbhelcaaGreatDoor
theorem rRight_iff (a : Iv) : rRight a = true ↔ a.no = false ∧ -1073741824 ≤ a.lo ∧ a.lo ≤ a.hi ∧ a.hi ≤ 1073741824 := by
  obtain ⟨lo, hi, no⟩ := a
  unfold rRight
  simp only [rIn_eq]
  cases no <;> simp [numIn_iff, Bool.cond_eq_ite, Bool.and_eq_true] <;> omega
end Go.Proofs.YtalffjplbhelcaaGreatDoor
