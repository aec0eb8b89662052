import Derived.Test.YthngkopcadlciaaMNormalTells6
import Derived.Test.YthngkopcadlciaaMNormalTells5
import Derived.Test.YthngkopcadlciaaMNormalTells3
import Derived.Test.YthngkopcadlciaaMNormalTells10
import Derived.Test.YthngkopcadlciaaMNormalTells1
import Derived.Test.YthngkopcadlciaaMNormalTells2
import Derived.Test.YthngkopcadlciaaMNormalTells4
import Derived.Test.YthngkopcadlciaaMNormalTells7
import Derived.Laws.Strings3
import Derived.Laws.Concat
import Derived.Laws.BytesString
set_option linter.unusedVariables false
set_option linter.unusedSimpArgs false
namespace Go.Proofs.Ythngkopcadlciaa
open Go.RowKit
attribute [local irreducible] AC AR DWalk
def rVecLen2 (a : V) : Iv := (rAdd (rAdd (rSqr a.x) (rSqr a.y)) (rSqr a.z))
set_option maxRecDepth 100000 in
theorem c_rVecLen2 (a : V) : Gets Try.prog 116 #[.agg #[.int .i64 a.x.lo, .int .i64 a.x.hi, .bool a.x.no, .int .i64 a.y.lo, .int .i64 a.y.hi, .bool a.y.no, .int .i64 a.z.lo, .int .i64 a.z.hi, .bool a.z.no]] (Iv.v (rVecLen2 a)) := by
 refine gets_fin Try.func116 rfl rfl rfl (aQ (aL (ao 1 rfl rfl (st_box (v := .agg #[.int .i64 a.x.lo, .int .i64 a.x.hi, .bool a.x.no, .int .i64 a.y.lo, .int .i64 a.y.hi, .bool a.y.no, .int .i64 a.z.lo, .int .i64 a.z.hi, .bool a.z.no]) (cs := [.int .i64 a.x.lo, .int .i64 a.x.hi, .bool a.x.no, .int .i64 a.y.lo, .int .i64 a.y.hi, .bool a.y.no, .int .i64 a.z.lo, .int .i64 a.z.hi, .bool a.z.no]) rfl rfl rfl fun g0 => (ao 2 rfl rfl (st_new zero26 rfl fun g1 => (aN (aQ ?_))))))))
 refine ac_draw0 (id := 1) [0, 1, 2, 3, 4, 5, 6, 7, 8, 9, 10] [11] _ (by kernel_rfl) follows rfl  (dw_op (d := some 3) _ rfl rfl rfl (st_fa rfl fa57_0 rfl ⟨rfl, rfl⟩) (dw_op (d := some 4) _ rfl rfl rfl (st_lda (vs := [.int .i64 a.x.lo, .int .i64 a.x.hi, .bool a.x.no]) agg26 1 rfl rfl rfl rfl rfl rfl ⟨rfl, rfl⟩) (dw_op (d := some 5) _ rfl rfl rfl (st_cf (c_rSqr a.x) Try.func84 rfl (by decide) rfl rfl rfl ⟨rfl, rfl⟩) (dw_op (d := some 6) _ rfl rfl rfl (st_fa rfl fa57_1 rfl ⟨rfl, rfl⟩) (dw_op (d := some 7) _ rfl rfl rfl (st_lda (vs := [.int .i64 a.y.lo, .int .i64 a.y.hi, .bool a.y.no]) agg26 1 rfl rfl rfl rfl rfl rfl ⟨rfl, rfl⟩) ?_)))))
 refine dw_op (d := some 8) _ rfl rfl rfl (st_cf (c_rSqr a.y) Try.func84 rfl (by decide) rfl rfl rfl ⟨rfl, rfl⟩) (dw_op (d := some 9) _ rfl rfl rfl (st_cf (c_rAdd (rSqr a.x) (rSqr a.y)) Try.func86 rfl (by decide) rfl rfl rfl ⟨rfl, rfl⟩) (dw_op (d := some 10) _ rfl rfl rfl (st_fa rfl fa57_2 rfl ⟨rfl, rfl⟩) (dw_op (d := some 11) _ rfl rfl rfl (st_lda (vs := [.int .i64 a.z.lo, .int .i64 a.z.hi, .bool a.z.no]) agg26 1 rfl rfl rfl rfl rfl rfl ⟨rfl, rfl⟩) (dw_op (d := some 12) _ rfl rfl rfl (st_cf (c_rSqr a.z) Try.func84 rfl (by decide) rfl rfl rfl ⟨rfl, rfl⟩) ?_))))
 refine dw_op (d := some 13) _ rfl rfl rfl (st_cf (c_rAdd (rAdd (rSqr a.x) (rSqr a.y)) (rSqr a.z)) Try.func86 rfl (by decide) rfl rfl rfl ⟨rfl, rfl⟩) (dw_nil (aS [.int .i64 ((rAdd (rAdd (rSqr a.x) (rSqr a.y)) (rSqr a.z)).lo), .int .i64 ((rAdd (rAdd (rSqr a.x) (rSqr a.y)) (rSqr a.z)).hi), .bool ((rAdd (rAdd (rSqr a.x) (rSqr a.y)) (rSqr a.z)).no)] agg26 0 rfl rfl rfl rfl rfl rfl (aN (ac_ret ?_))))
 exact fin_eq (v := .agg #[.int .i64 ((rAdd (rAdd (rSqr a.x) (rSqr a.y)) (rSqr a.z)).lo), .int .i64 ((rAdd (rAdd (rSqr a.x) (rSqr a.y)) (rSqr a.z)).hi), .bool ((rAdd (rAdd (rSqr a.x) (rSqr a.y)) (rSqr a.z)).no)]) rfl (fin_ret (res_c (vs := [.int .i64 ((rAdd (rAdd (rSqr a.x) (rSqr a.y)) (rSqr a.z)).lo), .int .i64 ((rAdd (rAdd (rSqr a.x) (rSqr a.y)) (rSqr a.z)).hi), .bool ((rAdd (rAdd (rSqr a.x) (rSqr a.y)) (rSqr a.z)).no)]) agg26 0 rfl rfl rfl rfl rfl rfl))
def rVecUnit (a : V) : V := (⟨(rDivIv a.x (rRootIv (rVecLen2 a))), (rDivIv a.y (rRootIv (rVecLen2 a))), (rDivIv a.z (rRootIv (rVecLen2 a)))⟩ : V)
set_option maxRecDepth 100000 in
theorem c_rVecUnit (a : V) : Gets Try.prog 95 #[.agg #[.int .i64 a.x.lo, .int .i64 a.x.hi, .bool a.x.no, .int .i64 a.y.lo, .int .i64 a.y.hi, .bool a.y.no, .int .i64 a.z.lo, .int .i64 a.z.hi, .bool a.z.no]] (V.v (rVecUnit a)) := by
 refine gets_fin Try.func95 rfl rfl rfl (aQ (aL (ao 1 rfl rfl (st_box (v := .agg #[.int .i64 a.x.lo, .int .i64 a.x.hi, .bool a.x.no, .int .i64 a.y.lo, .int .i64 a.y.hi, .bool a.y.no, .int .i64 a.z.lo, .int .i64 a.z.hi, .bool a.z.no]) (cs := [.int .i64 a.x.lo, .int .i64 a.x.hi, .bool a.x.no, .int .i64 a.y.lo, .int .i64 a.y.hi, .bool a.y.no, .int .i64 a.z.lo, .int .i64 a.z.hi, .bool a.z.no]) rfl rfl rfl fun g0 => (ao 2 rfl rfl (st_new zero57 rfl fun g1 => (aN (aQ (aL (aG 4 [.int .i64 a.x.lo, .int .i64 a.x.hi, .bool a.x.no, .int .i64 a.y.lo, .int .i64 a.y.hi, .bool a.y.no, .int .i64 a.z.lo, .int .i64 a.z.hi, .bool a.z.no] agg57 1 rfl rfl rfl rfl rfl ?_))))))))))
 refine aC 5 (c_rVecLen2 a) Try.func116 ⟨rfl, by decide⟩ rfl rfl (aC 6 (c_rRootIv (rVecLen2 a)) Try.func81 ⟨rfl, by decide⟩ rfl rfl (ao 3 rfl rfl (st_new zero26 rfl fun g2 => (aS [.int .i64 ((rRootIv (rVecLen2 a)).lo), .int .i64 ((rRootIv (rVecLen2 a)).hi), .bool ((rRootIv (rVecLen2 a)).no)] agg26 0 rfl rfl rfl rfl rfl rfl (aN (aQ ?_))))))
 refine ac_draw0 (id := 2) [0, 1, 2, 3, 4, 5, 6, 7, 8, 9, 10, 11, 12] [13] _ (by kernel_rfl) follows rfl  (dw_op (d := some 7) _ rfl rfl rfl (st_fa rfl fa57_0 rfl ⟨rfl, rfl⟩) (dw_op (d := some 8) _ rfl rfl rfl (st_lda (vs := [.int .i64 a.x.lo, .int .i64 a.x.hi, .bool a.x.no]) agg26 2 rfl rfl rfl rfl rfl rfl ⟨rfl, rfl⟩) (dw_op (d := some 9) _ rfl rfl rfl (st_lda (vs := [.int .i64 ((rRootIv (rVecLen2 a)).lo), .int .i64 ((rRootIv (rVecLen2 a)).hi), .bool ((rRootIv (rVecLen2 a)).no)]) agg26 0 rfl rfl rfl rfl rfl rfl ⟨rfl, rfl⟩) (dw_op (d := some 10) _ rfl rfl rfl (st_cf (c_rDivIv a.x (rRootIv (rVecLen2 a))) Try.func85 rfl (by decide) rfl rfl rfl ⟨rfl, rfl⟩) ?_))))
 refine dw_op (d := some 11) _ rfl rfl rfl (st_fa rfl fa57_1 rfl ⟨rfl, rfl⟩) (dw_op (d := some 12) _ rfl rfl rfl (st_lda (vs := [.int .i64 a.y.lo, .int .i64 a.y.hi, .bool a.y.no]) agg26 2 rfl rfl rfl rfl rfl rfl ⟨rfl, rfl⟩) (dw_op (d := some 13) _ rfl rfl rfl (st_lda (vs := [.int .i64 ((rRootIv (rVecLen2 a)).lo), .int .i64 ((rRootIv (rVecLen2 a)).hi), .bool ((rRootIv (rVecLen2 a)).no)]) agg26 0 rfl rfl rfl rfl rfl rfl ⟨rfl, rfl⟩) (dw_op (d := some 14) _ rfl rfl rfl (st_cf (c_rDivIv a.y (rRootIv (rVecLen2 a))) Try.func85 rfl (by decide) rfl rfl rfl ⟨rfl, rfl⟩) (dw_op (d := some 15) _ rfl rfl rfl (st_fa rfl fa57_2 rfl ⟨rfl, rfl⟩) ?_))))
 refine dw_op (d := some 16) _ rfl rfl rfl (st_lda (vs := [.int .i64 a.z.lo, .int .i64 a.z.hi, .bool a.z.no]) agg26 2 rfl rfl rfl rfl rfl rfl ⟨rfl, rfl⟩) (dw_op (d := some 17) _ rfl rfl rfl (st_lda (vs := [.int .i64 ((rRootIv (rVecLen2 a)).lo), .int .i64 ((rRootIv (rVecLen2 a)).hi), .bool ((rRootIv (rVecLen2 a)).no)]) agg26 0 rfl rfl rfl rfl rfl rfl ⟨rfl, rfl⟩) (dw_op (d := some 18) _ rfl rfl rfl (st_cf (c_rDivIv a.z (rRootIv (rVecLen2 a))) Try.func85 rfl (by decide) rfl rfl rfl ⟨rfl, rfl⟩) ?_))
 refine dw_op (d := some 19) _ rfl rfl rfl (st_bd (us := [(0, .agg #[.int .i64 ((rDivIv a.x (rRootIv (rVecLen2 a))).lo), .int .i64 ((rDivIv a.x (rRootIv (rVecLen2 a))).hi), .bool ((rDivIv a.x (rRootIv (rVecLen2 a))).no)]), (1, .agg #[.int .i64 ((rDivIv a.y (rRootIv (rVecLen2 a))).lo), .int .i64 ((rDivIv a.y (rRootIv (rVecLen2 a))).hi), .bool ((rDivIv a.y (rRootIv (rVecLen2 a))).no)]), (2, .agg #[.int .i64 ((rDivIv a.z (rRootIv (rVecLen2 a))).lo), .int .i64 ((rDivIv a.z (rRootIv (rVecLen2 a))).hi), .bool ((rDivIv a.z (rRootIv (rVecLen2 a))).no)])]) (v := .agg #[.int .i64 ((rDivIv a.x (rRootIv (rVecLen2 a))).lo), .int .i64 ((rDivIv a.x (rRootIv (rVecLen2 a))).hi), .bool ((rDivIv a.x (rRootIv (rVecLen2 a))).no), .int .i64 ((rDivIv a.y (rRootIv (rVecLen2 a))).lo), .int .i64 ((rDivIv a.y (rRootIv (rVecLen2 a))).hi), .bool ((rDivIv a.y (rRootIv (rVecLen2 a))).no), .int .i64 ((rDivIv a.z (rRootIv (rVecLen2 a))).lo), .int .i64 ((rDivIv a.z (rRootIv (rVecLen2 a))).hi), .bool ((rDivIv a.z (rRootIv (rVecLen2 a))).no)]) rfl rfl (bd57_0a_1a_2a _ _ _ _ _ _ _ _ _) ⟨rfl, rfl⟩) ?_
 refine dw_nil (aS [.int .i64 ((rDivIv a.x (rRootIv (rVecLen2 a))).lo), .int .i64 ((rDivIv a.x (rRootIv (rVecLen2 a))).hi), .bool ((rDivIv a.x (rRootIv (rVecLen2 a))).no), .int .i64 ((rDivIv a.y (rRootIv (rVecLen2 a))).lo), .int .i64 ((rDivIv a.y (rRootIv (rVecLen2 a))).hi), .bool ((rDivIv a.y (rRootIv (rVecLen2 a))).no), .int .i64 ((rDivIv a.z (rRootIv (rVecLen2 a))).lo), .int .i64 ((rDivIv a.z (rRootIv (rVecLen2 a))).hi), .bool ((rDivIv a.z (rRootIv (rVecLen2 a))).no)] agg57 1 rfl rfl rfl rfl rfl rfl (aN (ac_ret ?_)))
 exact fin_eq (v := .agg #[.int .i64 ((rDivIv a.x (rRootIv (rVecLen2 a))).lo), .int .i64 ((rDivIv a.x (rRootIv (rVecLen2 a))).hi), .bool ((rDivIv a.x (rRootIv (rVecLen2 a))).no), .int .i64 ((rDivIv a.y (rRootIv (rVecLen2 a))).lo), .int .i64 ((rDivIv a.y (rRootIv (rVecLen2 a))).hi), .bool ((rDivIv a.y (rRootIv (rVecLen2 a))).no), .int .i64 ((rDivIv a.z (rRootIv (rVecLen2 a))).lo), .int .i64 ((rDivIv a.z (rRootIv (rVecLen2 a))).hi), .bool ((rDivIv a.z (rRootIv (rVecLen2 a))).no)]) rfl (fin_ret (res_c (vs := [.int .i64 ((rDivIv a.x (rRootIv (rVecLen2 a))).lo), .int .i64 ((rDivIv a.x (rRootIv (rVecLen2 a))).hi), .bool ((rDivIv a.x (rRootIv (rVecLen2 a))).no), .int .i64 ((rDivIv a.y (rRootIv (rVecLen2 a))).lo), .int .i64 ((rDivIv a.y (rRootIv (rVecLen2 a))).hi), .bool ((rDivIv a.y (rRootIv (rVecLen2 a))).no), .int .i64 ((rDivIv a.z (rRootIv (rVecLen2 a))).lo), .int .i64 ((rDivIv a.z (rRootIv (rVecLen2 a))).hi), .bool ((rDivIv a.z (rRootIv (rVecLen2 a))).no)]) agg57 1 rfl rfl rfl rfl rfl rfl))
end Go.Proofs.Ythngkopcadlciaa
namespace Go.Proofs.Ythngkopcadlciaa
open Go.RowKit
attribute [local irreducible] AC AR DWalk
end Go.Proofs.Ythngkopcadlciaa
namespace Go.Proofs.Ythngkopcadlciaa
open Go.RowKit
attribute [local irreducible] AC AR DWalk
end Go.Proofs.Ythngkopcadlciaa
namespace Go.Proofs.Ythngkopcadlciaa
theorem rVecLen2_eq (a : V) : rVecLen2 a = vecLen2 a := by
  unfold rVecLen2 vecLen2
  simp only [rSqr_eq, rAdd_eq]
theorem rVecUnit_eq (a : V) : rVecUnit a = vecUnit a := by
  unfold rVecUnit vecUnit vecUnit_e0 vecOf
  simp only [rDivIv_eq, rRootIv_eq, rVecLen2_eq]
def turn1 (a : V) : V := ⟨ivNeg a.y, a.x, a.z⟩
def turn2 (a : V) : V := ⟨ivNeg a.x, ivNeg a.y, a.z⟩
def turn3 (a : V) : V := ⟨ivNeg (ivNeg a.y), ivNeg a.x, a.z⟩
theorem vecTurn_spec (a : V) (k : Int) : (k % 4 = 0 ∧ vecTurn a k = a) ∨ (k % 4 = 1 ∧ vecTurn a k = turn1 a) ∨ (k % 4 = 2 ∧ vecTurn a k = turn2 a) ∨ (k % 4 = 3 ∧ vecTurn a k = turn3 a) := by
  unfold vecTurn turn1 turn2 turn3
  rw [turn_mod]
  have h : k % 4 = 0 ∨ k % 4 = 1 ∨ k % 4 = 2 ∨ k % 4 = 3 := by omega
  rcases h with h | h | h | h <;> rw [h] <;> simp
theorem t0 {k : Int} (h : k % 4 = 0) (a : V) : vecTurn a k = a := by
  rcases vecTurn_spec a k with ⟨h', e⟩ | ⟨h', e⟩ | ⟨h', e⟩ | ⟨h', e⟩ <;> first | exact e | (exfalso; omega)
theorem t1 {k : Int} (h : k % 4 = 1) (a : V) : vecTurn a k = turn1 a := by
  rcases vecTurn_spec a k with ⟨h', e⟩ | ⟨h', e⟩ | ⟨h', e⟩ | ⟨h', e⟩ <;> first | exact e | (exfalso; omega)
theorem t2 {k : Int} (h : k % 4 = 2) (a : V) : vecTurn a k = turn1 (turn1 a) := by
  rcases vecTurn_spec a k with ⟨h', e⟩ | ⟨h', e⟩ | ⟨h', e⟩ | ⟨h', e⟩ <;> first | exact e | (exfalso; omega)
theorem t3 {k : Int} (h : k % 4 = 3) (a : V) : vecTurn a k = turn1 (turn1 (turn1 a)) := by
  rcases vecTurn_spec a k with ⟨h', e⟩ | ⟨h', e⟩ | ⟨h', e⟩ | ⟨h', e⟩ <;> first | exact e | (exfalso; omega)
end Go.Proofs.Ythngkopcadlciaa
namespace Go.Proofs.Ythngkopcadlciaa
open Go.RowKit
attribute [local irreducible] AC AR DWalk
structure Dec where
 c : Int
 scale : Int
deriving DecidableEq
@[reducible] def Dec.v (s : Dec) : Value := .agg #[.int .i64 s.c, .int .i64 s.scale]
end Go.Proofs.Ythngkopcadlciaa
namespace Go.Proofs.Ythngkopcadlciaa
open Go.RowKit
attribute [local irreducible] AC AR DWalk
end Go.Proofs.Ythngkopcadlciaa
namespace Go.Proofs.Ythngkopcadlciaa
end Go.Proofs.Ythngkopcadlciaa
namespace Go.Proofs.Ythngkopcadlciaa
open Go.RowKit
attribute [local irreducible] AC AR DWalk
end Go.Proofs.Ythngkopcadlciaa
namespace Go.Proofs.Ythngkopcadlciaa
open Go.RowKit
attribute [local irreducible] AC AR DWalk
structure D3 where
 d0 : Dec
 d1 : Dec
 d2 : Dec
structure Glass where
 name : ByteArray
 b : D3
 c : D3
def Glass.cells (s : Glass) : List Value := [.string s.name, .int .i64 s.b.d0.c, .int .i64 s.b.d0.scale, .int .i64 s.b.d1.c, .int .i64 s.b.d1.scale, .int .i64 s.b.d2.c, .int .i64 s.b.d2.scale, .int .i64 s.c.d0.c, .int .i64 s.c.d0.scale, .int .i64 s.c.d1.c, .int .i64 s.c.d1.scale, .int .i64 s.c.d2.c, .int .i64 s.c.d2.scale]
structure Face where
 stop : Bool
 radius : Dec
 aperture : Dec
 thick : Dec
 conic : Dec
 a4 : Dec
 a6 : Dec
 glass : ByteArray
def Face.cells (s : Face) : List Value := [.bool s.stop, .int .i64 s.radius.c, .int .i64 s.radius.scale, .int .i64 s.aperture.c, .int .i64 s.aperture.scale, .int .i64 s.thick.c, .int .i64 s.thick.scale, .int .i64 s.conic.c, .int .i64 s.conic.scale, .int .i64 s.a4.c, .int .i64 s.a4.scale, .int .i64 s.a6.c, .int .i64 s.a6.scale, .string s.glass]
structure RawFace where
 kind : Int
 r : Int
 a : Int
 t : Int
 g : Int
 k : Int
def RawFace.cells (s : RawFace) : List Value := [.int .i64 s.kind, .int .i64 s.r, .int .i64 s.a, .int .i64 s.t, .int .i64 s.g, .int .i64 s.k]
def surfC (s : Surf) : List Value := [.bool s.stop, .bool s.bent, .int .i64 s.curve.lo, .int .i64 s.curve.hi, .bool s.curve.no, .int .i64 s.conic.lo, .int .i64 s.conic.hi, .bool s.conic.no, .int .i64 s.a4.lo, .int .i64 s.a4.hi, .bool s.a4.no, .int .i64 s.a6.lo, .int .i64 s.a6.hi, .bool s.a6.no, .int .i64 s.at_.lo, .int .i64 s.at_.hi, .bool s.at_.no, .int .i64 s.open2.lo, .int .i64 s.open2.hi, .bool s.open2.no, .int .i64 s.ratio.lo, .int .i64 s.ratio.hi, .bool s.ratio.no]
theorem dec_eq (a b : Dec) : decide (a = b) = ((a.c == b.c) && (a.scale == b.scale)) := by
 obtain ⟨x, y⟩ := a
 obtain ⟨u, v⟩ := b
 rw [Bool.eq_iff_iff]
 simp [Dec.mk.injEq]
theorem stood_dec : Try.prog.stoodInHeld 83 = false := by kernel_rfl
theorem eqr_dec (a b : Dec) (d : Nat) (w : World) : (Op.equalIn (d + 2) 83 a.v b.v).run Try.prog w = .ok (decide (a = b)) w := by
 rw [dec_eq]
 refine eqf_s (xs := [.int .i64 a.c, .int .i64 a.scale]) (ys := [.int .i64 b.c, .int .i64 b.scale]) Try.underlying83 stood_dec ?_
 refine eqf_c (by decide) (part_c cell_int rfl) (part_c cell_int rfl) (run_equalIn_int _ _ _ _ _ _ _ Try.underlying3) ?_
 have := eqf_c (p := Try.prog) (d := d + 1) (xs := [.int .i64 a.c, .int .i64 a.scale]) (ys := [.int .i64 b.c, .int .i64 b.scale]) (w := w) (f := { name := "Scale", type := 3, offset := 1, embedded := false, tag := "", pkgPath := "", byteOffset := 8 }) (fs := []) (by decide) (part_c cell_int rfl) (part_c cell_int rfl) (run_equalIn_int _ _ _ _ _ _ _ Try.underlying3) eqf_n
 rw [Bool.and_true] at this
 exact this
theorem guard_dec : Try.prog.eqGuardType Try.prog.depth 83 = false := by kernel_rfl
theorem beql_83 (a b : Dec) {d : Bool} (h : decide (a = b) = d) (x y : Operand) : Runs Try.prog (do eqGuard .eql 83 x y a.v b.v; binOp .eql 83 a.v b.v) (.bool d) := bs_eql guard_dec (fun w => eqr_dec a b 9998 w) h x y
end Go.Proofs.Ythngkopcadlciaa
namespace Go.Proofs.Ythngkopcadlciaa
open Go.RowKit
def sEq (a b : ByteArray) : Bool := a.toList == b.toList
def byteS (n : Int) : ByteArray := ⟨#[UInt8.ofNat n.toNat]⟩
theorem byteS_size (n : Int) : (byteS n).size ≤ 1 := Nat.le_refl _
theorem sz_add {a b : ByteArray} {m n : Nat} (h : a.size ≤ m) (k : b.size ≤ n) : (a ++ b).size ≤ m + n := by
  rw [ByteArray.size_append']; omega
theorem sz_ext {a : ByteArray} {m : Nat} (l h : Nat) (k : a.size ≤ m) : (a.extract l h).size ≤ m := by
  rw [ByteArray.size_extract]; omega
theorem sz_two {a b : ByteArray} {m n : Nat} (h : a.size ≤ m) (k : b.size ≤ n) (hm : m + n ≤ 9223372036854775807) : a.size + b.size ≤ 9223372036854775807 := by omega
section
variable {p : Program} {n : Nat} {ops : Array Oper} {Q : Exit → Env → List Box → Prop} {l : List Oper} {E : Env} {H : List Box} {o : Oper} {ρ : Operand → Value} {K : Post}
theorem st_slen {t : TypeId} {args : List Operand} {s : ByteArray} (ho : o.op = .call { callee := .builtin .len, args := args.toArray, argTypes := #[t] }) (hu : p.underlying t = some .string) (hv : args.map ρ = [.string s]) (k : K (.int .i64 (s.size : Int)) H) : Step p ρ o H K := by
  refine st_val (fun w => ?_) k
  rw [execOp, ho]
  simp only [resolve, List.map_toArray, hv]
  simp [invoke, builtin, Builtin.len_, Sem.run_bind, run_underlying hu w, goInt]
theorem bi_sadd {t : Nat} {a b : ByteArray} (h : a.size + b.size ≤ 9223372036854775807) (x y : Operand) : Runs p (do eqGuard .add t x y (.string a) (.string b); binOp .add t (.string a) (.string b)) (.string (a ++ b)) := ⟨fun w => by
  have := run_string_add_sum (P := p) (w := w) a b h
  simpa [eqGuard, binOp] using this⟩
theorem bi_seql {t : Nat} {a b : ByteArray} {d : Bool} (h : sEq a b = d) (x y : Operand) : Runs p (do eqGuard .eql t x y (.string a) (.string b); binOp .eql t (.string a) (.string b)) (.bool d) := ⟨fun w => by
  subst h
  simp [eqGuard, binOp, Op.stringOp, sEq]⟩
theorem bi_sneq {t : Nat} {a b : ByteArray} {d : Bool} (h : (!sEq a b) = d) (x y : Operand) : Runs p (do eqGuard .neq t x y (.string a) (.string b); binOp .neq t (.string a) (.string b)) (.bool d) := ⟨fun w => by
  subst h
  simp [eqGuard, binOp, Op.stringOp, sEq]⟩
def sAt (s : ByteArray) (i : Nat) : Int := (((s[i]?).getD 0).toNat : Int)
theorem st_six {t : TypeId} {x y : Operand} {s : ByteArray} {i : Nat} (ho : o.op = .index t x y) (hu : p.underlying t = some .string) (hx : ρ x = .string s) (hy : ρ y = .int .i64 i) (hi : i < s.size) (k : K (.int .u8 (sAt s i)) H) : Step p ρ o H K := by
  refine st_run (s := Instr.index t (.string s) (.int .i64 i)) (by rw [execOp, ho]; simp only [hx, hy]) ⟨fun w => ?_⟩ k
  have h0 : (0 : Int) ≤ i := by omega
  have hb := ByteArray.getElem?_lt' s i hi
  simp [Instr.index, asIntOf, Sem.run_bind, run_underlying hu w, h0, hb, sAt]
theorem st_sslo {t : TypeId} {x y : Operand} {s : ByteArray} {i : Nat} (ho : o.op = .slice t x (some y) none none) (hu : p.underlying t = some .string) (hx : ρ x = .string s) (hy : ρ y = .int .i64 i) (hi : i ≤ s.size) (k : K (.string (s.extract i s.size)) H) : Step p ρ o H K := by
  refine st_run (s := Instr.sliceAt t (.string s) (some (.int .i64 i)) none none) (by rw [execOp, ho]; simp only [hx, hy, Option.map_none, Option.map_some]) ⟨fun w => ?_⟩ k
  have h0 : (0 : Int) ≤ i := by omega
  have hh : (i : Int) ≤ s.size := by omega
  simp [Instr.sliceAt, Instr.slice, Instr.sliceBounds, Sem.run_bind, run_underlying hu w, run_sliceBound, h0, hh, hi]
theorem st_cvs {t u e : Nat} {x : Operand} {g : Nat} {b : Box} {n : Int} (i : Nat) (ho : o.op = .convert t u x) (ht : p.underlying t = some (.slice e)) (he : p.underlying e = some (.int .u8)) (hu : p.underlying u = some .string) (hx : ρ x = .slice (some ⟨g, 0, none⟩) 1 1) (hm : H[i]? = some b) (hg : b.g = g) (hc : b.cs = [.int .u8 n])
    (k : K (.string (byteS n)) H) : Step p ρ o H K := by
  intro F β w hO hB
  obtain ⟨fr, _, hb⟩ := (hO.at_ b (List.mem_append_left _ (List.mem_of_getElem? hm))).2
  subst hg
  have hl := run_loadCells_list (P := p) (w := w) ⟨b.g, 0, none⟩ [.int .u8 n] fun j v hj => by
    rw [add_at, Nat.zero_add, cell_of_row w b.g j _ _ _ hb, hc]
    simpa using hj
  have h1 := run_bytesToString (P := p) (w := w) ⟨b.g, 0, none⟩ 1 1 [n] hl
  have e1 : (execOp ρ o).run p w = .ok (.value (.string (byteS n))) w := by
    rw [execOp, ho]
    simp only [hx]
    simp only [Sem.run_bind]
    rw [run_convert_bytes_string w t u e _ _ _ ht he hu, h1]
    rfl
  rw [e1]
  exact ⟨H, k, hO, hB⟩
end
section
variable {p : Program} {t : Nat} {a b : Int} {d : Bool} {k : IntKind}
theorem bk_leq (h : decide (a ≤ b) = d) (x y : Operand) : Runs p (do eqGuard .leq t x y (.int k a) (.int k b); binOp .leq t (.int k a) (.int k b)) (.bool d) := ⟨fun w => by rw [← h]; cases k <;> rfl⟩
theorem bk_geq (h : decide (a ≥ b) = d) (x y : Operand) : Runs p (do eqGuard .geq t x y (.int k a) (.int k b); binOp .geq t (.int k a) (.int k b)) (.bool d) := ⟨fun w => by rw [← h]; cases k <;> rfl⟩
theorem bk_eql (h : (a == b) = d) (x y : Operand) : Runs p (do eqGuard .eql t x y (.int k a) (.int k b); binOp .eql t (.int k a) (.int k b)) (.bool d) := ⟨fun w => by rw [← h]; cases k <;> rfl⟩
end
end Go.Proofs.Ythngkopcadlciaa
namespace Go.Proofs.Ythngkopcadlciaa
open Go.RowKit
attribute [local irreducible] AC AR DWalk
def rFind (x0 : Glass) (x1 : Glass) (name : ByteArray) : Glass × Bool := (bif sEq x0.name name then (x0, true) else (bif sEq x1.name name then (x1, true) else ((⟨(⟨#[]⟩ : ByteArray), (⟨(⟨0, 0⟩ : Dec), (⟨0, 0⟩ : Dec), (⟨0, 0⟩ : Dec)⟩ : D3), (⟨(⟨0, 0⟩ : Dec), (⟨0, 0⟩ : Dec), (⟨0, 0⟩ : Dec)⟩ : D3)⟩ : Glass), false)))
set_option maxRecDepth 100000 in
set_option maxHeartbeats 4000000 in
theorem c_rFind (x0 : Glass) (x1 : Glass) (name : ByteArray) (g cap : Nat) (rest : List Value) : Gives Try.prog 108 #[.slice (some ⟨g, 0, none⟩) 2 cap, .string name] [⟨g, [.string x0.name, .int .i64 x0.b.d0.c, .int .i64 x0.b.d0.scale, .int .i64 x0.b.d1.c, .int .i64 x0.b.d1.scale, .int .i64 x0.b.d2.c, .int .i64 x0.b.d2.scale, .int .i64 x0.c.d0.c, .int .i64 x0.c.d0.scale, .int .i64 x0.c.d1.c, .int .i64 x0.c.d1.scale, .int .i64 x0.c.d2.c, .int .i64 x0.c.d2.scale, .string x1.name, .int .i64 x1.b.d0.c, .int .i64 x1.b.d0.scale, .int .i64 x1.b.d1.c, .int .i64 x1.b.d1.scale, .int .i64 x1.b.d2.c, .int .i64 x1.b.d2.scale, .int .i64 x1.c.d0.c, .int .i64 x1.c.d0.scale, .int .i64 x1.c.d1.c, .int .i64 x1.c.d1.scale, .int .i64 x1.c.d2.c, .int .i64 x1.c.d2.scale] ++ rest, 122, true⟩] (fun u N => u = ((fun (r : Glass × Bool) => (.tuple #[.agg #[.string r.1.name, .int .i64 r.1.b.d0.c, .int .i64 r.1.b.d0.scale, .int .i64 r.1.b.d1.c, .int .i64 r.1.b.d1.scale, .int .i64 r.1.b.d2.c, .int .i64 r.1.b.d2.scale, .int .i64 r.1.c.d0.c, .int .i64 r.1.c.d0.scale, .int .i64 r.1.c.d1.c, .int .i64 r.1.c.d1.scale, .int .i64 r.1.c.d2.c, .int .i64 r.1.c.d2.scale], .bool r.2] : Value)) (rFind x0 x1 name)) ∧ N = []) := by
 refine gives_fin Try.func108 rfl rfl rfl rfl (AC.mono ?_ (fun e E H h => fing_v h rfl))
 refine aQ (aL (ao 4 rfl rfl (st_new zero122 rfl fun g0 => (aA 5 (.bool false) rfl rfl (aN (aQ (aQ (aL (aA 6 (.int .i64 0) rfl rfl (aN (ac_block ?_)))))))))))
 refine ac_rounds 61 (ar_round (aQ (aQ (aL (aM 7 (.int .i64 0) rfl rfl (aM 8 (.slice (some ⟨g, 0, none⟩) 2 cap) rfl rfl (ao 9 rfl rfl (st_ln (a := some ⟨g, 0, none⟩) (m := 2) (c := cap) rfl Try.underlying104 rfl (aB 10 (.bool true) rfl rfl rfl (bi_lss (by decide)) (aN (ac_then rfl (ac_skip (aQ (ac_block (aQ (aL (aM 13 (.slice (some ⟨g, 0, none⟩) 2 cap) rfl rfl (aM 14 (.int .i64 0) rfl rfl (ao 15 rfl rfl (st_sa (g := g) (off := 0) (m := 2) (c := cap) (s := 13) (i := 0) rfl Try.underlying104 (by kernel_rfl) rfl rfl (by decide) (aF 16 fa122_0 rfl rfl (aD 17 (.string x0.name) cell9 1 rfl rfl rfl rfl (aM 18 (.string name) rfl rfl ?_)))))))))))))))))))))))
 refine aB 19 (.bool (sEq x0.name name)) rfl rfl rfl (bi_seql rfl) (aN ?_)
 refine bool_split (sEq x0.name name) (fun h1 => ?_) (fun h1 => ?_)
 ·refine ac_then' (b := sEq x0.name name) h1 rfl (aQ (aL (aM 20 (.slice (some ⟨g, 0, none⟩) 2 cap) rfl rfl (aM 21 (.int .i64 0) rfl rfl (ao 22 rfl rfl (st_sa (g := g) (off := 0) (m := 2) (c := cap) (s := 13) (i := 0) rfl Try.underlying104 (by kernel_rfl) rfl rfl (by decide) (aG 23 [.string x0.name, .int .i64 x0.b.d0.c, .int .i64 x0.b.d0.scale, .int .i64 x0.b.d1.c, .int .i64 x0.b.d1.scale, .int .i64 x0.b.d2.c, .int .i64 x0.b.d2.scale, .int .i64 x0.c.d0.c, .int .i64 x0.c.d0.scale, .int .i64 x0.c.d1.c, .int .i64 x0.c.d1.scale, .int .i64 x0.c.d2.c, .int .i64 x0.c.d2.scale] agg122 1 rfl rfl rfl rfl rfl ?_)))))))
  refine aS [.string x0.name, .int .i64 x0.b.d0.c, .int .i64 x0.b.d0.scale, .int .i64 x0.b.d1.c, .int .i64 x0.b.d1.scale, .int .i64 x0.b.d2.c, .int .i64 x0.b.d2.scale, .int .i64 x0.c.d0.c, .int .i64 x0.c.d0.scale, .int .i64 x0.c.d1.c, .int .i64 x0.c.d1.scale, .int .i64 x0.c.d2.c, .int .i64 x0.c.d2.scale] agg122 0 rfl rfl rfl rfl rfl rfl (aA 5 (.bool true) rfl rfl (aN (ac_ret ?_)))
  exact fin_eq (v := .tuple #[.agg #[.string x0.name, .int .i64 x0.b.d0.c, .int .i64 x0.b.d0.scale, .int .i64 x0.b.d1.c, .int .i64 x0.b.d1.scale, .int .i64 x0.b.d2.c, .int .i64 x0.b.d2.scale, .int .i64 x0.c.d0.c, .int .i64 x0.c.d0.scale, .int .i64 x0.c.d1.c, .int .i64 x0.c.d1.scale, .int .i64 x0.c.d2.c, .int .i64 x0.c.d2.scale], .bool true]) (by show _ = (fun (r : Glass × Bool) => (.tuple #[.agg #[.string r.1.name, .int .i64 r.1.b.d0.c, .int .i64 r.1.b.d0.scale, .int .i64 r.1.b.d1.c, .int .i64 r.1.b.d1.scale, .int .i64 r.1.b.d2.c, .int .i64 r.1.b.d2.scale, .int .i64 r.1.c.d0.c, .int .i64 r.1.c.d0.scale, .int .i64 r.1.c.d1.c, .int .i64 r.1.c.d1.scale, .int .i64 r.1.c.d2.c, .int .i64 r.1.c.d2.scale], .bool r.2] : Value)) (rFind x0 x1 name); rw [rFind, h1] <;> rfl) (fin_ret (res_ct (vs := [.string x0.name, .int .i64 x0.b.d0.c, .int .i64 x0.b.d0.scale, .int .i64 x0.b.d1.c, .int .i64 x0.b.d1.scale, .int .i64 x0.b.d2.c, .int .i64 x0.b.d2.scale, .int .i64 x0.c.d0.c, .int .i64 x0.c.d0.scale, .int .i64 x0.c.d1.c, .int .i64 x0.c.d1.scale, .int .i64 x0.c.d2.c, .int .i64 x0.c.d2.scale]) agg122 0 rfl rfl rfl rfl rfl rfl rfl))
 ·refine ac_else' (b := sEq x0.name name) h1 rfl (ac_skip (aL (aM 11 (.int .i64 0) rfl rfl (aB 12 (.int .i64 1) rfl rfl rfl (bi_add (by decide)) (aA 6 (.int .i64 1) rfl rfl (aN (ar_round (aQ (aQ (aL (aM 7 (.int .i64 1) rfl rfl (aM 8 (.slice (some ⟨g, 0, none⟩) 2 cap) rfl rfl (ao 9 rfl rfl (st_ln (a := some ⟨g, 0, none⟩) (m := 2) (c := cap) rfl Try.underlying104 rfl (aB 10 (.bool true) rfl rfl rfl (bi_lss (by decide)) (aN (ac_then rfl (ac_skip (aQ (ac_block (aQ (aL (aM 13 (.slice (some ⟨g, 0, none⟩) 2 cap) rfl rfl (aM 14 (.int .i64 1) rfl rfl ?_))))))))))))))))))))))))
  refine ao 15 rfl rfl (st_sa (g := g) (off := 0) (m := 2) (c := cap) (s := 13) (i := 1) rfl Try.underlying104 (by kernel_rfl) rfl rfl (by decide) (aF 16 fa122_0 rfl rfl (aD 17 (.string x1.name) cell9 1 rfl rfl rfl rfl (aM 18 (.string name) rfl rfl (aB 19 (.bool (sEq x1.name name)) rfl rfl rfl (bi_seql rfl) (aN ?_))))))
  refine bool_split (sEq x1.name name) (fun h2 => ?_) (fun h2 => ?_)
  ·refine ac_then' (b := sEq x1.name name) h2 rfl (aQ (aL (aM 20 (.slice (some ⟨g, 0, none⟩) 2 cap) rfl rfl (aM 21 (.int .i64 1) rfl rfl (ao 22 rfl rfl (st_sa (g := g) (off := 0) (m := 2) (c := cap) (s := 13) (i := 1) rfl Try.underlying104 (by kernel_rfl) rfl rfl (by decide) (aG 23 [.string x1.name, .int .i64 x1.b.d0.c, .int .i64 x1.b.d0.scale, .int .i64 x1.b.d1.c, .int .i64 x1.b.d1.scale, .int .i64 x1.b.d2.c, .int .i64 x1.b.d2.scale, .int .i64 x1.c.d0.c, .int .i64 x1.c.d0.scale, .int .i64 x1.c.d1.c, .int .i64 x1.c.d1.scale, .int .i64 x1.c.d2.c, .int .i64 x1.c.d2.scale] agg122 1 rfl rfl rfl rfl rfl ?_)))))))
   refine aS [.string x1.name, .int .i64 x1.b.d0.c, .int .i64 x1.b.d0.scale, .int .i64 x1.b.d1.c, .int .i64 x1.b.d1.scale, .int .i64 x1.b.d2.c, .int .i64 x1.b.d2.scale, .int .i64 x1.c.d0.c, .int .i64 x1.c.d0.scale, .int .i64 x1.c.d1.c, .int .i64 x1.c.d1.scale, .int .i64 x1.c.d2.c, .int .i64 x1.c.d2.scale] agg122 0 rfl rfl rfl rfl rfl rfl (aA 5 (.bool true) rfl rfl (aN (ac_ret ?_)))
   exact fin_eq (v := .tuple #[.agg #[.string x1.name, .int .i64 x1.b.d0.c, .int .i64 x1.b.d0.scale, .int .i64 x1.b.d1.c, .int .i64 x1.b.d1.scale, .int .i64 x1.b.d2.c, .int .i64 x1.b.d2.scale, .int .i64 x1.c.d0.c, .int .i64 x1.c.d0.scale, .int .i64 x1.c.d1.c, .int .i64 x1.c.d1.scale, .int .i64 x1.c.d2.c, .int .i64 x1.c.d2.scale], .bool true]) (by show _ = (fun (r : Glass × Bool) => (.tuple #[.agg #[.string r.1.name, .int .i64 r.1.b.d0.c, .int .i64 r.1.b.d0.scale, .int .i64 r.1.b.d1.c, .int .i64 r.1.b.d1.scale, .int .i64 r.1.b.d2.c, .int .i64 r.1.b.d2.scale, .int .i64 r.1.c.d0.c, .int .i64 r.1.c.d0.scale, .int .i64 r.1.c.d1.c, .int .i64 r.1.c.d1.scale, .int .i64 r.1.c.d2.c, .int .i64 r.1.c.d2.scale], .bool r.2] : Value)) (rFind x0 x1 name); rw [rFind, h2, h1] <;> rfl) (fin_ret (res_ct (vs := [.string x1.name, .int .i64 x1.b.d0.c, .int .i64 x1.b.d0.scale, .int .i64 x1.b.d1.c, .int .i64 x1.b.d1.scale, .int .i64 x1.b.d2.c, .int .i64 x1.b.d2.scale, .int .i64 x1.c.d0.c, .int .i64 x1.c.d0.scale, .int .i64 x1.c.d1.c, .int .i64 x1.c.d1.scale, .int .i64 x1.c.d2.c, .int .i64 x1.c.d2.scale]) agg122 0 rfl rfl rfl rfl rfl rfl rfl))
  ·refine ac_else' (b := sEq x1.name name) h2 rfl (ac_skip (aL (aM 11 (.int .i64 1) rfl rfl (aB 12 (.int .i64 2) rfl rfl rfl (bi_add (by decide)) (aA 6 (.int .i64 2) rfl rfl (aN (ar_round (aQ (aQ (aL (aM 7 (.int .i64 2) rfl rfl (aM 8 (.slice (some ⟨g, 0, none⟩) 2 cap) rfl rfl (ao 9 rfl rfl (st_ln (a := some ⟨g, 0, none⟩) (m := 2) (c := cap) rfl Try.underlying104 rfl (aB 10 (.bool false) rfl rfl rfl (bi_lss (by decide)) (aN (ac_else rfl (ac_exit (aQ (aL ?_))))))))))))))))))))
   refine ao 24 rfl rfl (st_bd (us := []) (v := .agg #[.string (⟨#[]⟩ : ByteArray), .int .i64 0, .int .i64 0, .int .i64 0, .int .i64 0, .int .i64 0, .int .i64 0, .int .i64 0, .int .i64 0, .int .i64 0, .int .i64 0, .int .i64 0, .int .i64 0]) rfl rfl (bd122_ ) (aS [.string (⟨#[]⟩ : ByteArray), .int .i64 0, .int .i64 0, .int .i64 0, .int .i64 0, .int .i64 0, .int .i64 0, .int .i64 0, .int .i64 0, .int .i64 0, .int .i64 0, .int .i64 0, .int .i64 0] agg122 0 rfl rfl rfl rfl rfl rfl (aA 5 (.bool false) rfl rfl (aN (ac_ret ?_)))))
   exact fin_eq (v := .tuple #[.agg #[.string (⟨#[]⟩ : ByteArray), .int .i64 0, .int .i64 0, .int .i64 0, .int .i64 0, .int .i64 0, .int .i64 0, .int .i64 0, .int .i64 0, .int .i64 0, .int .i64 0, .int .i64 0, .int .i64 0], .bool false]) (by show _ = (fun (r : Glass × Bool) => (.tuple #[.agg #[.string r.1.name, .int .i64 r.1.b.d0.c, .int .i64 r.1.b.d0.scale, .int .i64 r.1.b.d1.c, .int .i64 r.1.b.d1.scale, .int .i64 r.1.b.d2.c, .int .i64 r.1.b.d2.scale, .int .i64 r.1.c.d0.c, .int .i64 r.1.c.d0.scale, .int .i64 r.1.c.d1.c, .int .i64 r.1.c.d1.scale, .int .i64 r.1.c.d2.c, .int .i64 r.1.c.d2.scale], .bool r.2] : Value)) (rFind x0 x1 name); rw [rFind, h2, h1] <;> rfl) (fin_ret (res_ct (vs := [.string (⟨#[]⟩ : ByteArray), .int .i64 0, .int .i64 0, .int .i64 0, .int .i64 0, .int .i64 0, .int .i64 0, .int .i64 0, .int .i64 0, .int .i64 0, .int .i64 0, .int .i64 0, .int .i64 0]) agg122 0 rfl rfl rfl rfl rfl rfl rfl))
theorem c_rFindG (x0 x1 : Glass) (name : ByteArray) (g cap : Nat) (rg rest : List Value) (h : rg = x0.cells ++ x1.cells ++ rest) : Gives Try.prog 108 #[.slice (some ⟨g, 0, none⟩) 2 cap, .string name] [⟨g, rg, 122, true⟩] (fun u N => u = .tuple #[.agg #[.string (((rFind x0 x1 name).1).name), .int .i64 (((((rFind x0 x1 name).1).b).d0).c), .int .i64 (((((rFind x0 x1 name).1).b).d0).scale), .int .i64 (((((rFind x0 x1 name).1).b).d1).c), .int .i64 (((((rFind x0 x1 name).1).b).d1).scale), .int .i64 (((((rFind x0 x1 name).1).b).d2).c), .int .i64 (((((rFind x0 x1 name).1).b).d2).scale), .int .i64 (((((rFind x0 x1 name).1).c).d0).c), .int .i64 (((((rFind x0 x1 name).1).c).d0).scale), .int .i64 (((((rFind x0 x1 name).1).c).d1).c), .int .i64 (((((rFind x0 x1 name).1).c).d1).scale), .int .i64 (((((rFind x0 x1 name).1).c).d2).c), .int .i64 (((((rFind x0 x1 name).1).c).d2).scale)], .bool ((rFind x0 x1 name).2)] ∧ N = []) := by
 subst h
 exact c_rFind x0 x1 name g cap rest
end Go.Proofs.Ythngkopcadlciaa
namespace Go.Proofs.Ythngkopcadlciaa
open Go.RowKit
attribute [local irreducible] AC AR DWalk
def rLetter (c : Int) : Bool := (bif decide (c ≥ 97) then (bif decide (c ≤ 122) then true else (bif decide (c ≥ 65) then decide (c ≤ 90) else false)) else (bif decide (c ≥ 65) then decide (c ≤ 90) else false))
set_option maxRecDepth 100000 in
theorem c_rLetter (c : Int) : Gets Try.prog 135 #[.int .u8 c] ((fun (r : Bool) => (.bool r : Value)) (rLetter c)) := by
 refine gets_fin Try.func135 rfl rfl rfl (aQ (aL (aA 2 (.bool false) rfl rfl (aN (aQ (aL (aM 3 (.int .u8 c) rfl rfl (aB 4 (.bool (decide (c ≥ 97))) rfl rfl rfl (bk_geq rfl) (aM 5 (.bool (decide (c ≥ 97))) rfl rfl ?_)))))))))
 refine bool_split (decide (c ≥ 97)) (fun h1 => ?_) (fun h1 => ?_)
 ·refine ar_gd (d := (some 6)) (by show ((decide (c ≥ 97)) == true) = true; rw [h1]; rfl) rfl (st_move (v := .int .u8 c) rfl rfl (ar_gd (d := (some 7)) (by show ((decide (c ≥ 97)) == true) = true; rw [h1]; rfl) rfl (st_bi (r := .bool (decide (c ≤ 122))) rfl rfl rfl (bk_leq rfl) (ao 8 rfl rfl (st_pkt' (b := decide (c ≥ 97)) (v := .bool (decide (c ≤ 122))) h1 rfl rfl rfl (aM 9 (.bool (decide (c ≤ 122))) rfl rfl ?_))))))
  refine bool_split (decide (c ≤ 122)) (fun h2 => ?_) (fun h2 => ?_)
  ·refine aK 10 (by show ((decide (c ≤ 122)) == false) = false; rw [h2]; rfl) rfl (aK 11 (by show ((decide (c ≤ 122)) == false) = false; rw [h2]; rfl) rfl (aK 12 (by show ((decide (c ≤ 122)) == false) = false; rw [h2]; rfl) rfl (aK 13 rfl rfl (aK 14 rfl rfl (aK 15 (by show ((decide (c ≤ 122)) == false) = false; rw [h2]; rfl) rfl (ao 16 rfl rfl (st_pkt' (b := decide (c ≤ 122)) (v := .bool true) h2 rfl rfl rfl (aA 2 (.bool true) rfl rfl (aN (ac_ret (fin_eq (v := .bool true) (by show _ = (fun (r : Bool) => (.bool r : Value)) (rLetter c); rw [rLetter, h2, h1] <;> rfl) (fin_ret (res_tmp rfl rfl)))))))))))))
  ·refine ar_gd (d := (some 10)) (by show ((decide (c ≤ 122)) == false) = true; rw [h2]; rfl) rfl (st_move (v := .int .u8 c) rfl rfl (ar_gd (d := (some 11)) (by show ((decide (c ≤ 122)) == false) = true; rw [h2]; rfl) rfl (st_bi (r := .bool (decide (c ≥ 65))) rfl rfl rfl (bk_geq rfl) (ar_gd (d := (some 12)) (by show ((decide (c ≤ 122)) == false) = true; rw [h2]; rfl) rfl (st_move (v := .bool (decide (c ≥ 65))) rfl rfl ?_)))))
   refine bool_split (decide (c ≥ 65)) (fun h3 => ?_) (fun h3 => ?_)
   ·refine ar_gd (d := (some 13)) (by show ((decide (c ≥ 65)) == true) = true; rw [h3]; rfl) rfl (st_move (v := .int .u8 c) rfl rfl (ar_gd (d := (some 14)) (by show ((decide (c ≥ 65)) == true) = true; rw [h3]; rfl) rfl (st_bi (r := .bool (decide (c ≤ 90))) rfl rfl rfl (bk_leq rfl) (ar_gd (d := (some 15)) (by show ((decide (c ≤ 122)) == false) = true; rw [h2]; rfl) rfl (st_pkt' (b := decide (c ≥ 65)) (v := .bool (decide (c ≤ 90))) h3 rfl rfl rfl (ao 16 rfl rfl (st_pkf' (b := decide (c ≤ 122)) (v := .bool (decide (c ≤ 90))) h2 rfl rfl rfl (aA 2 (.bool (decide (c ≤ 90))) rfl rfl (aN (ac_ret ?_))))))))))
    exact fin_eq (v := .bool (decide (c ≤ 90))) (by show _ = (fun (r : Bool) => (.bool r : Value)) (rLetter c); rw [rLetter, h3, h2, h1] <;> rfl) (fin_ret (res_tmp rfl rfl))
   ·refine aK 13 (by show ((decide (c ≥ 65)) == true) = false; rw [h3]; rfl) rfl (aK 14 (by show ((decide (c ≥ 65)) == true) = false; rw [h3]; rfl) rfl (ar_gd (d := (some 15)) (by show ((decide (c ≤ 122)) == false) = true; rw [h2]; rfl) rfl (st_pkf' (b := decide (c ≥ 65)) (v := .bool false) h3 rfl rfl rfl (ao 16 rfl rfl (st_pkf' (b := decide (c ≤ 122)) (v := .bool false) h2 rfl rfl rfl (aA 2 (.bool false) rfl rfl (aN (ac_ret (fin_eq (v := .bool false) (by show _ = (fun (r : Bool) => (.bool r : Value)) (rLetter c); rw [rLetter, h3, h2, h1] <;> rfl) (fin_ret (res_tmp rfl rfl)))))))))))
 ·refine aK 6 (by show ((decide (c ≥ 97)) == true) = false; rw [h1]; rfl) rfl (aK 7 (by show ((decide (c ≥ 97)) == true) = false; rw [h1]; rfl) rfl (ao 8 rfl rfl (st_pkf' (b := decide (c ≥ 97)) (v := .bool false) h1 rfl rfl rfl (aM 9 (.bool false) rfl rfl (ar_gd (d := (some 10)) rfl rfl (st_move (v := .int .u8 c) rfl rfl (ar_gd (d := (some 11)) rfl rfl (st_bi (r := .bool (decide (c ≥ 65))) rfl rfl rfl (bk_geq rfl) (ar_gd (d := (some 12)) rfl rfl (st_move (v := .bool (decide (c ≥ 65))) rfl rfl ?_))))))))))
  refine bool_split (decide (c ≥ 65)) (fun h2 => ?_) (fun h2 => ?_)
  ·refine ar_gd (d := (some 13)) (by show ((decide (c ≥ 65)) == true) = true; rw [h2]; rfl) rfl (st_move (v := .int .u8 c) rfl rfl (ar_gd (d := (some 14)) (by show ((decide (c ≥ 65)) == true) = true; rw [h2]; rfl) rfl (st_bi (r := .bool (decide (c ≤ 90))) rfl rfl rfl (bk_leq rfl) (ar_gd (d := (some 15)) rfl rfl (st_pkt' (b := decide (c ≥ 65)) (v := .bool (decide (c ≤ 90))) h2 rfl rfl rfl (ao 16 rfl rfl (st_pkf (v := .bool (decide (c ≤ 90))) rfl rfl rfl (aA 2 (.bool (decide (c ≤ 90))) rfl rfl (aN (ac_ret (fin_eq (v := .bool (decide (c ≤ 90))) (by show _ = (fun (r : Bool) => (.bool r : Value)) (rLetter c); rw [rLetter, h2, h1] <;> rfl) (fin_ret (res_tmp rfl rfl)))))))))))))
  ·refine aK 13 (by show ((decide (c ≥ 65)) == true) = false; rw [h2]; rfl) rfl (aK 14 (by show ((decide (c ≥ 65)) == true) = false; rw [h2]; rfl) rfl (ar_gd (d := (some 15)) rfl rfl (st_pkf' (b := decide (c ≥ 65)) (v := .bool false) h2 rfl rfl rfl (ao 16 rfl rfl (st_pkf (v := .bool false) rfl rfl rfl (aA 2 (.bool false) rfl rfl (aN (ac_ret (fin_eq (v := .bool false) (by show _ = (fun (r : Bool) => (.bool r : Value)) (rLetter c); rw [rLetter, h2, h1] <;> rfl) (fin_ret (res_tmp rfl rfl)))))))))))
def rDigit (c : Int) : Bool := (bif decide (c ≥ 48) then decide (c ≤ 57) else false)
set_option maxRecDepth 100000 in
theorem c_rDigit (c : Int) : Gets Try.prog 140 #[.int .u8 c] ((fun (r : Bool) => (.bool r : Value)) (rDigit c)) := by
 refine gets_fin Try.func140 rfl rfl rfl (aQ (aL (aA 2 (.bool false) rfl rfl (aN (aQ (aL (aM 3 (.int .u8 c) rfl rfl (aB 4 (.bool (decide (c ≥ 48))) rfl rfl rfl (bk_geq rfl) (aM 5 (.bool (decide (c ≥ 48))) rfl rfl ?_)))))))))
 refine bool_split (decide (c ≥ 48)) (fun h1 => ?_) (fun h1 => ?_)
 ·refine ar_gd (d := (some 6)) (by show ((decide (c ≥ 48)) == true) = true; rw [h1]; rfl) rfl (st_move (v := .int .u8 c) rfl rfl (ar_gd (d := (some 7)) (by show ((decide (c ≥ 48)) == true) = true; rw [h1]; rfl) rfl (st_bi (r := .bool (decide (c ≤ 57))) rfl rfl rfl (bk_leq rfl) (ao 8 rfl rfl (st_pkt' (b := decide (c ≥ 48)) (v := .bool (decide (c ≤ 57))) h1 rfl rfl rfl (aA 2 (.bool (decide (c ≤ 57))) rfl rfl (aN (ac_ret (fin_eq (v := .bool (decide (c ≤ 57))) (by show _ = (fun (r : Bool) => (.bool r : Value)) (rDigit c); rw [rDigit, h1] <;> rfl) (fin_ret (res_tmp rfl rfl)))))))))))
 ·refine aK 6 (by show ((decide (c ≥ 48)) == true) = false; rw [h1]; rfl) rfl (aK 7 (by show ((decide (c ≥ 48)) == true) = false; rw [h1]; rfl) rfl (ao 8 rfl rfl (st_pkf' (b := decide (c ≥ 48)) (v := .bool false) h1 rfl rfl rfl (aA 2 (.bool false) rfl rfl (aN (ac_ret (fin_eq (v := .bool false) (by show _ = (fun (r : Bool) => (.bool r : Value)) (rDigit c); rw [rDigit, h1] <;> rfl) (fin_ret (res_tmp rfl rfl)))))))))
def rInWord (c : Int) : Bool := (bif rLetter c then true else (bif rDigit c then true else (bif c == 45 then true else c == 95)))
set_option maxRecDepth 100000 in
theorem c_rInWord (c : Int) : Gets Try.prog 136 #[.int .u8 c] ((fun (r : Bool) => (.bool r : Value)) (rInWord c)) := by
 refine gets_fin Try.func136 rfl rfl rfl (aQ (aL (aA 2 (.bool false) rfl rfl (aN (aQ (aL (aM 3 (.int .u8 c) rfl rfl (aC 4 (c_rLetter c) Try.func135 ⟨rfl, by decide⟩ rfl rfl (aM 5 (.bool (rLetter c)) rfl rfl ?_)))))))))
 refine bool_split (rLetter c) (fun h1 => ?_) (fun h1 => ?_)
 ·refine aK 6 (by show ((rLetter c) == false) = false; rw [h1]; rfl) rfl (aK 7 (by show ((rLetter c) == false) = false; rw [h1]; rfl) rfl (ao 8 rfl rfl (st_pkt' (b := rLetter c) (v := .bool true) h1 rfl rfl rfl (aM 9 (.bool true) rfl rfl (aK 10 rfl rfl (aK 11 rfl rfl (ao 12 rfl rfl (st_pkt (v := .bool true) rfl rfl rfl (aM 13 (.bool true) rfl rfl (aK 14 rfl rfl (aK 15 rfl rfl (ao 16 rfl rfl (st_pkt (v := .bool true) rfl rfl rfl (aA 2 (.bool true) rfl rfl (aN (ac_ret (fin_eq (v := .bool true) (by show _ = (fun (r : Bool) => (.bool r : Value)) (rInWord c); rw [rInWord, h1] <;> rfl) (fin_ret (res_tmp rfl rfl)))))))))))))))))))
 ·refine ar_gd (d := (some 6)) (by show ((rLetter c) == false) = true; rw [h1]; rfl) rfl (st_move (v := .int .u8 c) rfl rfl (ar_gd (d := (some 7)) (by show ((rLetter c) == false) = true; rw [h1]; rfl) rfl (st_cf (c_rDigit c) Try.func140 rfl (by decide) rfl rfl rfl (ao 8 rfl rfl (st_pkf' (b := rLetter c) (v := .bool (rDigit c)) h1 rfl rfl rfl (aM 9 (.bool (rDigit c)) rfl rfl ?_))))))
  refine bool_split (rDigit c) (fun h2 => ?_) (fun h2 => ?_)
  ·refine aK 10 (by show ((rDigit c) == false) = false; rw [h2]; rfl) rfl (aK 11 (by show ((rDigit c) == false) = false; rw [h2]; rfl) rfl (ao 12 rfl rfl (st_pkt' (b := rDigit c) (v := .bool true) h2 rfl rfl rfl (aM 13 (.bool true) rfl rfl (aK 14 rfl rfl (aK 15 rfl rfl (ao 16 rfl rfl (st_pkt (v := .bool true) rfl rfl rfl (aA 2 (.bool true) rfl rfl (aN (ac_ret (fin_eq (v := .bool true) (by show _ = (fun (r : Bool) => (.bool r : Value)) (rInWord c); rw [rInWord, h2, h1] <;> rfl) (fin_ret (res_tmp rfl rfl))))))))))))))
  ·refine ar_gd (d := (some 10)) (by show ((rDigit c) == false) = true; rw [h2]; rfl) rfl (st_move (v := .int .u8 c) rfl rfl (ar_gd (d := (some 11)) (by show ((rDigit c) == false) = true; rw [h2]; rfl) rfl (st_bi (r := .bool (c == 45)) rfl rfl rfl (bk_eql rfl) (ao 12 rfl rfl (st_pkf' (b := rDigit c) (v := .bool (c == 45)) h2 rfl rfl rfl (aM 13 (.bool (c == 45)) rfl rfl ?_))))))
   refine bool_split (c == 45) (fun h3 => ?_) (fun h3 => ?_)
   ·refine aK 14 (by show ((c == 45) == false) = false; rw [h3]; rfl) rfl (aK 15 (by show ((c == 45) == false) = false; rw [h3]; rfl) rfl (ao 16 rfl rfl (st_pkt' (b := c == 45) (v := .bool true) h3 rfl rfl rfl (aA 2 (.bool true) rfl rfl (aN (ac_ret (fin_eq (v := .bool true) (by show _ = (fun (r : Bool) => (.bool r : Value)) (rInWord c); rw [rInWord, h3, h2, h1] <;> rfl) (fin_ret (res_tmp rfl rfl)))))))))
   ·refine ar_gd (d := (some 14)) (by show ((c == 45) == false) = true; rw [h3]; rfl) rfl (st_move (v := .int .u8 c) rfl rfl (ar_gd (d := (some 15)) (by show ((c == 45) == false) = true; rw [h3]; rfl) rfl (st_bi (r := .bool (c == 95)) rfl rfl rfl (bk_eql rfl) (ao 16 rfl rfl (st_pkf' (b := c == 45) (v := .bool (c == 95)) h3 rfl rfl rfl (aA 2 (.bool (c == 95)) rfl rfl (aN (ac_ret (fin_eq (v := .bool (c == 95)) (by show _ = (fun (r : Bool) => (.bool r : Value)) (rInWord c); rw [rInWord, h3, h2, h1] <;> rfl) (fin_ret (res_tmp rfl rfl)))))))))))
def rRightDec (d : Dec) : Bool := (bif decide (d.c ≥ (-100000000000)) then (bif decide (d.c ≤ 100000000000) then (bif decide (d.scale ≥ 0) then (bif decide (d.scale ≤ 6) then (bif d.scale == 0 then true else (Int.tmod d.c 10) != 0) else false) else false) else false) else false)
set_option maxRecDepth 100000 in
set_option maxHeartbeats 4000000 in
theorem c_rRightDec (d : Dec) : Gets Try.prog 127 #[.agg #[.int .i64 d.c, .int .i64 d.scale]] ((fun (r : Bool) => (.bool r : Value)) (rRightDec d)) := by
 refine gets_fin Try.func127 rfl rfl rfl (aQ (aL (ao 1 rfl rfl (st_box (v := .agg #[.int .i64 d.c, .int .i64 d.scale]) (cs := [.int .i64 d.c, .int .i64 d.scale]) rfl rfl rfl fun g0 => (aA 2 (.bool false) rfl rfl (aN (aQ (aL (aF 3 fa83_0 rfl rfl (aD 4 (.int .i64 d.c) cell3 0 rfl rfl rfl rfl (aB 5 (.bool (decide (d.c ≥ (-100000000000)))) rfl rfl rfl (bi_geq rfl) (aM 6 (.bool (decide (d.c ≥ (-100000000000)))) rfl rfl ?_))))))))))))
 refine bool_split (decide (d.c ≥ (-100000000000))) (fun h1 => ?_) (fun h1 => ?_)
 ·refine ar_gd (d := (some 7)) (by show ((decide (d.c ≥ (-100000000000))) == true) = true; rw [h1]; rfl) rfl (st_fa rfl fa83_0 rfl (ar_gd (d := (some 8)) (by show ((decide (d.c ≥ (-100000000000))) == true) = true; rw [h1]; rfl) rfl (st_ldc (v := .int .i64 d.c) cell3 0 rfl rfl rfl rfl rfl (ar_gd (d := (some 9)) (by show ((decide (d.c ≥ (-100000000000))) == true) = true; rw [h1]; rfl) rfl (st_bi (r := .bool (decide (d.c ≤ 100000000000))) rfl rfl rfl (bi_leq rfl) (ao 10 rfl rfl (st_pkt' (b := decide (d.c ≥ (-100000000000))) (v := .bool (decide (d.c ≤ 100000000000))) h1 rfl rfl rfl (aM 11 (.bool (decide (d.c ≤ 100000000000))) rfl rfl ?_))))))))
  refine bool_split (decide (d.c ≤ 100000000000)) (fun h2 => ?_) (fun h2 => ?_)
  ·refine ar_gd (d := (some 12)) (by show ((decide (d.c ≤ 100000000000)) == true) = true; rw [h2]; rfl) rfl (st_fa rfl fa83_1 rfl (ar_gd (d := (some 13)) (by show ((decide (d.c ≤ 100000000000)) == true) = true; rw [h2]; rfl) rfl (st_ldc (v := .int .i64 d.scale) cell3 0 rfl rfl rfl rfl rfl (ar_gd (d := (some 14)) (by show ((decide (d.c ≤ 100000000000)) == true) = true; rw [h2]; rfl) rfl (st_bi (r := .bool (decide (d.scale ≥ 0))) rfl rfl rfl (bi_geq rfl) (ao 15 rfl rfl (st_pkt' (b := decide (d.c ≤ 100000000000)) (v := .bool (decide (d.scale ≥ 0))) h2 rfl rfl rfl (aM 16 (.bool (decide (d.scale ≥ 0))) rfl rfl ?_))))))))
   refine bool_split (decide (d.scale ≥ 0)) (fun h3 => ?_) (fun h3 => ?_)
   ·refine ar_gd (d := (some 17)) (by show ((decide (d.scale ≥ 0)) == true) = true; rw [h3]; rfl) rfl (st_fa rfl fa83_1 rfl (ar_gd (d := (some 18)) (by show ((decide (d.scale ≥ 0)) == true) = true; rw [h3]; rfl) rfl (st_ldc (v := .int .i64 d.scale) cell3 0 rfl rfl rfl rfl rfl (ar_gd (d := (some 19)) (by show ((decide (d.scale ≥ 0)) == true) = true; rw [h3]; rfl) rfl (st_bi (r := .bool (decide (d.scale ≤ 6))) rfl rfl rfl (bi_leq rfl) (ao 20 rfl rfl (st_pkt' (b := decide (d.scale ≥ 0)) (v := .bool (decide (d.scale ≤ 6))) h3 rfl rfl rfl (aM 21 (.bool (decide (d.scale ≤ 6))) rfl rfl ?_))))))))
    refine bool_split (decide (d.scale ≤ 6)) (fun h4 => ?_) (fun h4 => ?_)
    ·refine ar_gd (d := (some 22)) (by show ((decide (d.scale ≤ 6)) == true) = true; rw [h4]; rfl) rfl (st_fa rfl fa83_1 rfl (ar_gd (d := (some 23)) (by show ((decide (d.scale ≤ 6)) == true) = true; rw [h4]; rfl) rfl (st_ldc (v := .int .i64 d.scale) cell3 0 rfl rfl rfl rfl rfl (ar_gd (d := (some 24)) (by show ((decide (d.scale ≤ 6)) == true) = true; rw [h4]; rfl) rfl (st_bi (r := .bool (d.scale == 0)) rfl rfl rfl (bi_eql rfl) (ar_gd (d := (some 25)) (by show ((decide (d.scale ≤ 6)) == true) = true; rw [h4]; rfl) rfl (st_move (v := .bool (d.scale == 0)) rfl rfl ?_)))))))
     refine bool_split (d.scale == 0) (fun h5 => ?_) (fun h5 => ?_)
     ·refine aK 26 (by show ((d.scale == 0) == false) = false; rw [h5]; rfl) rfl (aK 27 (by show ((d.scale == 0) == false) = false; rw [h5]; rfl) rfl (aK 28 (by show ((d.scale == 0) == false) = false; rw [h5]; rfl) rfl (aK 29 (by show ((d.scale == 0) == false) = false; rw [h5]; rfl) rfl (ar_gd (d := (some 30)) (by show ((decide (d.scale ≤ 6)) == true) = true; rw [h4]; rfl) rfl (st_pkt' (b := d.scale == 0) (v := .bool true) h5 rfl rfl rfl (ao 31 rfl rfl (st_pkt' (b := decide (d.scale ≤ 6)) (v := .bool true) h4 rfl rfl rfl (aA 2 (.bool true) rfl rfl (aN (ac_ret ?_))))))))))
      exact fin_eq (v := .bool true) (by show _ = (fun (r : Bool) => (.bool r : Value)) (rRightDec d); rw [rRightDec, h5, h4, h3, h2, h1] <;> rfl) (fin_ret (res_tmp rfl rfl))
     ·refine ar_gd (d := (some 26)) (by show ((d.scale == 0) == false) = true; rw [h5]; rfl) rfl (st_fa rfl fa83_0 rfl (ar_gd (d := (some 27)) (by show ((d.scale == 0) == false) = true; rw [h5]; rfl) rfl (st_ldc (v := .int .i64 d.c) cell3 0 rfl rfl rfl rfl rfl (ar_gd (d := (some 28)) (by show ((d.scale == 0) == false) = true; rw [h5]; rfl) rfl (st_bi (r := .int .i64 (Int.tmod d.c 10)) rfl rfl rfl (bi_rem (by decide) rfl) (ar_gd (d := (some 29)) (by show ((d.scale == 0) == false) = true; rw [h5]; rfl) rfl (st_bi (r := .bool ((Int.tmod d.c 10) != 0)) rfl rfl rfl (bi_neq rfl) ?_)))))))
      refine ar_gd (d := (some 30)) (by show ((decide (d.scale ≤ 6)) == true) = true; rw [h4]; rfl) rfl (st_pkf' (b := d.scale == 0) (v := .bool ((Int.tmod d.c 10) != 0)) h5 rfl rfl rfl (ao 31 rfl rfl (st_pkt' (b := decide (d.scale ≤ 6)) (v := .bool ((Int.tmod d.c 10) != 0)) h4 rfl rfl rfl (aA 2 (.bool ((Int.tmod d.c 10) != 0)) rfl rfl (aN (ac_ret (fin_eq (v := .bool ((Int.tmod d.c 10) != 0)) (by show _ = (fun (r : Bool) => (.bool r : Value)) (rRightDec d); rw [rRightDec, h5, h4, h3, h2, h1] <;> rfl) (fin_ret (res_tmp rfl rfl)))))))))
    ·refine aK 22 (by show ((decide (d.scale ≤ 6)) == true) = false; rw [h4]; rfl) rfl (aK 23 (by show ((decide (d.scale ≤ 6)) == true) = false; rw [h4]; rfl) rfl (aK 24 (by show ((decide (d.scale ≤ 6)) == true) = false; rw [h4]; rfl) rfl (aK 25 (by show ((decide (d.scale ≤ 6)) == true) = false; rw [h4]; rfl) rfl (aK 26 rfl rfl (aK 27 rfl rfl (aK 28 rfl rfl (aK 29 rfl rfl (aK 30 (by show ((decide (d.scale ≤ 6)) == true) = false; rw [h4]; rfl) rfl (ao 31 rfl rfl (st_pkf' (b := decide (d.scale ≤ 6)) (v := .bool false) h4 rfl rfl rfl (aA 2 (.bool false) rfl rfl (aN (ac_ret ?_)))))))))))))
     exact fin_eq (v := .bool false) (by show _ = (fun (r : Bool) => (.bool r : Value)) (rRightDec d); rw [rRightDec, h4, h3, h2, h1] <;> rfl) (fin_ret (res_tmp rfl rfl))
   ·refine aK 17 (by show ((decide (d.scale ≥ 0)) == true) = false; rw [h3]; rfl) rfl (aK 18 (by show ((decide (d.scale ≥ 0)) == true) = false; rw [h3]; rfl) rfl (aK 19 (by show ((decide (d.scale ≥ 0)) == true) = false; rw [h3]; rfl) rfl (ao 20 rfl rfl (st_pkf' (b := decide (d.scale ≥ 0)) (v := .bool false) h3 rfl rfl rfl (aM 21 (.bool false) rfl rfl (aK 22 rfl rfl (aK 23 rfl rfl (aK 24 rfl rfl (aK 25 rfl rfl (aK 26 rfl rfl (aK 27 rfl rfl (aK 28 rfl rfl (aK 29 rfl rfl (aK 30 rfl rfl (ao 31 rfl rfl (st_pkf (v := .bool false) rfl rfl rfl (aA 2 (.bool false) rfl rfl (aN (ac_ret ?_)))))))))))))))))))
    exact fin_eq (v := .bool false) (by show _ = (fun (r : Bool) => (.bool r : Value)) (rRightDec d); rw [rRightDec, h3, h2, h1] <;> rfl) (fin_ret (res_tmp rfl rfl))
  ·refine aK 12 (by show ((decide (d.c ≤ 100000000000)) == true) = false; rw [h2]; rfl) rfl (aK 13 (by show ((decide (d.c ≤ 100000000000)) == true) = false; rw [h2]; rfl) rfl (aK 14 (by show ((decide (d.c ≤ 100000000000)) == true) = false; rw [h2]; rfl) rfl (ao 15 rfl rfl (st_pkf' (b := decide (d.c ≤ 100000000000)) (v := .bool false) h2 rfl rfl rfl (aM 16 (.bool false) rfl rfl (aK 17 rfl rfl (aK 18 rfl rfl (aK 19 rfl rfl (ao 20 rfl rfl (st_pkf (v := .bool false) rfl rfl rfl (aM 21 (.bool false) rfl rfl (aK 22 rfl rfl (aK 23 rfl rfl (aK 24 rfl rfl (aK 25 rfl rfl (aK 26 rfl rfl (aK 27 rfl rfl (aK 28 rfl rfl (aK 29 rfl rfl (aK 30 rfl rfl ?_))))))))))))))))))))
   refine ao 31 rfl rfl (st_pkf (v := .bool false) rfl rfl rfl (aA 2 (.bool false) rfl rfl (aN (ac_ret (fin_eq (v := .bool false) (by show _ = (fun (r : Bool) => (.bool r : Value)) (rRightDec d); rw [rRightDec, h2, h1] <;> rfl) (fin_ret (res_tmp rfl rfl)))))))
 ·refine aK 7 (by show ((decide (d.c ≥ (-100000000000))) == true) = false; rw [h1]; rfl) rfl (aK 8 (by show ((decide (d.c ≥ (-100000000000))) == true) = false; rw [h1]; rfl) rfl (aK 9 (by show ((decide (d.c ≥ (-100000000000))) == true) = false; rw [h1]; rfl) rfl (ao 10 rfl rfl (st_pkf' (b := decide (d.c ≥ (-100000000000))) (v := .bool false) h1 rfl rfl rfl (aM 11 (.bool false) rfl rfl (aK 12 rfl rfl (aK 13 rfl rfl (aK 14 rfl rfl (ao 15 rfl rfl (st_pkf (v := .bool false) rfl rfl rfl (aM 16 (.bool false) rfl rfl (aK 17 rfl rfl (aK 18 rfl rfl (aK 19 rfl rfl (ao 20 rfl rfl (st_pkf (v := .bool false) rfl rfl rfl (aM 21 (.bool false) rfl rfl (aK 22 rfl rfl ?_))))))))))))))))))
  refine aK 23 rfl rfl (aK 24 rfl rfl (aK 25 rfl rfl (aK 26 rfl rfl (aK 27 rfl rfl (aK 28 rfl rfl (aK 29 rfl rfl (aK 30 rfl rfl (ao 31 rfl rfl (st_pkf (v := .bool false) rfl rfl rfl (aA 2 (.bool false) rfl rfl (aN (ac_ret (fin_eq (v := .bool false) (by show _ = (fun (r : Bool) => (.bool r : Value)) (rRightDec d); rw [rRightDec, h1] <;> rfl) (fin_ret (res_tmp rfl rfl)))))))))))))))
def rZero (d : Dec) : Bool := decide (d = (⟨0, 0⟩ : Dec))
set_option maxRecDepth 100000 in
theorem c_rZero (d : Dec) : Gets Try.prog 107 #[.agg #[.int .i64 d.c, .int .i64 d.scale]] ((fun (r : Bool) => (.bool r : Value)) (rZero d)) := by
 refine gets_fin Try.func107 rfl rfl rfl (aQ (aL (ao 1 rfl rfl (st_box (v := .agg #[.int .i64 d.c, .int .i64 d.scale]) (cs := [.int .i64 d.c, .int .i64 d.scale]) rfl rfl rfl fun g0 => (aA 2 (.bool false) rfl rfl (aN (aQ (aL (aG 3 [.int .i64 d.c, .int .i64 d.scale] agg83 0 rfl rfl rfl rfl rfl (ao 4 rfl rfl (st_bd (us := []) (v := .agg #[.int .i64 0, .int .i64 0]) rfl rfl (bd83_ ) (aB 5 (.bool (decide (d = (⟨0, 0⟩ : Dec)))) rfl rfl rfl (beql_83 d (⟨0, 0⟩ : Dec) rfl) (aA 2 (.bool (decide (d = (⟨0, 0⟩ : Dec)))) rfl rfl (aN (ac_ret (fin_eq (v := .bool (decide (d = (⟨0, 0⟩ : Dec)))) rfl (fin_ret (res_tmp rfl rfl))))))))))))))))))
def rAbove (d : Dec) : Bool := decide (d.c > 0)
set_option maxRecDepth 100000 in
theorem c_rAbove (d : Dec) : Gets Try.prog 125 #[.agg #[.int .i64 d.c, .int .i64 d.scale]] ((fun (r : Bool) => (.bool r : Value)) (rAbove d)) := by
 refine gets_fin Try.func125 rfl rfl rfl (aQ (aL (ao 1 rfl rfl (st_box (v := .agg #[.int .i64 d.c, .int .i64 d.scale]) (cs := [.int .i64 d.c, .int .i64 d.scale]) rfl rfl rfl fun g0 => (aA 2 (.bool false) rfl rfl (aN (aQ (aL (aF 3 fa83_0 rfl rfl (aD 4 (.int .i64 d.c) cell3 0 rfl rfl rfl rfl (aB 5 (.bool (decide (d.c > 0))) rfl rfl rfl (bi_gtr rfl) (aA 2 (.bool (decide (d.c > 0))) rfl rfl (aN (ac_ret (fin_eq (v := .bool (decide (d.c > 0))) rfl (fin_ret (res_tmp rfl rfl)))))))))))))))))
def rSize (d : Dec) : Dec := (⟨max d.c (w64 (0 - d.c)), d.scale⟩ : Dec)
set_option maxRecDepth 100000 in
theorem c_rSize (d : Dec) : Gets Try.prog 139 #[.agg #[.int .i64 d.c, .int .i64 d.scale]] (Dec.v (rSize d)) := by
 refine gets_fin Try.func139 rfl rfl rfl (aQ (aL (ao 1 rfl rfl (st_box (v := .agg #[.int .i64 d.c, .int .i64 d.scale]) (cs := [.int .i64 d.c, .int .i64 d.scale]) rfl rfl rfl fun g0 => (ao 2 rfl rfl (st_new zero83 rfl fun g1 => (aN (aQ (aL (aF 3 fa83_0 rfl rfl (aD 4 (.int .i64 d.c) cell3 1 rfl rfl rfl rfl (aF 5 fa83_0 rfl rfl (aD 6 (.int .i64 d.c) cell3 1 rfl rfl rfl rfl (ao 7 rfl rfl (st_un (v := .int .i64 (w64 (0 - d.c))) rfl rfl (un_neg rfl) (ao 8 rfl rfl (st_mx (x := d.c) (y := (w64 (0 - d.c))) (c := (max d.c (w64 (0 - d.c)))) rfl rfl rfl (aF 9 fa83_1 rfl rfl (aD 10 (.int .i64 d.scale) cell3 1 rfl rfl rfl rfl ?_)))))))))))))))))))
 refine ao 11 rfl rfl (st_bd (us := [(0, .int .i64 (max d.c (w64 (0 - d.c)))), (1, .int .i64 d.scale)]) (v := .agg #[.int .i64 (max d.c (w64 (0 - d.c))), .int .i64 d.scale]) rfl rfl (bd83_0_1 _ _) (aS [.int .i64 (max d.c (w64 (0 - d.c))), .int .i64 d.scale] agg83 0 rfl rfl rfl rfl rfl rfl (aN (ac_ret (fin_eq (v := .agg #[.int .i64 (max d.c (w64 (0 - d.c))), .int .i64 d.scale]) rfl (fin_ret (res_c (vs := [.int .i64 (max d.c (w64 (0 - d.c))), .int .i64 d.scale]) agg83 0 rfl rfl rfl rfl rfl rfl)))))))
def rTen0  : Int := 1
set_option maxRecDepth 100000 in
theorem c_rTen0  : Gets Try.prog 129 #[.int .i64 0] ((fun (r : Int) => (.int .i64 r : Value)) rTen0) := by
 refine gets_fin Try.func129 rfl rfl rfl (aQ (aL (aA 2 (.int .i64 0) rfl rfl (aN (aQ (aL (aA 3 (.int .i64 1) rfl rfl (aN (aQ (ac_block ?_))))))))))
 refine ac_rounds 61 (ar_round (aQ (aQ (aL (aM 4 (.int .i64 0) rfl rfl (aB 5 (.bool false) rfl rfl rfl (bi_gtr (by decide)) (aN (ac_else rfl (ac_exit (aQ (aL (aM 10 (.int .i64 1) rfl rfl (aA 2 (.int .i64 1) rfl rfl (aN (ac_ret (fin_eq (v := .int .i64 1) rfl (fin_ret (res_tmp rfl rfl))))))))))))))))))
def rTen1  : Int := 10
set_option maxRecDepth 100000 in
theorem c_rTen1  : Gets Try.prog 129 #[.int .i64 1] ((fun (r : Int) => (.int .i64 r : Value)) rTen1) := by
 refine gets_fin Try.func129 rfl rfl rfl (aQ (aL (aA 2 (.int .i64 0) rfl rfl (aN (aQ (aL (aA 3 (.int .i64 1) rfl rfl (aN (aQ (ac_block ?_))))))))))
 refine ac_rounds 61 (ar_round (aQ (aQ (aL (aM 4 (.int .i64 1) rfl rfl (aB 5 (.bool true) rfl rfl rfl (bi_gtr (by decide)) (aN (ac_then rfl (ac_skip (aQ (ac_block (aL (aM 8 (.int .i64 1) rfl rfl (aB 9 (.int .i64 10) rfl rfl rfl (bi_mul (by decide)) (aA 3 (.int .i64 10) rfl rfl (aN (aL (aM 6 (.int .i64 1) rfl rfl (aB 7 (.int .i64 0) rfl rfl rfl (bi_sub (by decide)) (aA 0 (.int .i64 0) rfl rfl (aN (ar_round (aQ (aQ (aL (aM 4 (.int .i64 0) rfl rfl (aB 5 (.bool false) rfl rfl rfl (bi_gtr (by decide)) (aN (ac_else rfl (ac_exit (aQ (aL (aM 10 (.int .i64 10) rfl rfl (aA 2 (.int .i64 10) rfl rfl (aN (ac_ret ?_))))))))))))))))))))))))))))))))))))
 exact fin_eq (v := .int .i64 10) rfl (fin_ret (res_tmp rfl rfl))
def rTen2  : Int := 100
set_option maxRecDepth 100000 in
theorem c_rTen2  : Gets Try.prog 129 #[.int .i64 2] ((fun (r : Int) => (.int .i64 r : Value)) rTen2) := by
 refine gets_fin Try.func129 rfl rfl rfl (aQ (aL (aA 2 (.int .i64 0) rfl rfl (aN (aQ (aL (aA 3 (.int .i64 1) rfl rfl (aN (aQ (ac_block ?_))))))))))
 refine ac_rounds 61 (ar_round (aQ (aQ (aL (aM 4 (.int .i64 2) rfl rfl (aB 5 (.bool true) rfl rfl rfl (bi_gtr (by decide)) (aN (ac_then rfl (ac_skip (aQ (ac_block (aL (aM 8 (.int .i64 1) rfl rfl (aB 9 (.int .i64 10) rfl rfl rfl (bi_mul (by decide)) (aA 3 (.int .i64 10) rfl rfl (aN (aL (aM 6 (.int .i64 2) rfl rfl (aB 7 (.int .i64 1) rfl rfl rfl (bi_sub (by decide)) (aA 0 (.int .i64 1) rfl rfl (aN (ar_round (aQ (aQ (aL (aM 4 (.int .i64 1) rfl rfl (aB 5 (.bool true) rfl rfl rfl (bi_gtr (by decide)) (aN (ac_then rfl (ac_skip (aQ (ac_block (aL (aM 8 (.int .i64 10) rfl rfl (aB 9 (.int .i64 100) rfl rfl rfl (bi_mul (by decide)) ?_)))))))))))))))))))))))))))))))))))
 refine aA 3 (.int .i64 100) rfl rfl (aN (aL (aM 6 (.int .i64 1) rfl rfl (aB 7 (.int .i64 0) rfl rfl rfl (bi_sub (by decide)) (aA 0 (.int .i64 0) rfl rfl (aN (ar_round (aQ (aQ (aL (aM 4 (.int .i64 0) rfl rfl (aB 5 (.bool false) rfl rfl rfl (bi_gtr (by decide)) (aN (ac_else rfl (ac_exit (aQ (aL (aM 10 (.int .i64 100) rfl rfl (aA 2 (.int .i64 100) rfl rfl (aN (ac_ret (fin_eq (v := .int .i64 100) rfl (fin_ret (res_tmp rfl rfl))))))))))))))))))))))))
def rTen3  : Int := 1000
set_option maxRecDepth 100000 in
theorem c_rTen3  : Gets Try.prog 129 #[.int .i64 3] ((fun (r : Int) => (.int .i64 r : Value)) rTen3) := by
 refine gets_fin Try.func129 rfl rfl rfl (aQ (aL (aA 2 (.int .i64 0) rfl rfl (aN (aQ (aL (aA 3 (.int .i64 1) rfl rfl (aN (aQ (ac_block ?_))))))))))
 refine ac_rounds 61 (ar_round (aQ (aQ (aL (aM 4 (.int .i64 3) rfl rfl (aB 5 (.bool true) rfl rfl rfl (bi_gtr (by decide)) (aN (ac_then rfl (ac_skip (aQ (ac_block (aL (aM 8 (.int .i64 1) rfl rfl (aB 9 (.int .i64 10) rfl rfl rfl (bi_mul (by decide)) (aA 3 (.int .i64 10) rfl rfl (aN (aL (aM 6 (.int .i64 3) rfl rfl (aB 7 (.int .i64 2) rfl rfl rfl (bi_sub (by decide)) (aA 0 (.int .i64 2) rfl rfl (aN (ar_round (aQ (aQ (aL (aM 4 (.int .i64 2) rfl rfl (aB 5 (.bool true) rfl rfl rfl (bi_gtr (by decide)) (aN (ac_then rfl (ac_skip (aQ (ac_block (aL (aM 8 (.int .i64 10) rfl rfl (aB 9 (.int .i64 100) rfl rfl rfl (bi_mul (by decide)) ?_)))))))))))))))))))))))))))))))))))
 refine aA 3 (.int .i64 100) rfl rfl (aN (aL (aM 6 (.int .i64 2) rfl rfl (aB 7 (.int .i64 1) rfl rfl rfl (bi_sub (by decide)) (aA 0 (.int .i64 1) rfl rfl (aN (ar_round (aQ (aQ (aL (aM 4 (.int .i64 1) rfl rfl (aB 5 (.bool true) rfl rfl rfl (bi_gtr (by decide)) (aN (ac_then rfl (ac_skip (aQ (ac_block (aL (aM 8 (.int .i64 100) rfl rfl (aB 9 (.int .i64 1000) rfl rfl rfl (bi_mul (by decide)) (aA 3 (.int .i64 1000) rfl rfl (aN (aL (aM 6 (.int .i64 1) rfl rfl (aB 7 (.int .i64 0) rfl rfl rfl (bi_sub (by decide)) (aA 0 (.int .i64 0) rfl rfl (aN (ar_round (aQ (aQ (aL (aM 4 (.int .i64 0) rfl rfl (aB 5 (.bool false) rfl rfl rfl (bi_gtr (by decide)) (aN ?_))))))))))))))))))))))))))))))))))
 refine ac_else rfl (ac_exit (aQ (aL (aM 10 (.int .i64 1000) rfl rfl (aA 2 (.int .i64 1000) rfl rfl (aN (ac_ret (fin_eq (v := .int .i64 1000) rfl (fin_ret (res_tmp rfl rfl))))))))))
def rTen4  : Int := 10000
set_option maxRecDepth 100000 in
set_option maxHeartbeats 4000000 in
theorem c_rTen4  : Gets Try.prog 129 #[.int .i64 4] ((fun (r : Int) => (.int .i64 r : Value)) rTen4) := by
 refine gets_fin Try.func129 rfl rfl rfl (aQ (aL (aA 2 (.int .i64 0) rfl rfl (aN (aQ (aL (aA 3 (.int .i64 1) rfl rfl (aN (aQ (ac_block ?_))))))))))
 refine ac_rounds 61 (ar_round (aQ (aQ (aL (aM 4 (.int .i64 4) rfl rfl (aB 5 (.bool true) rfl rfl rfl (bi_gtr (by decide)) (aN (ac_then rfl (ac_skip (aQ (ac_block (aL (aM 8 (.int .i64 1) rfl rfl (aB 9 (.int .i64 10) rfl rfl rfl (bi_mul (by decide)) (aA 3 (.int .i64 10) rfl rfl (aN (aL (aM 6 (.int .i64 4) rfl rfl (aB 7 (.int .i64 3) rfl rfl rfl (bi_sub (by decide)) (aA 0 (.int .i64 3) rfl rfl (aN (ar_round (aQ (aQ (aL (aM 4 (.int .i64 3) rfl rfl (aB 5 (.bool true) rfl rfl rfl (bi_gtr (by decide)) (aN (ac_then rfl (ac_skip (aQ (ac_block (aL (aM 8 (.int .i64 10) rfl rfl (aB 9 (.int .i64 100) rfl rfl rfl (bi_mul (by decide)) ?_)))))))))))))))))))))))))))))))))))
 refine aA 3 (.int .i64 100) rfl rfl (aN (aL (aM 6 (.int .i64 3) rfl rfl (aB 7 (.int .i64 2) rfl rfl rfl (bi_sub (by decide)) (aA 0 (.int .i64 2) rfl rfl (aN (ar_round (aQ (aQ (aL (aM 4 (.int .i64 2) rfl rfl (aB 5 (.bool true) rfl rfl rfl (bi_gtr (by decide)) (aN (ac_then rfl (ac_skip (aQ (ac_block (aL (aM 8 (.int .i64 100) rfl rfl (aB 9 (.int .i64 1000) rfl rfl rfl (bi_mul (by decide)) (aA 3 (.int .i64 1000) rfl rfl (aN (aL (aM 6 (.int .i64 2) rfl rfl (aB 7 (.int .i64 1) rfl rfl rfl (bi_sub (by decide)) (aA 0 (.int .i64 1) rfl rfl (aN (ar_round (aQ (aQ (aL (aM 4 (.int .i64 1) rfl rfl (aB 5 (.bool true) rfl rfl rfl (bi_gtr (by decide)) (aN ?_))))))))))))))))))))))))))))))))))
 refine ac_then rfl (ac_skip (aQ (ac_block (aL (aM 8 (.int .i64 1000) rfl rfl (aB 9 (.int .i64 10000) rfl rfl rfl (bi_mul (by decide)) (aA 3 (.int .i64 10000) rfl rfl (aN (aL (aM 6 (.int .i64 1) rfl rfl (aB 7 (.int .i64 0) rfl rfl rfl (bi_sub (by decide)) (aA 0 (.int .i64 0) rfl rfl (aN (ar_round (aQ (aQ (aL (aM 4 (.int .i64 0) rfl rfl (aB 5 (.bool false) rfl rfl rfl (bi_gtr (by decide)) (aN (ac_else rfl (ac_exit (aQ (aL (aM 10 (.int .i64 10000) rfl rfl (aA 2 (.int .i64 10000) rfl rfl (aN (ac_ret (fin_eq (v := .int .i64 10000) rfl (fin_ret (res_tmp rfl rfl)))))))))))))))))))))))))))))))
def rTen5  : Int := 100000
set_option maxRecDepth 100000 in
set_option maxHeartbeats 4000000 in
theorem c_rTen5  : Gets Try.prog 129 #[.int .i64 5] ((fun (r : Int) => (.int .i64 r : Value)) rTen5) := by
 refine gets_fin Try.func129 rfl rfl rfl (aQ (aL (aA 2 (.int .i64 0) rfl rfl (aN (aQ (aL (aA 3 (.int .i64 1) rfl rfl (aN (aQ (ac_block ?_))))))))))
 refine ac_rounds 61 (ar_round (aQ (aQ (aL (aM 4 (.int .i64 5) rfl rfl (aB 5 (.bool true) rfl rfl rfl (bi_gtr (by decide)) (aN (ac_then rfl (ac_skip (aQ (ac_block (aL (aM 8 (.int .i64 1) rfl rfl (aB 9 (.int .i64 10) rfl rfl rfl (bi_mul (by decide)) (aA 3 (.int .i64 10) rfl rfl (aN (aL (aM 6 (.int .i64 5) rfl rfl (aB 7 (.int .i64 4) rfl rfl rfl (bi_sub (by decide)) (aA 0 (.int .i64 4) rfl rfl (aN (ar_round (aQ (aQ (aL (aM 4 (.int .i64 4) rfl rfl (aB 5 (.bool true) rfl rfl rfl (bi_gtr (by decide)) (aN (ac_then rfl (ac_skip (aQ (ac_block (aL (aM 8 (.int .i64 10) rfl rfl (aB 9 (.int .i64 100) rfl rfl rfl (bi_mul (by decide)) ?_)))))))))))))))))))))))))))))))))))
 refine aA 3 (.int .i64 100) rfl rfl (aN (aL (aM 6 (.int .i64 4) rfl rfl (aB 7 (.int .i64 3) rfl rfl rfl (bi_sub (by decide)) (aA 0 (.int .i64 3) rfl rfl (aN (ar_round (aQ (aQ (aL (aM 4 (.int .i64 3) rfl rfl (aB 5 (.bool true) rfl rfl rfl (bi_gtr (by decide)) (aN (ac_then rfl (ac_skip (aQ (ac_block (aL (aM 8 (.int .i64 100) rfl rfl (aB 9 (.int .i64 1000) rfl rfl rfl (bi_mul (by decide)) (aA 3 (.int .i64 1000) rfl rfl (aN (aL (aM 6 (.int .i64 3) rfl rfl (aB 7 (.int .i64 2) rfl rfl rfl (bi_sub (by decide)) (aA 0 (.int .i64 2) rfl rfl (aN (ar_round (aQ (aQ (aL (aM 4 (.int .i64 2) rfl rfl (aB 5 (.bool true) rfl rfl rfl (bi_gtr (by decide)) (aN ?_))))))))))))))))))))))))))))))))))
 refine ac_then rfl (ac_skip (aQ (ac_block (aL (aM 8 (.int .i64 1000) rfl rfl (aB 9 (.int .i64 10000) rfl rfl rfl (bi_mul (by decide)) (aA 3 (.int .i64 10000) rfl rfl (aN (aL (aM 6 (.int .i64 2) rfl rfl (aB 7 (.int .i64 1) rfl rfl rfl (bi_sub (by decide)) (aA 0 (.int .i64 1) rfl rfl (aN (ar_round (aQ (aQ (aL (aM 4 (.int .i64 1) rfl rfl (aB 5 (.bool true) rfl rfl rfl (bi_gtr (by decide)) (aN (ac_then rfl (ac_skip (aQ (ac_block (aL (aM 8 (.int .i64 10000) rfl rfl (aB 9 (.int .i64 100000) rfl rfl rfl (bi_mul (by decide)) (aA 3 (.int .i64 100000) rfl rfl (aN (aL (aM 6 (.int .i64 1) rfl rfl (aB 7 (.int .i64 0) rfl rfl rfl (bi_sub (by decide)) ?_))))))))))))))))))))))))))))))))
 refine aA 0 (.int .i64 0) rfl rfl (aN (ar_round (aQ (aQ (aL (aM 4 (.int .i64 0) rfl rfl (aB 5 (.bool false) rfl rfl rfl (bi_gtr (by decide)) (aN (ac_else rfl (ac_exit (aQ (aL (aM 10 (.int .i64 100000) rfl rfl (aA 2 (.int .i64 100000) rfl rfl (aN (ac_ret (fin_eq (v := .int .i64 100000) rfl (fin_ret (res_tmp rfl rfl)))))))))))))))))))
def rTen6  : Int := 1000000
set_option maxRecDepth 100000 in
set_option maxHeartbeats 4000000 in
theorem c_rTen6  : Gets Try.prog 129 #[.int .i64 6] ((fun (r : Int) => (.int .i64 r : Value)) rTen6) := by
 refine gets_fin Try.func129 rfl rfl rfl (aQ (aL (aA 2 (.int .i64 0) rfl rfl (aN (aQ (aL (aA 3 (.int .i64 1) rfl rfl (aN (aQ (ac_block ?_))))))))))
 refine ac_rounds 61 (ar_round (aQ (aQ (aL (aM 4 (.int .i64 6) rfl rfl (aB 5 (.bool true) rfl rfl rfl (bi_gtr (by decide)) (aN (ac_then rfl (ac_skip (aQ (ac_block (aL (aM 8 (.int .i64 1) rfl rfl (aB 9 (.int .i64 10) rfl rfl rfl (bi_mul (by decide)) (aA 3 (.int .i64 10) rfl rfl (aN (aL (aM 6 (.int .i64 6) rfl rfl (aB 7 (.int .i64 5) rfl rfl rfl (bi_sub (by decide)) (aA 0 (.int .i64 5) rfl rfl (aN (ar_round (aQ (aQ (aL (aM 4 (.int .i64 5) rfl rfl (aB 5 (.bool true) rfl rfl rfl (bi_gtr (by decide)) (aN (ac_then rfl (ac_skip (aQ (ac_block (aL (aM 8 (.int .i64 10) rfl rfl (aB 9 (.int .i64 100) rfl rfl rfl (bi_mul (by decide)) ?_)))))))))))))))))))))))))))))))))))
 refine aA 3 (.int .i64 100) rfl rfl (aN (aL (aM 6 (.int .i64 5) rfl rfl (aB 7 (.int .i64 4) rfl rfl rfl (bi_sub (by decide)) (aA 0 (.int .i64 4) rfl rfl (aN (ar_round (aQ (aQ (aL (aM 4 (.int .i64 4) rfl rfl (aB 5 (.bool true) rfl rfl rfl (bi_gtr (by decide)) (aN (ac_then rfl (ac_skip (aQ (ac_block (aL (aM 8 (.int .i64 100) rfl rfl (aB 9 (.int .i64 1000) rfl rfl rfl (bi_mul (by decide)) (aA 3 (.int .i64 1000) rfl rfl (aN (aL (aM 6 (.int .i64 4) rfl rfl (aB 7 (.int .i64 3) rfl rfl rfl (bi_sub (by decide)) (aA 0 (.int .i64 3) rfl rfl (aN (ar_round (aQ (aQ (aL (aM 4 (.int .i64 3) rfl rfl (aB 5 (.bool true) rfl rfl rfl (bi_gtr (by decide)) (aN ?_))))))))))))))))))))))))))))))))))
 refine ac_then rfl (ac_skip (aQ (ac_block (aL (aM 8 (.int .i64 1000) rfl rfl (aB 9 (.int .i64 10000) rfl rfl rfl (bi_mul (by decide)) (aA 3 (.int .i64 10000) rfl rfl (aN (aL (aM 6 (.int .i64 3) rfl rfl (aB 7 (.int .i64 2) rfl rfl rfl (bi_sub (by decide)) (aA 0 (.int .i64 2) rfl rfl (aN (ar_round (aQ (aQ (aL (aM 4 (.int .i64 2) rfl rfl (aB 5 (.bool true) rfl rfl rfl (bi_gtr (by decide)) (aN (ac_then rfl (ac_skip (aQ (ac_block (aL (aM 8 (.int .i64 10000) rfl rfl (aB 9 (.int .i64 100000) rfl rfl rfl (bi_mul (by decide)) (aA 3 (.int .i64 100000) rfl rfl (aN (aL (aM 6 (.int .i64 2) rfl rfl (aB 7 (.int .i64 1) rfl rfl rfl (bi_sub (by decide)) ?_))))))))))))))))))))))))))))))))
 refine aA 0 (.int .i64 1) rfl rfl (aN (ar_round (aQ (aQ (aL (aM 4 (.int .i64 1) rfl rfl (aB 5 (.bool true) rfl rfl rfl (bi_gtr (by decide)) (aN (ac_then rfl (ac_skip (aQ (ac_block (aL (aM 8 (.int .i64 100000) rfl rfl (aB 9 (.int .i64 1000000) rfl rfl rfl (bi_mul (by decide)) (aA 3 (.int .i64 1000000) rfl rfl (aN (aL (aM 6 (.int .i64 1) rfl rfl (aB 7 (.int .i64 0) rfl rfl rfl (bi_sub (by decide)) (aA 0 (.int .i64 0) rfl rfl (aN (ar_round (aQ (aQ (aL (aM 4 (.int .i64 0) rfl rfl (aB 5 (.bool false) rfl rfl rfl (bi_gtr (by decide)) (aN (ac_else rfl (ac_exit (aQ (aL (aM 10 (.int .i64 1000000) rfl rfl (aA 2 (.int .i64 1000000) rfl rfl (aN (ac_ret ?_)))))))))))))))))))))))))))))))))))))
 exact fin_eq (v := .int .i64 1000000) rfl (fin_ret (res_tmp rfl rfl))
end Go.Proofs.Ythngkopcadlciaa
namespace Go.Proofs.Ythngkopcadlciaa
open Go.RowKit
attribute [local irreducible] AC AR DWalk
def wordRound (s : ByteArray) (k : Nat) : Bool := (bif rInWord (sAt s k) then true else false)
set_option maxRecDepth 100000 in
set_option maxHeartbeats 4000000 in
theorem r_wordRound (s : ByteArray) (k : Nat) (hk : k < s.size) {Q : Exit → Env → List Box → Prop} {E : Env} {c : Code} {j : Nat} (hc : Try.f123.body.bind loopOf = some c) (q0 : E 0 = .string s) (q2 : E 2 = .bool false) (q3 : E 3 = .int .i64 (k : Int)) (Kret : (wordRound s k) = false → ∀ (E' : Env) (H' : List Box), E' 2 = .bool false → Q .ret E' H') (Knext : (wordRound s k) = true → ∀ E' : Env, E' 0 = .string s → E' 2 = .bool false → E' 3 = .int .i64 (w64 ((k : Int) + 1)) → ARounds Try.prog 29 c Q j E' []) : ARounds Try.prog 29 c Q (j + 1) E [] := by
 rw [show Try.f123.body.bind loopOf = some _ from rfl] at hc
 cases hc
 obtain ⟨E0, rfl⟩ : ∃ E0 : Env, E = (((E0.put (some 0) (.string s)).put (some 2) (.bool false)).put (some 3) (.int .i64 (k : Int))) := ⟨E, by rw [put_self q0, put_self q2, put_self q3]⟩
 refine ar_round (aQ (aQ (aL (aM 18 (.int .i64 (k : Int)) rfl rfl (aM 19 (.string s) rfl rfl (ao 20 rfl rfl (st_slen (s := s) rfl Try.underlying9 rfl (aB 21 (.bool (decide ((k : Int) < ((s).size : Int)))) rfl rfl rfl (bi_lss rfl) (aN (ac_then' (b := decide ((k : Int) < ((s).size : Int))) (decide_eq_true (show (k : Int) < ((s).size : Int) by omega)) rfl (ac_skip (aQ (ac_block (aQ (aL (aM 24 (.string s) rfl rfl (aM 25 (.int .i64 (k : Int)) rfl rfl (ao 26 rfl rfl (st_six (s := s) (i := k) rfl Try.underlying9 rfl rfl hk (aC 27 (c_rInWord (sAt s k)) Try.func136 ⟨rfl, by decide⟩ rfl rfl ?_))))))))))))))))))))
 refine ao 28 rfl rfl (st_un (v := .bool (!(rInWord (sAt s k)))) rfl rfl (un_not rfl) (aN ?_))
 refine bool_split (rInWord (sAt s k)) (fun h1 => ?_) (fun h1 => ?_)
 ·refine ac_else' (b := !(rInWord (sAt s k))) (by rw [h1]; rfl) rfl (ac_skip (aL (aM 22 (.int .i64 (k : Int)) rfl rfl (aB 23 (.int .i64 (w64 ((k : Int) + 1))) rfl rfl rfl (bi_add rfl) (aA 3 (.int .i64 (w64 ((k : Int) + 1))) rfl rfl (aN ?_))))))
  exact ar_dropR (List.Sublist.refl _) (Knext (by rw [wordRound, h1]; rfl) _ rfl rfl rfl)
 ·refine ac_then' (b := !(rInWord (sAt s k))) (by rw [h1]; rfl) rfl (aQ (aL (aA 2 (.bool false) rfl rfl (aN (ac_ret ?_)))))
  exact Kret (by rw [wordRound, h1]; rfl) _ _ rfl
set_option maxRecDepth 100000 in
theorem word_leave (s : ByteArray) (k : Nat) (hk : s.size ≤ k) {Q : Exit → Env → List Box → Prop} {E : Env} {c : Code} {j : Nat} (hc : Try.f123.body.bind loopOf = some c) (q0 : E 0 = .string s) (q2 : E 2 = .bool false) (q3 : E 3 = .int .i64 (k : Int)) (K : ∀ E' : Env, E' 0 = .string s → E' 2 = .bool false → E' 3 = .int .i64 (k : Int) → Q (.exit 0) E' []) : ARounds Try.prog 29 c Q (j + 1) E [] := by
 rw [show Try.f123.body.bind loopOf = some _ from rfl] at hc
 cases hc
 obtain ⟨E0, rfl⟩ : ∃ E0 : Env, E = (((E0.put (some 0) (.string s)).put (some 2) (.bool false)).put (some 3) (.int .i64 (k : Int))) := ⟨E, by rw [put_self q0, put_self q2, put_self q3]⟩
 refine ar_round (aQ (aQ (aL (aM 18 (.int .i64 (k : Int)) rfl rfl (aM 19 (.string s) rfl rfl (ao 20 rfl rfl (st_slen (s := s) rfl Try.underlying9 rfl (aB 21 (.bool (decide ((k : Int) < ((s).size : Int)))) rfl rfl rfl (bi_lss rfl) (aN (ac_else' (b := decide ((k : Int) < ((s).size : Int))) (decide_eq_false (show ¬ ((k : Int) < ((s).size : Int)) by omega)) rfl (ac_exit ?_)))))))))))
 exact K _ rfl rfl rfl
def wordFrom (s : ByteArray) : Nat → Nat → Bool
 | 0, _ => true
 | n + 1, k => wordRound s k && wordFrom s n (k + 1)
theorem word_loop (s : ByteArray) (hs : s.size ≤ 1000) {Q : Exit → Env → List Box → Prop} {c : Code} (hc : Try.f123.body.bind loopOf = some c) : ∀ (n k : Nat) (E : Env), k + n = s.size → E 0 = .string s → E 2 = .bool false → E 3 = .int .i64 (k : Int) →
  (wordFrom s n k = false → ∀ (E' : Env) (H' : List Box), E' 2 = .bool false → Q .ret E' H') → (wordFrom s n k = true → ∀ E' : Env, Q (.exit 0) E' []) → ARounds Try.prog 29 c Q (n + 1) E [] := by
 intro n
 induction n with
 | zero =>
  intro k E hk q0 q2 q3 Kret Kex
  exact word_leave s k (by omega) hc q0 q2 q3 fun E' _ _ _ => Kex rfl E'
 | succ n ih =>
  intro k E hk q0 q2 q3 Kret Kex
  refine r_wordRound s k (by omega) hc q0 q2 q3 (fun h => Kret (by rw [wordFrom, h]; rfl)) ?_
  intro h E' f0 f2 f3
  refine ih (k + 1) E' (by omega) f0 f2 (by rw [f3, w64_id (by omega)]; rfl) (fun h2 => Kret (by rw [wordFrom, h, h2]; rfl)) (fun h2 => Kex (by rw [wordFrom, h, h2]; rfl))
def isWord (s : ByteArray) : Bool := (bif ((s).size : Int) == 0 then false else (bif decide (((s).size : Int) > 20) then false else (bif rLetter (sAt s 0) then (bif wordFrom s s.size 0 then true else false) else false)))
set_option maxRecDepth 100000 in
set_option maxHeartbeats 4000000 in
theorem c_isWord (s : ByteArray) : Gets Try.prog 123 #[.string s] (.bool (isWord s)) := by
 refine gets_fin Try.func123 rfl rfl rfl (aQ (aL (aA 2 (.bool false) rfl rfl (aN (aQ (aQ (aL (aM 4 (.string s) rfl rfl (ao 5 rfl rfl (st_slen (s := s) rfl Try.underlying9 rfl (aB 6 (.bool (((s).size : Int) == 0)) rfl rfl rfl (bi_eql rfl) (aM 7 (.bool (((s).size : Int) == 0)) rfl rfl ?_))))))))))))
 refine bool_split (((s).size : Int) == 0) (fun h1 => ?_) (fun h1 => ?_)
 ·refine aK 8 (by show ((((s).size : Int) == 0) == false) = false; rw [h1]; rfl) rfl (aK 9 (by show ((((s).size : Int) == 0) == false) = false; rw [h1]; rfl) rfl (aK 10 (by show ((((s).size : Int) == 0) == false) = false; rw [h1]; rfl) rfl (ao 11 rfl rfl (st_pkt' (b := ((s).size : Int) == 0) (v := .bool true) h1 rfl rfl rfl (aM 12 (.bool true) rfl rfl (aK 13 rfl rfl (aK 14 rfl rfl (aK 15 rfl rfl (aK 16 rfl rfl (ao 17 rfl rfl (st_pkt (v := .bool true) rfl rfl rfl (aN (ac_then rfl (aQ (aL (aA 2 (.bool false) rfl rfl (aN (ac_ret (fin_eq (v := .bool false) (by rw [isWord, h1]; rfl) (fin_ret (res_tmp rfl rfl)))))))))))))))))))))
 ·refine ar_gd (d := (some 8)) (by show ((((s).size : Int) == 0) == false) = true; rw [h1]; rfl) rfl (st_move (v := .string s) rfl rfl (ar_gd (d := (some 9)) (by show ((((s).size : Int) == 0) == false) = true; rw [h1]; rfl) rfl (st_slen (s := s) rfl Try.underlying9 rfl (ar_gd (d := (some 10)) (by show ((((s).size : Int) == 0) == false) = true; rw [h1]; rfl) rfl (st_bi (r := .bool (decide (((s).size : Int) > 20))) rfl rfl rfl (bi_gtr rfl) (ao 11 rfl rfl (st_pkf' (b := ((s).size : Int) == 0) (v := .bool (decide (((s).size : Int) > 20))) h1 rfl rfl rfl (aM 12 (.bool (decide (((s).size : Int) > 20))) rfl rfl ?_))))))))
  refine bool_split (decide (((s).size : Int) > 20)) (fun h2 => ?_) (fun h2 => ?_)
  ·refine aK 13 (by show ((decide (((s).size : Int) > 20)) == false) = false; rw [h2]; rfl) rfl (aK 14 (by show ((decide (((s).size : Int) > 20)) == false) = false; rw [h2]; rfl) rfl (aK 15 (by show ((decide (((s).size : Int) > 20)) == false) = false; rw [h2]; rfl) rfl (aK 16 (by show ((decide (((s).size : Int) > 20)) == false) = false; rw [h2]; rfl) rfl (ao 17 rfl rfl (st_pkt' (b := decide (((s).size : Int) > 20)) (v := .bool true) h2 rfl rfl rfl (aN (ac_then rfl (aQ (aL (aA 2 (.bool false) rfl rfl (aN (ac_ret (fin_eq (v := .bool false) (by rw [isWord, h1, h2]; rfl) (fin_ret (res_tmp rfl rfl)))))))))))))))
  ·refine ar_gd (d := (some 13)) (by show ((decide (((s).size : Int) > 20)) == false) = true; rw [h2]; rfl) rfl (st_move (v := .string s) rfl rfl (ar_gd (d := (some 14)) (by show ((decide (((s).size : Int) > 20)) == false) = true; rw [h2]; rfl) rfl (st_six (s := s) (i := 0) rfl Try.underlying9 rfl rfl (by have := h1; simp only [beq_eq_false_iff_ne, ne_eq] at this; omega) (ar_gd (d := (some 15)) (by show ((decide (((s).size : Int) > 20)) == false) = true; rw [h2]; rfl) rfl (st_cf (c_rLetter (sAt s 0)) Try.func135 rfl (by decide) rfl rfl rfl ?_)))))
   refine ar_gd (d := (some 16)) (by show ((decide (((s).size : Int) > 20)) == false) = true; rw [h2]; rfl) rfl (st_un (v := .bool (!(rLetter (sAt s 0)))) rfl rfl (un_not rfl) (ao 17 rfl rfl (st_pkf' (b := decide (((s).size : Int) > 20)) (v := .bool (!(rLetter (sAt s 0)))) h2 rfl rfl rfl (aN ?_))))
   refine bool_split (rLetter (sAt s 0)) (fun h3 => ?_) (fun h3 => ?_)
   ·refine ac_else' (b := !(rLetter (sAt s 0))) (by rw [h3]; rfl) rfl (ac_skip (aQ (aQ (aL (aA 3 (.int .i64 0) rfl rfl (aN (ac_block ?_)))))))
    refine bool_split (wordFrom s s.size 0) (fun h4 => ?_) (fun h4 => ?_)
    ·refine ac_rounds (s.size + 1) ?_
     refine word_loop s (by have := of_decide_eq_false h2; omega) rfl s.size 0 _ (Nat.zero_add _) rfl rfl rfl ?_ ?_
     ·intro h; rw [h4] at h; cases h
     intro _ E'
     refine aQ (aL (aA 2 (.bool true) rfl rfl (aN (ac_ret (fin_eq (v := .bool true) (by rw [isWord, h1, h2, h3, h4]; rfl) (fin_ret (res_tmp rfl rfl)))))))
    ·refine ac_rounds (s.size + 1) ?_
     refine word_loop s (by have := of_decide_eq_false h2; omega) rfl s.size 0 _ (Nat.zero_add _) rfl rfl rfl ?_ ?_
     ·intro _ E' H' f2
      exact fin_eq (by rw [isWord, h1, h2, h3, h4]; rfl) (fin_ret (res_tmp rfl f2))
     intro h; rw [h4] at h; cases h
   ·refine ac_then' (b := !(rLetter (sAt s 0))) (by rw [h3]; rfl) rfl (aQ (aL (aA 2 (.bool false) rfl rfl (aN (ac_ret (fin_eq (v := .bool false) (by rw [isWord, h1, h2, h3]; rfl) (fin_ret (res_tmp rfl rfl))))))))
end Go.Proofs.Ythngkopcadlciaa
namespace Go.Proofs.Ythngkopcadlciaa
def rTen (n : Int) : Int := 10 ^ n.toNat
theorem c_rTen (n : Int) (h : 0 ≤ n ∧ n ≤ 6) : Gets Try.prog 129 #[.int .i64 n] (.int .i64 (rTen n)) := by
  rcases (by omega : n = 0 ∨ n = 1 ∨ n = 2 ∨ n = 3 ∨ n = 4 ∨ n = 5 ∨ n = 6) with rfl | rfl | rfl | rfl | rfl | rfl | rfl
  · exact c_rTen0
  · exact c_rTen1
  · exact c_rTen2
  · exact c_rTen3
  · exact c_rTen4
  · exact c_rTen5
  · exact c_rTen6
theorem rTen_le (n : Int) (h : 0 ≤ n ∧ n ≤ 6) : 1 ≤ rTen n ∧ rTen n ≤ 1000000 := by
  rcases (by omega : n = 0 ∨ n = 1 ∨ n = 2 ∨ n = 3 ∨ n = 4 ∨ n = 5 ∨ n = 6) with rfl | rfl | rfl | rfl | rfl | rfl | rfl <;> decide
theorem rd_bounds {d : Dec} (h : rRightDec d = true) : -100000000000 ≤ d.c ∧ d.c ≤ 100000000000 ∧ 0 ≤ d.scale ∧ d.scale ≤ 6 := by
  unfold rRightDec at h
  simp only [Bool.cond_eq_ite, Bool.ite_eq_true_distrib] at h
  simp at h
  omega
theorem ten_ok {d : Dec} (h : rRightDec d = true) : 0 ≤ d.scale ∧ d.scale ≤ 6 := (rd_bounds h).2.2
theorem ten_ok2 {d : Dec} (h : rRightDec d = true) : 0 ≤ w64 (6 - d.scale) ∧ w64 (6 - d.scale) ≤ 6 := by
  have := ten_ok h
  rw [w64_id (by omega)]
  omega
theorem ten_nz {d : Dec} (h : rRightDec d = true) : rTen d.scale ≠ 0 := by
  have := rTen_le _ (ten_ok h)
  omega
theorem dig_ok1 {d : Dec} (h : rRightDec d = true) : 0 ≤ w64 (Int.tdiv (max d.c (w64 (0 - d.c))) (rTen d.scale)) ∧ w64 (Int.tdiv (max d.c (w64 (0 - d.c))) (rTen d.scale)) ≤ 9223372036854775807 := by
  have h1 := rd_bounds h
  have h2 := rTen_le _ (ten_ok h)
  rw [w64_id (n := 0 - d.c) (by omega)]
  have h3 : 0 ≤ max d.c (0 - d.c) := by omega
  have h4 : max d.c (0 - d.c) ≤ 100000000000 := by omega
  generalize max d.c (0 - d.c) = m at *
  generalize rTen d.scale = t at *
  rw [Int.tdiv_eq_ediv_of_nonneg h3]
  have h5 : 0 ≤ m / t := Int.ediv_nonneg h3 (by omega)
  have h6 : m / t ≤ m := Int.ediv_le_self _ h3
  rw [w64_id (by omega)]
  omega
theorem dig_ok2 {d : Dec} (h : rRightDec d = true) : 0 ≤ w64 ((Int.tmod (max d.c (w64 (0 - d.c))) (rTen d.scale)) + (rTen d.scale)) ∧ w64 ((Int.tmod (max d.c (w64 (0 - d.c))) (rTen d.scale)) + (rTen d.scale)) ≤ 9223372036854775807 := by
  have h1 := rd_bounds h
  have h2 := rTen_le _ (ten_ok h)
  rw [w64_id (n := 0 - d.c) (by omega)]
  have h3 : 0 ≤ max d.c (0 - d.c) := by omega
  generalize max d.c (0 - d.c) = m at *
  generalize rTen d.scale = t at *
  rw [Int.tmod_eq_emod_of_nonneg h3]
  have h5 : 0 ≤ m % t := Int.emod_nonneg _ (by omega)
  have h6 : m % t < t := Int.emod_lt_of_pos _ (by omega)
  rw [w64_id (by omega)]
  omega
end Go.Proofs.Ythngkopcadlciaa
