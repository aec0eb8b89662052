import Derived.Test.YthngkopcadlciaaMNormalTells7
import Derived.Test.YthngkopcadlciaaMNormalTells6
import Derived.Test.YthngkopcadlciaaMNormalTells1
import Derived.RangeFuncCalls
import Derived.RangeFuncBox
import Derived.RangeFuncWrites
import Derived.OwnWalkIn
import Derived.TacticsIn
import Derived.OrdersIn
import Derived.Test.YthngkopcadlciaaMNormalTells2
import Derived.RangeFuncLeaves
import Derived.RangeFuncNested
import Derived.Shelf.Abstract
import Derived.TacticsInMore
import Derived.LoopNIn
import Derived.LoopIn
set_option linter.unusedVariables false
set_option linter.unusedSimpArgs false
namespace Go.Proofs.Ythngkopcadlciaa
open Go.RowKit
attribute [local irreducible] AC AR DWalk
def rNone14  : Iv := rNone
set_option maxRecDepth 100000 in
theorem c_rNone14  : Gets Try.prog 91 #[] (Iv.v rNone14) := by
 refine gets_fin Try.func91 rfl rfl rfl (aQ (aL (ao 0 rfl rfl (st_new zero26 rfl fun g0 => (aN (aQ (aL (aC 1 c_rNone Try.func111 ⟨rfl, by decide⟩ rfl rfl (aS [.int .i64 rNone.lo, .int .i64 rNone.hi, .bool rNone.no] agg26 0 rfl rfl rfl rfl rfl rfl (aN (ac_ret (fin_eq (v := .agg #[.int .i64 rNone.lo, .int .i64 rNone.hi, .bool rNone.no]) rfl (fin_ret (res_c (vs := [.int .i64 rNone.lo, .int .i64 rNone.hi, .bool rNone.no]) agg26 0 rfl rfl rfl rfl rfl rfl))))))))))))))
def rSag_e0 (s : Surf) (r2 : Iv) : Iv := (rSub (rPoint 65536) (rMulIv (rMulIv s.conic (rSqr s.curve)) r2))
def rSag_e1 (s : Surf) (r2 : Iv) : Iv := (rDivIv (rMulIv s.curve r2) (rAdd (rPoint 65536) (rRootIv (rSag_e0 s r2))))
def rSag_b0 (s : Surf) (r2 : Iv) (g : Nat) : Box := ⟨g, [.int .i64 ((rPoint 0).lo), .int .i64 ((rPoint 0).hi), .bool ((rPoint 0).no), .int .i64 ((rPoint 0).lo), .int .i64 ((rPoint 0).hi), .bool ((rPoint 0).no), .int .i64 s.a4.lo, .int .i64 s.a4.hi, .bool s.a4.no, .int .i64 s.a6.lo, .int .i64 s.a6.hi, .bool s.a6.no], 26, false⟩
def rSag_b1 (s : Surf) (r2 : Iv) (g : Nat) : Box := ⟨g, [.int .i64 ((rDivIv r2 (rWhole 1000)).lo), .int .i64 ((rDivIv r2 (rWhole 1000)).hi), .bool ((rDivIv r2 (rWhole 1000)).no)], 26, false⟩
def rSag_b2 (s : Surf) (r2 : Iv) (g : Nat) : Box := ⟨g, [.int .i64 ((rDivIv s.curve (rTimes (rRootIv (rSag_e0 s r2)) 2)).lo), .int .i64 ((rDivIv s.curve (rTimes (rRootIv (rSag_e0 s r2)) 2)).hi), .bool ((rDivIv s.curve (rTimes (rRootIv (rSag_e0 s r2)) 2)).no)], 26, false⟩
def rSag_b3 (s : Surf) (r2 : Iv) (g : Nat) : Box := ⟨g, [.int .i64 ((rSag_e1 s r2).lo), .int .i64 ((rSag_e1 s r2).hi), .bool ((rSag_e1 s r2).no)], 26, false⟩
def rSag_b4 (s : Surf) (r2 : Iv) (g : Nat) : Box := ⟨g, [.int .i64 ((rRootIv (rSag_e0 s r2)).lo), .int .i64 ((rRootIv (rSag_e0 s r2)).hi), .bool ((rRootIv (rSag_e0 s r2)).no)], 26, false⟩
def rSag_b5 (s : Surf) (r2 : Iv) (g : Nat) : Box := ⟨g, [.int .i64 ((rPoint 65536).lo), .int .i64 ((rPoint 65536).hi), .bool ((rPoint 65536).no)], 26, false⟩
def rSag_b6 (s : Surf) (r2 : Iv) (g : Nat) : Box := ⟨g, [.bool s.stop, .bool s.bent, .int .i64 s.curve.lo, .int .i64 s.curve.hi, .bool s.curve.no, .int .i64 s.conic.lo, .int .i64 s.conic.hi, .bool s.conic.no, .int .i64 s.a4.lo, .int .i64 s.a4.hi, .bool s.a4.no, .int .i64 s.a6.lo, .int .i64 s.a6.hi, .bool s.a6.no, .int .i64 s.at_.lo, .int .i64 s.at_.hi, .bool s.at_.no, .int .i64 s.open2.lo, .int .i64 s.open2.hi, .bool s.open2.no, .int .i64 s.ratio.lo, .int .i64 s.ratio.hi, .bool s.ratio.no], 41, false⟩
def rSag_e2 (s : Surf) (r2 : Iv) : Iv := (rHorner4 (rPoint 0) (rPoint 0) s.a4 s.a6 (rDivIv r2 (rWhole 1000)))
def rSag_b7 (s : Surf) (r2 : Iv) (g : Nat) : Box := ⟨g, [.int .i64 ((rPoint 0).lo), .int .i64 ((rPoint 0).hi), .bool ((rPoint 0).no), .int .i64 ((rPoint 0).lo), .int .i64 ((rPoint 0).hi), .bool ((rPoint 0).no), .int .i64 s.a4.lo, .int .i64 s.a4.hi, .bool s.a4.no, .int .i64 s.a6.lo, .int .i64 s.a6.hi, .bool s.a6.no], 26, true⟩
def rSag_e3 (s : Surf) (r2 : Iv) : Iv := (rHorner3 (rTimes (rPoint 0) 1) (rTimes s.a4 2) (rTimes s.a6 3) (rDivIv r2 (rWhole 1000)))
def rSag_e4 (s : Surf) (r2 : Iv) : Iv := (rAdd (rDivIv s.curve (rTimes (rRootIv (rSag_e0 s r2)) 2)) (rDivIv (rSag_e3 s r2) (rWhole 1000)))
def rSag_b8 (s : Surf) (r2 : Iv) (g : Nat) : Box := ⟨g, [.int .i64 ((rSag_e4 s r2).lo), .int .i64 ((rSag_e4 s r2).hi), .bool ((rSag_e4 s r2).no)], 26, false⟩
def rSag_b9 (s : Surf) (r2 : Iv) (g : Nat) : Box := ⟨g, [.int .i64 ((rAdd (rSag_e1 s r2) (rSag_e2 s r2)).lo), .int .i64 ((rAdd (rSag_e1 s r2) (rSag_e2 s r2)).hi), .bool ((rAdd (rSag_e1 s r2) (rSag_e2 s r2)).no)], 26, false⟩
def rSag_e5 (s : Surf) (r2 : Iv) : Bool := (rRight (rDivIv s.curve (rTimes (rRootIv (rSag_e0 s r2)) 2)))
def rSag (s : Surf) (r2 : Iv) : Iv × Iv := (bif s.bent then (bif rRight (rAdd (rSag_e1 s r2) (rSag_e2 s r2)) then (bif rRight (rSag_e4 s r2) then ((rAdd (rSag_e1 s r2) (rSag_e2 s r2)), (rSag_e4 s r2)) else (rNone14, rNone14)) else (rNone14, rNone14)) else (bif rRight (rSag_e1 s r2) then (bif rSag_e5 s r2 then ((rSag_e1 s r2), (rDivIv s.curve (rTimes (rRootIv (rSag_e0 s r2)) 2))) else (rNone14, rNone14)) else (rNone14, rNone14)))
set_option maxRecDepth 100000 in
set_option maxHeartbeats 4000000 in
theorem c_rSag (s : Surf) (r2 : Iv) : Gets Try.prog 38 #[.agg #[.bool s.stop, .bool s.bent, .int .i64 s.curve.lo, .int .i64 s.curve.hi, .bool s.curve.no, .int .i64 s.conic.lo, .int .i64 s.conic.hi, .bool s.conic.no, .int .i64 s.a4.lo, .int .i64 s.a4.hi, .bool s.a4.no, .int .i64 s.a6.lo, .int .i64 s.a6.hi, .bool s.a6.no, .int .i64 s.at_.lo, .int .i64 s.at_.hi, .bool s.at_.no, .int .i64 s.open2.lo, .int .i64 s.open2.hi, .bool s.open2.no, .int .i64 s.ratio.lo, .int .i64 s.ratio.hi, .bool s.ratio.no], .agg #[.int .i64 r2.lo, .int .i64 r2.hi, .bool r2.no]] ((fun (r : Iv × Iv) => (.tuple #[.agg #[.int .i64 r.1.lo, .int .i64 r.1.hi, .bool r.1.no], .agg #[.int .i64 r.2.lo, .int .i64 r.2.hi, .bool r.2.no]] : Value)) (rSag s r2)) := by
 refine gets_fin Try.func38 rfl rfl rfl (aQ (aL ?_))
 refine ao 2 rfl rfl (st_box (v := .agg #[.bool s.stop, .bool s.bent, .int .i64 s.curve.lo, .int .i64 s.curve.hi, .bool s.curve.no, .int .i64 s.conic.lo, .int .i64 s.conic.hi, .bool s.conic.no, .int .i64 s.a4.lo, .int .i64 s.a4.hi, .bool s.a4.no, .int .i64 s.a6.lo, .int .i64 s.a6.hi, .bool s.a6.no, .int .i64 s.at_.lo, .int .i64 s.at_.hi, .bool s.at_.no, .int .i64 s.open2.lo, .int .i64 s.open2.hi, .bool s.open2.no, .int .i64 s.ratio.lo, .int .i64 s.ratio.hi, .bool s.ratio.no]) (cs := [.bool s.stop, .bool s.bent, .int .i64 s.curve.lo, .int .i64 s.curve.hi, .bool s.curve.no, .int .i64 s.conic.lo, .int .i64 s.conic.hi, .bool s.conic.no, .int .i64 s.a4.lo, .int .i64 s.a4.hi, .bool s.a4.no, .int .i64 s.a6.lo, .int .i64 s.a6.hi, .bool s.a6.no, .int .i64 s.at_.lo, .int .i64 s.at_.hi, .bool s.at_.no, .int .i64 s.open2.lo, .int .i64 s.open2.hi, .bool s.open2.no, .int .i64 s.ratio.lo, .int .i64 s.ratio.hi, .bool s.ratio.no]) rfl rfl rfl fun g0 => ?_)
 refine ao 3 rfl rfl (st_box (v := .agg #[.int .i64 r2.lo, .int .i64 r2.hi, .bool r2.no]) (cs := [.int .i64 r2.lo, .int .i64 r2.hi, .bool r2.no]) rfl rfl rfl fun g1 => (ao 4 rfl rfl (st_new zero26 rfl fun g2 => (ao 5 rfl rfl (st_new zero26 rfl fun g3 => (aN (aQ (aL (aC 12 (c_rPoint 65536) Try.func80 ⟨rfl, by decide⟩ rfl rfl (ao 6 rfl rfl (st_new zero26 rfl fun g4 => (aS [.int .i64 ((rPoint 65536).lo), .int .i64 ((rPoint 65536).hi), .bool ((rPoint 65536).no)] agg26 0 rfl rfl rfl rfl rfl rfl (aN (aQ ?_))))))))))))))
 refine ac_draw1 (id := 2) [0, 1, 2, 3, 4, 5, 6, 7, 8, 9, 10] [12] 11 7 26 _ _ (by kernel_rfl) follows rfl zero26 ⟨_, rfl, rfl, rfl, rfl⟩ (dw_op (d := some 13) _ rfl rfl rfl (st_lda (vs := [.int .i64 ((rPoint 65536).lo), .int .i64 ((rPoint 65536).hi), .bool ((rPoint 65536).no)]) agg26 0 rfl rfl rfl rfl rfl rfl ⟨rfl, rfl⟩) (dw_op (d := some 14) _ rfl rfl rfl (st_fa rfl fa41_3 rfl ⟨rfl, rfl⟩) (dw_op (d := some 15) _ rfl rfl rfl (st_lda (vs := [.int .i64 s.conic.lo, .int .i64 s.conic.hi, .bool s.conic.no]) agg26 4 rfl rfl rfl rfl rfl rfl ⟨rfl, rfl⟩) (dw_op (d := some 16) _ rfl rfl rfl (st_fa rfl fa41_2 rfl ⟨rfl, rfl⟩) ?_))))
 refine dw_op (d := some 17) _ rfl rfl rfl (st_lda (vs := [.int .i64 s.curve.lo, .int .i64 s.curve.hi, .bool s.curve.no]) agg26 4 rfl rfl rfl rfl rfl rfl ⟨rfl, rfl⟩) (dw_op (d := some 18) _ rfl rfl rfl (st_cf (c_rSqr s.curve) Try.func84 rfl (by decide) rfl rfl rfl ⟨rfl, rfl⟩) (dw_op (d := some 19) _ rfl rfl rfl (st_cf (c_rMulIv s.conic (rSqr s.curve)) Try.func83 rfl (by decide) rfl rfl rfl ⟨rfl, rfl⟩) (dw_op (d := some 20) _ rfl rfl rfl (st_lda (vs := [.int .i64 r2.lo, .int .i64 r2.hi, .bool r2.no]) agg26 3 rfl rfl rfl rfl rfl rfl ⟨rfl, rfl⟩) ?_)))
 refine dw_op (d := some 21) _ rfl rfl rfl (st_cf (c_rMulIv (rMulIv s.conic (rSqr s.curve)) r2) Try.func83 rfl (by decide) rfl rfl rfl ⟨rfl, rfl⟩) (dw_op (d := some 22) _ rfl rfl rfl (st_cf (c_rSub (rPoint 65536) (rMulIv (rMulIv s.conic (rSqr s.curve)) r2)) Try.func82 rfl (by decide) rfl rfl rfl ⟨rfl, rfl⟩) (dw_op (d := some 23) _ rfl rfl rfl (st_cf (c_rRootIv (rSag_e0 s r2)) Try.func81 rfl (by decide) rfl rfl rfl ⟨rfl, rfl⟩) (dw_nil ?_)))
 intro g5
 refine aS [.int .i64 ((rRootIv (rSag_e0 s r2)).lo), .int .i64 ((rRootIv (rSag_e0 s r2)).hi), .bool ((rRootIv (rSag_e0 s r2)).no)] agg26 0 rfl rfl rfl rfl rfl rfl (aN (aQ ?_))
 refine ac_draw1 (id := 3) [0, 1, 2, 3, 4, 5, 6, 7] [9] 8 8 26 _ _ (by kernel_rfl) follows rfl zero26 ⟨_, rfl, rfl, rfl, rfl⟩ (dw_op (d := some 24) _ rfl rfl rfl (st_fa rfl fa41_2 rfl ⟨rfl, rfl⟩) (dw_op (d := some 25) _ rfl rfl rfl (st_lda (vs := [.int .i64 s.curve.lo, .int .i64 s.curve.hi, .bool s.curve.no]) agg26 5 rfl rfl rfl rfl rfl rfl ⟨rfl, rfl⟩) (dw_op (d := some 26) _ rfl rfl rfl (st_lda (vs := [.int .i64 r2.lo, .int .i64 r2.hi, .bool r2.no]) agg26 4 rfl rfl rfl rfl rfl rfl ⟨rfl, rfl⟩) (dw_op (d := some 27) _ rfl rfl rfl (st_cf (c_rMulIv s.curve r2) Try.func83 rfl (by decide) rfl rfl rfl ⟨rfl, rfl⟩) ?_))))
 refine dw_op (d := some 28) _ rfl rfl rfl (st_lda (vs := [.int .i64 ((rPoint 65536).lo), .int .i64 ((rPoint 65536).hi), .bool ((rPoint 65536).no)]) agg26 1 rfl rfl rfl rfl rfl rfl ⟨rfl, rfl⟩) (dw_op (d := some 29) _ rfl rfl rfl (st_lda (vs := [.int .i64 ((rRootIv (rSag_e0 s r2)).lo), .int .i64 ((rRootIv (rSag_e0 s r2)).hi), .bool ((rRootIv (rSag_e0 s r2)).no)]) agg26 0 rfl rfl rfl rfl rfl rfl ⟨rfl, rfl⟩) (dw_op (d := some 30) _ rfl rfl rfl (st_cf (c_rAdd (rPoint 65536) (rRootIv (rSag_e0 s r2))) Try.func86 rfl (by decide) rfl rfl rfl ⟨rfl, rfl⟩) ?_))
 refine dw_op (d := some 31) _ rfl rfl rfl (st_cf (c_rDivIv (rMulIv s.curve r2) (rAdd (rPoint 65536) (rRootIv (rSag_e0 s r2)))) Try.func85 rfl (by decide) rfl rfl rfl ⟨rfl, rfl⟩) (dw_nil ?_)
 intro g6
 refine aS [.int .i64 ((rSag_e1 s r2).lo), .int .i64 ((rSag_e1 s r2).hi), .bool ((rSag_e1 s r2).no)] agg26 0 rfl rfl rfl rfl rfl rfl (aN (aQ ?_))
 refine ac_draw1 (id := 4) [0, 1, 2, 3, 4] [6] 5 9 26 _ _ (by kernel_rfl) follows rfl zero26 ⟨_, rfl, rfl, rfl, rfl⟩ (dw_op (d := some 32) _ rfl rfl rfl (st_fa rfl fa41_2 rfl ⟨rfl, rfl⟩) (dw_op (d := some 33) _ rfl rfl rfl (st_lda (vs := [.int .i64 s.curve.lo, .int .i64 s.curve.hi, .bool s.curve.no]) agg26 6 rfl rfl rfl rfl rfl rfl ⟨rfl, rfl⟩) (dw_op (d := some 34) _ rfl rfl rfl (st_lda (vs := [.int .i64 ((rRootIv (rSag_e0 s r2)).lo), .int .i64 ((rRootIv (rSag_e0 s r2)).hi), .bool ((rRootIv (rSag_e0 s r2)).no)]) agg26 1 rfl rfl rfl rfl rfl rfl ⟨rfl, rfl⟩) ?_)))
 refine dw_op (d := some 35) _ rfl rfl rfl (st_cf (c_rTimes (rRootIv (rSag_e0 s r2)) 2) Try.func87 rfl (by decide) rfl rfl rfl ⟨rfl, rfl⟩) (dw_op (d := some 36) _ rfl rfl rfl (st_cf (c_rDivIv s.curve (rTimes (rRootIv (rSag_e0 s r2)) 2)) Try.func85 rfl (by decide) rfl rfl rfl ⟨rfl, rfl⟩) (dw_nil ?_))
 intro g7
 refine aS [.int .i64 ((rDivIv s.curve (rTimes (rRootIv (rSag_e0 s r2)) 2)).lo), .int .i64 ((rDivIv s.curve (rTimes (rRootIv (rSag_e0 s r2)) 2)).hi), .bool ((rDivIv s.curve (rTimes (rRootIv (rSag_e0 s r2)) 2)).no)] agg26 0 rfl rfl rfl rfl rfl rfl (aN (aQ (aQ (aL (aF 37 fa41_1 rfl rfl (aD 38 (.bool s.bent) cell4 7 rfl rfl rfl rfl (aN ?_)))))))
 refine bool_split (s.bent) (fun h1 => ?_) (fun h1 => ?_)
 ·refine ac_then' (b := s.bent) h1 rfl (aQ ?_)
  refine ac_draw1 (id := 6) [0, 1, 2] [4] 3 10 26 _ _ (by kernel_rfl) follows rfl zero26 ⟨_, rfl, rfl, rfl, rfl⟩ (dw_op (d := some 39) _ rfl rfl rfl (st_lda (vs := [.int .i64 r2.lo, .int .i64 r2.hi, .bool r2.no]) agg26 6 rfl rfl rfl rfl rfl rfl ⟨rfl, rfl⟩) (dw_op (d := some 40) _ rfl rfl rfl (st_cf (c_rWhole 1000) Try.func88 rfl (by decide) rfl rfl rfl ⟨rfl, rfl⟩) (dw_op (d := some 41) _ rfl rfl rfl (st_cf (c_rDivIv r2 (rWhole 1000)) Try.func85 rfl (by decide) rfl rfl rfl ⟨rfl, rfl⟩) (dw_nil ?_))))
  intro g8
  refine aS [.int .i64 ((rDivIv r2 (rWhole 1000)).lo), .int .i64 ((rDivIv r2 (rWhole 1000)).hi), .bool ((rDivIv r2 (rWhole 1000)).no)] agg26 0 rfl rfl rfl rfl rfl rfl (aN (aQ ?_))
  refine ac_env fun E1 hE1 => ?_
  have q2 : E1 2 = .pointer (some ⟨g0, 0, none⟩) := by rw [hE1]; rfl
  have q4 : E1 4 = .pointer (some ⟨g2, 0, none⟩) := by rw [hE1]; rfl
  have q5 : E1 5 = .pointer (some ⟨g3, 0, none⟩) := by rw [hE1]; rfl
  have q8 : E1 8 = .pointer (some ⟨g6, 0, none⟩) := by rw [hE1]; rfl
  have q9 : E1 9 = .pointer (some ⟨g7, 0, none⟩) := by rw [hE1]; rfl
  have q10 : E1 10 = .pointer (some ⟨g8, 0, none⟩) := by rw [hE1]; rfl
  clear hE1
  obtain ⟨E0, rfl⟩ : ∃ E0 : Env, E1 = ((((((E0.put (some 2) (.pointer (some ⟨g0, 0, none⟩))).put (some 4) (.pointer (some ⟨g2, 0, none⟩))).put (some 5) (.pointer (some ⟨g3, 0, none⟩))).put (some 8) (.pointer (some ⟨g6, 0, none⟩))).put (some 9) (.pointer (some ⟨g7, 0, none⟩))).put (some 10) (.pointer (some ⟨g8, 0, none⟩))) := ⟨E1, by rw [put_self q2, put_self q4, put_self q5, put_self q8, put_self q9, put_self q10]⟩
  refine ac_stage follows [6, 7] [2, 4, 5, 8, 9, 10] ((((((((((((E0.put (some 2) (.pointer (some ⟨g0, 0, none⟩))).put (some 4) (.pointer (some ⟨g2, 0, none⟩))).put (some 5) (.pointer (some ⟨g3, 0, none⟩))).put (some 8) (.pointer (some ⟨g6, 0, none⟩))).put (some 9) (.pointer (some ⟨g7, 0, none⟩))).put (some 10) (.pointer (some ⟨g8, 0, none⟩))).put (some 42) (.agg #[.int .i64 ((rPoint 0).lo), .int .i64 ((rPoint 0).hi), .bool ((rPoint 0).no)])).put (some 43) (.agg #[.int .i64 ((rPoint 0).lo), .int .i64 ((rPoint 0).hi), .bool ((rPoint 0).no)])).put (some 44) (.pointer (some ⟨g0, 8, none⟩))).put (some 45) (.agg #[.int .i64 s.a4.lo, .int .i64 s.a4.hi, .bool s.a4.no])).put (some 46) (.pointer (some ⟨g0, 11, none⟩))).put (some 47) (.agg #[.int .i64 s.a6.lo, .int .i64 s.a6.hi, .bool s.a6.no])) (fun Sg Dn stepR doneR => ?_) ⟨rfl, rfl, rfl, rfl, rfl, rfl, trivial⟩
  refine ((fun st7_fin => ?_) : (∀ (E : Env) (b7_6 : Nat), E 4 = .pointer (some ⟨g2, 0, none⟩) → E 5 = .pointer (some ⟨g3, 0, none⟩) → E 8 = .pointer (some ⟨g6, 0, none⟩) → E 9 = .pointer (some ⟨g7, 0, none⟩) → E 10 = .pointer (some ⟨g8, 0, none⟩) → E 11 = .slice (some ⟨b7_6, 0, none⟩) 4 4 → Dn E ([(rSag_b0 s r2 b7_6), (rSag_b1 s r2 g8), (rSag_b2 s r2 g7), (rSag_b3 s r2 g6), (rSag_b4 s r2 g5), (rSag_b5 s r2 g4), ⟨g3, [.int .i64 0, .int .i64 0, .bool false], 26, false⟩, ⟨g2, [.int .i64 0, .int .i64 0, .bool false], 26, false⟩, ⟨g1, [.int .i64 r2.lo, .int .i64 r2.hi, .bool r2.no], 26, false⟩, (rSag_b6 s r2 g0)])) → _) ?_
  ·have st7_2 : ∀ (_u : Unit) (b7_6 : Nat), Sg [7, 6] [0, 1, 2, 3, 4, 5] ((((((((((((((E0.put (some 2) (.pointer (some ⟨g0, 0, none⟩))).put (some 4) (.pointer (some ⟨g2, 0, none⟩))).put (some 5) (.pointer (some ⟨g3, 0, none⟩))).put (some 8) (.pointer (some ⟨g6, 0, none⟩))).put (some 9) (.pointer (some ⟨g7, 0, none⟩))).put (some 10) (.pointer (some ⟨g8, 0, none⟩))).put (some 11) (.slice (some ⟨b7_6, 0, none⟩) 4 4)).put (some 42) (.agg #[.int .i64 ((rPoint 0).lo), .int .i64 ((rPoint 0).hi), .bool ((rPoint 0).no)])).put (some 43) (.agg #[.int .i64 ((rPoint 0).lo), .int .i64 ((rPoint 0).hi), .bool ((rPoint 0).no)])).put (some 44) (.pointer (some ⟨g0, 8, none⟩))).put (some 45) (.agg #[.int .i64 s.a4.lo, .int .i64 s.a4.hi, .bool s.a4.no])).put (some 46) (.pointer (some ⟨g0, 11, none⟩))).put (some 47) (.agg #[.int .i64 s.a6.lo, .int .i64 s.a6.hi, .bool s.a6.no])).put (some 48) (.slice (some ⟨b7_6, 0, none⟩) 4 4)) ([(rSag_b0 s r2 b7_6), (rSag_b1 s r2 g8), (rSag_b2 s r2 g7), (rSag_b3 s r2 g6), (rSag_b4 s r2 g5), (rSag_b5 s r2 g4), ⟨g3, [.int .i64 0, .int .i64 0, .bool false], 26, false⟩, ⟨g2, [.int .i64 0, .int .i64 0, .bool false], 26, false⟩, ⟨g1, [.int .i64 r2.lo, .int .i64 r2.hi, .bool r2.no], 26, false⟩, (rSag_b6 s r2 g0)]) := by
    intro _u b7_6
    refine stepR [7, 6] [0, 1, 2, 3, 4, 5] _ _ [] [] [] [2, 4, 5, 8, 9, 10, 42, 43, 44, 45, 46, 47, 11, 48] (by kernel_rfl) (by kernel_rfl) trivial trivial (fun _ E hE => ?_)
    ·obtain ⟨w0_2, w1_4, w2_5, w3_8, w4_9, w5_10, w6_42, w7_43, w8_44, w9_45, w10_46, w11_47, w12_11, w13_48, _⟩ := hE
     exact st7_fin E _ w1_4 w2_5 w3_8 w4_9 w5_10 w12_11
   have st7_1 : ∀ (_u : Unit) (b7_6 : Nat), Sg [6] [0, 1, 2, 3, 4, 5] (((((((((((((E0.put (some 2) (.pointer (some ⟨g0, 0, none⟩))).put (some 4) (.pointer (some ⟨g2, 0, none⟩))).put (some 5) (.pointer (some ⟨g3, 0, none⟩))).put (some 8) (.pointer (some ⟨g6, 0, none⟩))).put (some 9) (.pointer (some ⟨g7, 0, none⟩))).put (some 10) (.pointer (some ⟨g8, 0, none⟩))).put (some 42) (.agg #[.int .i64 ((rPoint 0).lo), .int .i64 ((rPoint 0).hi), .bool ((rPoint 0).no)])).put (some 43) (.agg #[.int .i64 ((rPoint 0).lo), .int .i64 ((rPoint 0).hi), .bool ((rPoint 0).no)])).put (some 44) (.pointer (some ⟨g0, 8, none⟩))).put (some 45) (.agg #[.int .i64 s.a4.lo, .int .i64 s.a4.hi, .bool s.a4.no])).put (some 46) (.pointer (some ⟨g0, 11, none⟩))).put (some 47) (.agg #[.int .i64 s.a6.lo, .int .i64 s.a6.hi, .bool s.a6.no])).put (some 48) (.slice (some ⟨b7_6, 0, none⟩) 4 4)) ([(rSag_b0 s r2 b7_6), (rSag_b1 s r2 g8), (rSag_b2 s r2 g7), (rSag_b3 s r2 g6), (rSag_b4 s r2 g5), (rSag_b5 s r2 g4), ⟨g3, [.int .i64 0, .int .i64 0, .bool false], 26, false⟩, ⟨g2, [.int .i64 0, .int .i64 0, .bool false], 26, false⟩, ⟨g1, [.int .i64 r2.lo, .int .i64 r2.hi, .bool r2.no], 26, false⟩, (rSag_b6 s r2 g0)]) := by
    intro _u b7_6
    refine stepR [6] [0, 1, 2, 3, 4, 5] _ _ [] [7] [] [2, 4, 5, 8, 9, 10, 42, 43, 44, 45, 46, 47, 48] (by kernel_rfl) (by kernel_rfl) trivial ⟨?_, trivial⟩ (fun h => by cases h)
    ·refine opR_op (d := (some 11)) rfl rfl rfl (st_assign (v := .slice (some ⟨b7_6, 0, none⟩) 4 4) rfl rfl ?_)
     exact ⟨_, _, _, _, st7_2 () _, (List.Perm.refl _), by kernel_rfl, [2, 4, 5, 8, 9, 10, 42, 43, 44, 45, 46, 47, 48, 11], by kernel_rfl, ⟨rfl, rfl, rfl, rfl, rfl, rfl, rfl, rfl, rfl, rfl, rfl, rfl, rfl, rfl, trivial⟩, by kernel_rfl⟩
   refine stepR [] [] _ _ [0, 1, 2, 3, 4, 5] [6] [7] [2, 4, 5, 8, 9, 10, 42, 43, 44, 45, 46, 47] (by kernel_rfl) (by kernel_rfl) ⟨?_, ?_, ?_, ?_, ?_, ?_, trivial⟩ ⟨?_, trivial⟩ (fun h => by cases h)
   ·exact tf_op (d := 42) (.agg #[.int .i64 ((rPoint 0).lo), .int .i64 ((rPoint 0).hi), .bool ((rPoint 0).no)]) rfl rfl rfl (st_cf (c_rPoint 0) Try.func80 rfl (by decide) rfl rfl rfl ⟨rfl, rfl⟩) rfl
   ·exact tf_op (d := 43) (.agg #[.int .i64 ((rPoint 0).lo), .int .i64 ((rPoint 0).hi), .bool ((rPoint 0).no)]) rfl rfl rfl (st_cf (c_rPoint 0) Try.func80 rfl (by decide) rfl rfl rfl ⟨rfl, rfl⟩) rfl
   ·exact tf_op (d := 44) (.pointer (some ⟨g0, 8, none⟩)) rfl rfl rfl (st_fa rfl fa41_4 rfl ⟨rfl, rfl⟩) rfl
   ·exact tf_op (d := 45) (.agg #[.int .i64 s.a4.lo, .int .i64 s.a4.hi, .bool s.a4.no]) rfl rfl rfl (st_lda (vs := [.int .i64 s.a4.lo, .int .i64 s.a4.hi, .bool s.a4.no]) agg26 8 rfl rfl rfl rfl rfl rfl ⟨rfl, rfl⟩) rfl
   ·exact tf_op (d := 46) (.pointer (some ⟨g0, 11, none⟩)) rfl rfl rfl (st_fa rfl fa41_5 rfl ⟨rfl, rfl⟩) rfl
   ·exact tf_op (d := 47) (.agg #[.int .i64 s.a6.lo, .int .i64 s.a6.hi, .bool s.a6.no]) rfl rfl rfl (st_lda (vs := [.int .i64 s.a6.lo, .int .i64 s.a6.hi, .bool s.a6.no]) agg26 8 rfl rfl rfl rfl rfl rfl ⟨rfl, rfl⟩) rfl
   ·refine opR_op (d := (some 48)) rfl rfl rfl (st_bs (us := [(0, .agg #[.int .i64 ((rPoint 0).lo), .int .i64 ((rPoint 0).hi), .bool ((rPoint 0).no)]), (1, .agg #[.int .i64 ((rPoint 0).lo), .int .i64 ((rPoint 0).hi), .bool ((rPoint 0).no)]), (2, .agg #[.int .i64 s.a4.lo, .int .i64 s.a4.hi, .bool s.a4.no]), (3, .agg #[.int .i64 s.a6.lo, .int .i64 s.a6.hi, .bool s.a6.no])]) (cs := [.int .i64 ((rPoint 0).lo), .int .i64 ((rPoint 0).hi), .bool ((rPoint 0).no), .int .i64 ((rPoint 0).lo), .int .i64 ((rPoint 0).hi), .bool ((rPoint 0).no), .int .i64 s.a4.lo, .int .i64 s.a4.hi, .bool s.a4.no, .int .i64 s.a6.lo, .int .i64 s.a6.hi, .bool s.a6.no]) rfl rfl (bs24_4_0a_1a_2a_3a _ _ _ _ _ _ _ _ _ _ _ _) fun b7_6 => ?_)
    exact ⟨_, _, _, _, st7_1 () _, (List.Perm.refl _), by kernel_rfl, [2, 4, 5, 8, 9, 10, 42, 43, 44, 45, 46, 47, 48], by kernel_rfl, ⟨rfl, rfl, rfl, rfl, rfl, rfl, rfl, rfl, rfl, rfl, rfl, rfl, rfl, trivial⟩, by kernel_rfl⟩
  intro E b7_6 q4 q5 q8 q9 q10 q11
  obtain ⟨E0, rfl⟩ : ∃ E0 : Env, E = ((((((E0.put (some 4) (.pointer (some ⟨g2, 0, none⟩))).put (some 5) (.pointer (some ⟨g3, 0, none⟩))).put (some 8) (.pointer (some ⟨g6, 0, none⟩))).put (some 9) (.pointer (some ⟨g7, 0, none⟩))).put (some 10) (.pointer (some ⟨g8, 0, none⟩))).put (some 11) (.slice (some ⟨b7_6, 0, none⟩) 4 4)) := ⟨E, by rw [put_self q4, put_self q5, put_self q8, put_self q9, put_self q10, put_self q11]⟩
  refine doneR _ _ (aQ ?_)
  refine ac_draw0 (id := 8) [0, 1, 2, 3, 4] [5] _ (by kernel_rfl) follows rfl  (dw_op (d := some 49) _ rfl rfl rfl (st_lda (vs := [.int .i64 ((rSag_e1 s r2).lo), .int .i64 ((rSag_e1 s r2).hi), .bool ((rSag_e1 s r2).no)]) agg26 3 rfl rfl rfl rfl rfl rfl ⟨rfl, rfl⟩) (dw_op (d := some 50) _ rfl rfl rfl (st_move (v := .slice (some ⟨b7_6, 0, none⟩) 4 4) rfl rfl ⟨rfl, rfl⟩) (dw_op (d := some 51) _ rfl rfl rfl (st_lda (vs := [.int .i64 ((rDivIv r2 (rWhole 1000)).lo), .int .i64 ((rDivIv r2 (rWhole 1000)).hi), .bool ((rDivIv r2 (rWhole 1000)).no)]) agg26 1 rfl rfl rfl rfl rfl rfl ⟨rfl, rfl⟩) ?_)))
  refine dw_op (d := some 52) _ rfl rfl rfl (st_gr (R := [(rSag_b7 s r2 b7_6)]) (r := .agg #[.int .i64 ((rSag_e2 s r2).lo), .int .i64 ((rSag_e2 s r2).hi), .bool ((rSag_e2 s r2).no)]) (c_rHorner4 (rPoint 0) (rPoint 0) s.a4 s.a6 (rDivIv r2 (rWhole 1000)) b7_6 4 ([])) Try.func89 rfl (by decide) rfl rfl rfl (has_cons 0 _ rfl rfl rfl rfl has_nil) (by simp) ⟨rfl, rfl⟩) (dw_op (d := some 53) _ rfl rfl rfl (st_cf (c_rAdd (rSag_e1 s r2) (rSag_e2 s r2)) Try.func86 rfl (by decide) rfl rfl rfl ⟨rfl, rfl⟩) (dw_nil ?_))
  refine aS [.int .i64 ((rAdd (rSag_e1 s r2) (rSag_e2 s r2)).lo), .int .i64 ((rAdd (rSag_e1 s r2) (rSag_e2 s r2)).hi), .bool ((rAdd (rSag_e1 s r2) (rSag_e2 s r2)).no)] agg26 3 rfl rfl rfl rfl rfl rfl (aN ?_)
  refine ac_env fun E1 hE1 => ?_
  have q4 : E1 4 = .pointer (some ⟨g2, 0, none⟩) := by rw [hE1]; rfl
  have q5 : E1 5 = .pointer (some ⟨g3, 0, none⟩) := by rw [hE1]; rfl
  have q8 : E1 8 = .pointer (some ⟨g6, 0, none⟩) := by rw [hE1]; rfl
  have q9 : E1 9 = .pointer (some ⟨g7, 0, none⟩) := by rw [hE1]; rfl
  have q10 : E1 10 = .pointer (some ⟨g8, 0, none⟩) := by rw [hE1]; rfl
  have q11 : E1 11 = .slice (some ⟨b7_6, 0, none⟩) 4 4 := by rw [hE1]; rfl
  clear hE1
  obtain ⟨E0, rfl⟩ : ∃ E0 : Env, E1 = ((((((E0.put (some 4) (.pointer (some ⟨g2, 0, none⟩))).put (some 5) (.pointer (some ⟨g3, 0, none⟩))).put (some 8) (.pointer (some ⟨g6, 0, none⟩))).put (some 9) (.pointer (some ⟨g7, 0, none⟩))).put (some 10) (.pointer (some ⟨g8, 0, none⟩))).put (some 11) (.slice (some ⟨b7_6, 0, none⟩) 4 4)) := ⟨E1, by rw [put_self q4, put_self q5, put_self q8, put_self q9, put_self q10, put_self q11]⟩
  refine ac_stage follows [2, 4, 8] [4, 5, 8, 9, 10, 11] (((((((((E0.put (some 4) (.pointer (some ⟨g2, 0, none⟩))).put (some 5) (.pointer (some ⟨g3, 0, none⟩))).put (some 8) (.pointer (some ⟨g6, 0, none⟩))).put (some 9) (.pointer (some ⟨g7, 0, none⟩))).put (some 10) (.pointer (some ⟨g8, 0, none⟩))).put (some 11) (.slice (some ⟨b7_6, 0, none⟩) 4 4)).put (some 54) (.agg #[.int .i64 ((rDivIv s.curve (rTimes (rRootIv (rSag_e0 s r2)) 2)).lo), .int .i64 ((rDivIv s.curve (rTimes (rRootIv (rSag_e0 s r2)) 2)).hi), .bool ((rDivIv s.curve (rTimes (rRootIv (rSag_e0 s r2)) 2)).no)])).put (some 55) (.slice (some ⟨b7_6, 0, none⟩) 4 4)).put (some 57) (.agg #[.int .i64 ((rDivIv r2 (rWhole 1000)).lo), .int .i64 ((rDivIv r2 (rWhole 1000)).hi), .bool ((rDivIv r2 (rWhole 1000)).no)])) (fun Sg Dn stepR doneR => ?_) ⟨rfl, rfl, rfl, rfl, rfl, rfl, trivial⟩
  refine ((fun st9_fin => ?_) : (∀ (E : Env) (b9_2 : Nat) (cb9_2 : Nat) (rb9_2 : List Value), ([.int .i64 ((rTimes (rPoint 0) 1).lo), .int .i64 ((rTimes (rPoint 0) 1).hi), .bool ((rTimes (rPoint 0) 1).no), .int .i64 ((rTimes s.a4 2).lo), .int .i64 ((rTimes s.a4 2).hi), .bool ((rTimes s.a4 2).no), .int .i64 ((rTimes s.a6 3).lo), .int .i64 ((rTimes s.a6 3).hi), .bool ((rTimes s.a6 3).no)] : List Value).length = 3 * 3 ∧ ([.int .i64 ((rTimes (rPoint 0) 1).lo), .int .i64 ((rTimes (rPoint 0) 1).hi), .bool ((rTimes (rPoint 0) 1).no), .int .i64 ((rTimes s.a4 2).lo), .int .i64 ((rTimes s.a4 2).hi), .bool ((rTimes s.a4 2).no), .int .i64 ((rTimes s.a6 3).lo), .int .i64 ((rTimes s.a6 3).hi), .bool ((rTimes s.a6 3).no)] ++ rb9_2 : List Value).length = cb9_2 * 3 ∧ 3 ≤ cb9_2 ∧ cb9_2 ≤ maxLen → E 4 = .pointer (some ⟨g2, 0, none⟩) → E 5 = .pointer (some ⟨g3, 0, none⟩) → E 8 = .pointer (some ⟨g6, 0, none⟩) → E 9 = .pointer (some ⟨g7, 0, none⟩) → Dn E ([⟨b9_2, [.int .i64 ((rTimes (rPoint 0) 1).lo), .int .i64 ((rTimes (rPoint 0) 1).hi), .bool ((rTimes (rPoint 0) 1).no), .int .i64 ((rTimes s.a4 2).lo), .int .i64 ((rTimes s.a4 2).hi), .bool ((rTimes s.a4 2).no), .int .i64 ((rTimes s.a6 3).lo), .int .i64 ((rTimes s.a6 3).hi), .bool ((rTimes s.a6 3).no)] ++ rb9_2, 26, false⟩, (rSag_b0 s r2 b7_6), (rSag_b1 s r2 g8), (rSag_b8 s r2 g7), (rSag_b9 s r2 g6), (rSag_b4 s r2 g5), (rSag_b5 s r2 g4), ⟨g3, [.int .i64 0, .int .i64 0, .bool false], 26, false⟩, ⟨g2, [.int .i64 0, .int .i64 0, .bool false], 26, false⟩, ⟨g1, [.int .i64 r2.lo, .int .i64 r2.hi, .bool r2.no], 26, false⟩, (rSag_b6 s r2 g0)])) → _) ?_
  ·have st9_3 : ∀ (_u : Unit) (b9_2 : Nat) (cb9_2 : Nat) (rb9_2 : List Value), ([.int .i64 ((rTimes (rPoint 0) 1).lo), .int .i64 ((rTimes (rPoint 0) 1).hi), .bool ((rTimes (rPoint 0) 1).no), .int .i64 ((rTimes s.a4 2).lo), .int .i64 ((rTimes s.a4 2).hi), .bool ((rTimes s.a4 2).no), .int .i64 ((rTimes s.a6 3).lo), .int .i64 ((rTimes s.a6 3).hi), .bool ((rTimes s.a6 3).no)] : List Value).length = 3 * 3 ∧ ([.int .i64 ((rTimes (rPoint 0) 1).lo), .int .i64 ((rTimes (rPoint 0) 1).hi), .bool ((rTimes (rPoint 0) 1).no), .int .i64 ((rTimes s.a4 2).lo), .int .i64 ((rTimes s.a4 2).hi), .bool ((rTimes s.a4 2).no), .int .i64 ((rTimes s.a6 3).lo), .int .i64 ((rTimes s.a6 3).hi), .bool ((rTimes s.a6 3).no)] ++ rb9_2 : List Value).length = cb9_2 * 3 ∧ 3 ≤ cb9_2 ∧ cb9_2 ≤ maxLen → Sg [8, 2, 4] [0, 1, 3, 5, 6, 7] ((((((((((((((E0.put (some 4) (.pointer (some ⟨g2, 0, none⟩))).put (some 5) (.pointer (some ⟨g3, 0, none⟩))).put (some 8) (.pointer (some ⟨g6, 0, none⟩))).put (some 9) (.pointer (some ⟨g7, 0, none⟩))).put (some 10) (.pointer (some ⟨g8, 0, none⟩))).put (some 11) (.slice (some ⟨b7_6, 0, none⟩) 4 4)).put (some 54) (.agg #[.int .i64 ((rDivIv s.curve (rTimes (rRootIv (rSag_e0 s r2)) 2)).lo), .int .i64 ((rDivIv s.curve (rTimes (rRootIv (rSag_e0 s r2)) 2)).hi), .bool ((rDivIv s.curve (rTimes (rRootIv (rSag_e0 s r2)) 2)).no)])).put (some 55) (.slice (some ⟨b7_6, 0, none⟩) 4 4)).put (some 56) (.slice (some ⟨b9_2, 0, none⟩) 3 cb9_2)).put (some 57) (.agg #[.int .i64 ((rDivIv r2 (rWhole 1000)).lo), .int .i64 ((rDivIv r2 (rWhole 1000)).hi), .bool ((rDivIv r2 (rWhole 1000)).no)])).put (some 58) (.agg #[.int .i64 ((rSag_e3 s r2).lo), .int .i64 ((rSag_e3 s r2).hi), .bool ((rSag_e3 s r2).no)])).put (some 59) (.agg #[.int .i64 ((rWhole 1000).lo), .int .i64 ((rWhole 1000).hi), .bool ((rWhole 1000).no)])).put (some 60) (.agg #[.int .i64 ((rDivIv (rSag_e3 s r2) (rWhole 1000)).lo), .int .i64 ((rDivIv (rSag_e3 s r2) (rWhole 1000)).hi), .bool ((rDivIv (rSag_e3 s r2) (rWhole 1000)).no)])).put (some 61) (.agg #[.int .i64 ((rSag_e4 s r2).lo), .int .i64 ((rSag_e4 s r2).hi), .bool ((rSag_e4 s r2).no)])) ([⟨b9_2, [.int .i64 ((rTimes (rPoint 0) 1).lo), .int .i64 ((rTimes (rPoint 0) 1).hi), .bool ((rTimes (rPoint 0) 1).no), .int .i64 ((rTimes s.a4 2).lo), .int .i64 ((rTimes s.a4 2).hi), .bool ((rTimes s.a4 2).no), .int .i64 ((rTimes s.a6 3).lo), .int .i64 ((rTimes s.a6 3).hi), .bool ((rTimes s.a6 3).no)] ++ rb9_2, 26, false⟩, (rSag_b0 s r2 b7_6), (rSag_b1 s r2 g8), (rSag_b8 s r2 g7), (rSag_b9 s r2 g6), (rSag_b4 s r2 g5), (rSag_b5 s r2 g4), ⟨g3, [.int .i64 0, .int .i64 0, .bool false], 26, false⟩, ⟨g2, [.int .i64 0, .int .i64 0, .bool false], 26, false⟩, ⟨g1, [.int .i64 r2.lo, .int .i64 r2.hi, .bool r2.no], 26, false⟩, (rSag_b6 s r2 g0)]) := by
    intro _u b9_2 cb9_2 rb9_2 fb9_2
    refine stepR [8, 2, 4] [0, 1, 3, 5, 6, 7] _ _ [] [] [] [4, 5, 8, 9, 10, 11, 54, 55, 57, 59, 60, 61, 56, 58] (by kernel_rfl) (by kernel_rfl) trivial trivial (fun _ E hE => ?_)
    ·obtain ⟨w0_4, w1_5, w2_8, w3_9, w4_10, w5_11, w6_54, w7_55, w8_57, w9_59, w10_60, w11_61, w12_56, w13_58, _⟩ := hE
     exact st9_fin E _ _ _ fb9_2 w0_4 w1_5 w2_8 w3_9
   have st9_2 : ∀ (_u : Unit) (b9_2 : Nat) (cb9_2 : Nat) (rb9_2 : List Value), ([.int .i64 ((rTimes (rPoint 0) 1).lo), .int .i64 ((rTimes (rPoint 0) 1).hi), .bool ((rTimes (rPoint 0) 1).no), .int .i64 ((rTimes s.a4 2).lo), .int .i64 ((rTimes s.a4 2).hi), .bool ((rTimes s.a4 2).no), .int .i64 ((rTimes s.a6 3).lo), .int .i64 ((rTimes s.a6 3).hi), .bool ((rTimes s.a6 3).no)] : List Value).length = 3 * 3 ∧ ([.int .i64 ((rTimes (rPoint 0) 1).lo), .int .i64 ((rTimes (rPoint 0) 1).hi), .bool ((rTimes (rPoint 0) 1).no), .int .i64 ((rTimes s.a4 2).lo), .int .i64 ((rTimes s.a4 2).hi), .bool ((rTimes s.a4 2).no), .int .i64 ((rTimes s.a6 3).lo), .int .i64 ((rTimes s.a6 3).hi), .bool ((rTimes s.a6 3).no)] ++ rb9_2 : List Value).length = cb9_2 * 3 ∧ 3 ≤ cb9_2 ∧ cb9_2 ≤ maxLen → Sg [4, 2] [1, 3] ((((((((((((((E0.put (some 4) (.pointer (some ⟨g2, 0, none⟩))).put (some 5) (.pointer (some ⟨g3, 0, none⟩))).put (some 8) (.pointer (some ⟨g6, 0, none⟩))).put (some 9) (.pointer (some ⟨g7, 0, none⟩))).put (some 10) (.pointer (some ⟨g8, 0, none⟩))).put (some 11) (.slice (some ⟨b7_6, 0, none⟩) 4 4)).put (some 54) (.agg #[.int .i64 ((rDivIv s.curve (rTimes (rRootIv (rSag_e0 s r2)) 2)).lo), .int .i64 ((rDivIv s.curve (rTimes (rRootIv (rSag_e0 s r2)) 2)).hi), .bool ((rDivIv s.curve (rTimes (rRootIv (rSag_e0 s r2)) 2)).no)])).put (some 55) (.slice (some ⟨b7_6, 0, none⟩) 4 4)).put (some 56) (.slice (some ⟨b9_2, 0, none⟩) 3 cb9_2)).put (some 57) (.agg #[.int .i64 ((rDivIv r2 (rWhole 1000)).lo), .int .i64 ((rDivIv r2 (rWhole 1000)).hi), .bool ((rDivIv r2 (rWhole 1000)).no)])).put (some 58) (.agg #[.int .i64 ((rSag_e3 s r2).lo), .int .i64 ((rSag_e3 s r2).hi), .bool ((rSag_e3 s r2).no)])).put (some 59) (.agg #[.int .i64 ((rWhole 1000).lo), .int .i64 ((rWhole 1000).hi), .bool ((rWhole 1000).no)])).put (some 60) (.agg #[.int .i64 ((rDivIv (rSag_e3 s r2) (rWhole 1000)).lo), .int .i64 ((rDivIv (rSag_e3 s r2) (rWhole 1000)).hi), .bool ((rDivIv (rSag_e3 s r2) (rWhole 1000)).no)])).put (some 61) (.agg #[.int .i64 ((rSag_e4 s r2).lo), .int .i64 ((rSag_e4 s r2).hi), .bool ((rSag_e4 s r2).no)])) ([⟨b9_2, [.int .i64 ((rTimes (rPoint 0) 1).lo), .int .i64 ((rTimes (rPoint 0) 1).hi), .bool ((rTimes (rPoint 0) 1).no), .int .i64 ((rTimes s.a4 2).lo), .int .i64 ((rTimes s.a4 2).hi), .bool ((rTimes s.a4 2).no), .int .i64 ((rTimes s.a6 3).lo), .int .i64 ((rTimes s.a6 3).hi), .bool ((rTimes s.a6 3).no)] ++ rb9_2, 26, false⟩, (rSag_b0 s r2 b7_6), (rSag_b1 s r2 g8), (rSag_b2 s r2 g7), (rSag_b9 s r2 g6), (rSag_b4 s r2 g5), (rSag_b5 s r2 g4), ⟨g3, [.int .i64 0, .int .i64 0, .bool false], 26, false⟩, ⟨g2, [.int .i64 0, .int .i64 0, .bool false], 26, false⟩, ⟨g1, [.int .i64 r2.lo, .int .i64 r2.hi, .bool r2.no], 26, false⟩, (rSag_b6 s r2 g0)]) := by
    intro _u b9_2 cb9_2 rb9_2 fb9_2
    refine stepR [4, 2] [1, 3] _ _ [0, 5, 6, 7] [8] [] [4, 5, 8, 9, 10, 11, 55, 57, 54, 59, 60, 61, 58, 56] (by kernel_rfl) (by kernel_rfl) ⟨?_, ?_, ?_, ?_, trivial⟩ ⟨?_, trivial⟩ (fun h => by cases h)
    ·exact tf_op (d := 54) (.agg #[.int .i64 ((rDivIv s.curve (rTimes (rRootIv (rSag_e0 s r2)) 2)).lo), .int .i64 ((rDivIv s.curve (rTimes (rRootIv (rSag_e0 s r2)) 2)).hi), .bool ((rDivIv s.curve (rTimes (rRootIv (rSag_e0 s r2)) 2)).no)]) rfl rfl rfl (st_lda (vs := [.int .i64 ((rDivIv s.curve (rTimes (rRootIv (rSag_e0 s r2)) 2)).lo), .int .i64 ((rDivIv s.curve (rTimes (rRootIv (rSag_e0 s r2)) 2)).hi), .bool ((rDivIv s.curve (rTimes (rRootIv (rSag_e0 s r2)) 2)).no)]) agg26 3 rfl rfl rfl rfl rfl rfl ⟨rfl, rfl⟩) rfl
    ·exact tf_op (d := 59) (.agg #[.int .i64 ((rWhole 1000).lo), .int .i64 ((rWhole 1000).hi), .bool ((rWhole 1000).no)]) rfl rfl rfl (st_cf (c_rWhole 1000) Try.func88 rfl (by decide) rfl rfl rfl ⟨rfl, rfl⟩) rfl
    ·exact tf_op (d := 60) (.agg #[.int .i64 ((rDivIv (rSag_e3 s r2) (rWhole 1000)).lo), .int .i64 ((rDivIv (rSag_e3 s r2) (rWhole 1000)).hi), .bool ((rDivIv (rSag_e3 s r2) (rWhole 1000)).no)]) rfl rfl rfl (st_cf (c_rDivIv (rSag_e3 s r2) (rWhole 1000)) Try.func85 rfl (by decide) rfl rfl rfl ⟨rfl, rfl⟩) rfl
    ·exact tf_op (d := 61) (.agg #[.int .i64 ((rSag_e4 s r2).lo), .int .i64 ((rSag_e4 s r2).hi), .bool ((rSag_e4 s r2).no)]) rfl rfl rfl (st_cf (c_rAdd (rDivIv s.curve (rTimes (rRootIv (rSag_e0 s r2)) 2)) (rDivIv (rSag_e3 s r2) (rWhole 1000))) Try.func86 rfl (by decide) rfl rfl rfl ⟨rfl, rfl⟩) rfl
    ·refine opR_op (d := none) rfl rfl rfl (st_sta (cs := [.int .i64 ((rSag_e4 s r2).lo), .int .i64 ((rSag_e4 s r2).hi), .bool ((rSag_e4 s r2).no)]) agg26 3 rfl rfl rfl rfl rfl rfl rfl rfl rfl ?_)
     exact ⟨_, _, _, _, st9_3 () _ _ _ fb9_2, (List.Perm.refl _), by kernel_rfl, [4, 5, 8, 9, 10, 11, 55, 57, 54, 59, 60, 61, 58, 56], by kernel_rfl, ⟨rfl, rfl, rfl, rfl, rfl, rfl, rfl, rfl, rfl, rfl, rfl, rfl, rfl, rfl, trivial⟩, by kernel_rfl⟩
   have st9_1 : ∀ (_u : Unit) (b9_2 : Nat) (cb9_2 : Nat) (rb9_2 : List Value), ([.int .i64 ((rTimes (rPoint 0) 1).lo), .int .i64 ((rTimes (rPoint 0) 1).hi), .bool ((rTimes (rPoint 0) 1).no), .int .i64 ((rTimes s.a4 2).lo), .int .i64 ((rTimes s.a4 2).hi), .bool ((rTimes s.a4 2).no), .int .i64 ((rTimes s.a6 3).lo), .int .i64 ((rTimes s.a6 3).hi), .bool ((rTimes s.a6 3).no)] : List Value).length = 3 * 3 ∧ ([.int .i64 ((rTimes (rPoint 0) 1).lo), .int .i64 ((rTimes (rPoint 0) 1).hi), .bool ((rTimes (rPoint 0) 1).no), .int .i64 ((rTimes s.a4 2).lo), .int .i64 ((rTimes s.a4 2).hi), .bool ((rTimes s.a4 2).no), .int .i64 ((rTimes s.a6 3).lo), .int .i64 ((rTimes s.a6 3).hi), .bool ((rTimes s.a6 3).no)] ++ rb9_2 : List Value).length = cb9_2 * 3 ∧ 3 ≤ cb9_2 ∧ cb9_2 ≤ maxLen → Sg [2] [1] ((((((((((E0.put (some 4) (.pointer (some ⟨g2, 0, none⟩))).put (some 5) (.pointer (some ⟨g3, 0, none⟩))).put (some 8) (.pointer (some ⟨g6, 0, none⟩))).put (some 9) (.pointer (some ⟨g7, 0, none⟩))).put (some 10) (.pointer (some ⟨g8, 0, none⟩))).put (some 11) (.slice (some ⟨b7_6, 0, none⟩) 4 4)).put (some 54) (.agg #[.int .i64 ((rDivIv s.curve (rTimes (rRootIv (rSag_e0 s r2)) 2)).lo), .int .i64 ((rDivIv s.curve (rTimes (rRootIv (rSag_e0 s r2)) 2)).hi), .bool ((rDivIv s.curve (rTimes (rRootIv (rSag_e0 s r2)) 2)).no)])).put (some 55) (.slice (some ⟨b7_6, 0, none⟩) 4 4)).put (some 56) (.slice (some ⟨b9_2, 0, none⟩) 3 cb9_2)).put (some 57) (.agg #[.int .i64 ((rDivIv r2 (rWhole 1000)).lo), .int .i64 ((rDivIv r2 (rWhole 1000)).hi), .bool ((rDivIv r2 (rWhole 1000)).no)])) ([⟨b9_2, [.int .i64 ((rTimes (rPoint 0) 1).lo), .int .i64 ((rTimes (rPoint 0) 1).hi), .bool ((rTimes (rPoint 0) 1).no), .int .i64 ((rTimes s.a4 2).lo), .int .i64 ((rTimes s.a4 2).hi), .bool ((rTimes s.a4 2).no), .int .i64 ((rTimes s.a6 3).lo), .int .i64 ((rTimes s.a6 3).hi), .bool ((rTimes s.a6 3).no)] ++ rb9_2, 26, false⟩, (rSag_b0 s r2 b7_6), (rSag_b1 s r2 g8), (rSag_b2 s r2 g7), (rSag_b9 s r2 g6), (rSag_b4 s r2 g5), (rSag_b5 s r2 g4), ⟨g3, [.int .i64 0, .int .i64 0, .bool false], 26, false⟩, ⟨g2, [.int .i64 0, .int .i64 0, .bool false], 26, false⟩, ⟨g1, [.int .i64 r2.lo, .int .i64 r2.hi, .bool r2.no], 26, false⟩, (rSag_b6 s r2 g0)]) := by
    intro _u b9_2 cb9_2 rb9_2 fb9_2
    refine stepR [2] [1] _ _ [0, 3] [4] [5, 6, 7, 8] [4, 5, 8, 9, 10, 11, 55, 54, 57, 56] (by kernel_rfl) (by kernel_rfl) ⟨?_, ?_, trivial⟩ ⟨?_, trivial⟩ (fun h => by cases h)
    ·exact tf_op (d := 54) (.agg #[.int .i64 ((rDivIv s.curve (rTimes (rRootIv (rSag_e0 s r2)) 2)).lo), .int .i64 ((rDivIv s.curve (rTimes (rRootIv (rSag_e0 s r2)) 2)).hi), .bool ((rDivIv s.curve (rTimes (rRootIv (rSag_e0 s r2)) 2)).no)]) rfl rfl rfl (st_lda (vs := [.int .i64 ((rDivIv s.curve (rTimes (rRootIv (rSag_e0 s r2)) 2)).lo), .int .i64 ((rDivIv s.curve (rTimes (rRootIv (rSag_e0 s r2)) 2)).hi), .bool ((rDivIv s.curve (rTimes (rRootIv (rSag_e0 s r2)) 2)).no)]) agg26 3 rfl rfl rfl rfl rfl rfl ⟨rfl, rfl⟩) rfl
    ·exact tf_op (d := 57) (.agg #[.int .i64 ((rDivIv r2 (rWhole 1000)).lo), .int .i64 ((rDivIv r2 (rWhole 1000)).hi), .bool ((rDivIv r2 (rWhole 1000)).no)]) rfl rfl rfl (st_lda (vs := [.int .i64 ((rDivIv r2 (rWhole 1000)).lo), .int .i64 ((rDivIv r2 (rWhole 1000)).hi), .bool ((rDivIv r2 (rWhole 1000)).no)]) agg26 2 rfl rfl rfl rfl rfl rfl ⟨rfl, rfl⟩) rfl
    ·refine opR_op (d := (some 58)) rfl rfl rfl (st_gr (R := [⟨b9_2, [.int .i64 ((rTimes (rPoint 0) 1).lo), .int .i64 ((rTimes (rPoint 0) 1).hi), .bool ((rTimes (rPoint 0) 1).no), .int .i64 ((rTimes s.a4 2).lo), .int .i64 ((rTimes s.a4 2).hi), .bool ((rTimes s.a4 2).no), .int .i64 ((rTimes s.a6 3).lo), .int .i64 ((rTimes s.a6 3).hi), .bool ((rTimes s.a6 3).no)] ++ rb9_2, 26, true⟩]) (r := .agg #[.int .i64 ((rSag_e3 s r2).lo), .int .i64 ((rSag_e3 s r2).hi), .bool ((rSag_e3 s r2).no)]) (c_rHorner3 (rTimes (rPoint 0) 1) (rTimes s.a4 2) (rTimes s.a6 3) (rDivIv r2 (rWhole 1000)) b9_2 cb9_2 rb9_2) Try.func89 rfl (by decide) rfl rfl rfl (has_cons 0 _ rfl rfl rfl rfl has_nil) (by simp) ?_)
     exact ⟨_, _, _, _, st9_2 () _ _ _ fb9_2, (List.Perm.refl _), by kernel_rfl, [4, 5, 8, 9, 10, 11, 55, 54, 57, 56, 58], by kernel_rfl, ⟨rfl, rfl, rfl, rfl, rfl, rfl, rfl, rfl, rfl, rfl, rfl, trivial⟩, by kernel_rfl⟩
   refine stepR [] [] _ _ [0, 1, 3] [2] [4, 5, 6, 7, 8] [4, 5, 8, 9, 10, 11, 54, 55, 57] (by kernel_rfl) (by kernel_rfl) ⟨?_, ?_, ?_, trivial⟩ ⟨?_, trivial⟩ (fun h => by cases h)
   ·exact tf_op (d := 54) (.agg #[.int .i64 ((rDivIv s.curve (rTimes (rRootIv (rSag_e0 s r2)) 2)).lo), .int .i64 ((rDivIv s.curve (rTimes (rRootIv (rSag_e0 s r2)) 2)).hi), .bool ((rDivIv s.curve (rTimes (rRootIv (rSag_e0 s r2)) 2)).no)]) rfl rfl rfl (st_lda (vs := [.int .i64 ((rDivIv s.curve (rTimes (rRootIv (rSag_e0 s r2)) 2)).lo), .int .i64 ((rDivIv s.curve (rTimes (rRootIv (rSag_e0 s r2)) 2)).hi), .bool ((rDivIv s.curve (rTimes (rRootIv (rSag_e0 s r2)) 2)).no)]) agg26 2 rfl rfl rfl rfl rfl rfl ⟨rfl, rfl⟩) rfl
   ·exact tf_op (d := 55) (.slice (some ⟨b7_6, 0, none⟩) 4 4) rfl rfl rfl (st_move (v := .slice (some ⟨b7_6, 0, none⟩) 4 4) rfl rfl ⟨rfl, rfl⟩) rfl
   ·exact tf_op (d := 57) (.agg #[.int .i64 ((rDivIv r2 (rWhole 1000)).lo), .int .i64 ((rDivIv r2 (rWhole 1000)).hi), .bool ((rDivIv r2 (rWhole 1000)).no)]) rfl rfl rfl (st_lda (vs := [.int .i64 ((rDivIv r2 (rWhole 1000)).lo), .int .i64 ((rDivIv r2 (rWhole 1000)).hi), .bool ((rDivIv r2 (rWhole 1000)).no)]) agg26 1 rfl rfl rfl rfl rfl rfl ⟨rfl, rfl⟩) rfl
   ·refine opR_op (d := (some 56)) rfl rfl rfl (st_gv (R := [(rSag_b7 s r2 b7_6)]) (c_rSlope4 (rPoint 0) (rPoint 0) s.a4 s.a6 4 b7_6 ([])) Try.func90 rfl (by decide) rfl rfl rfl (has_cons 0 _ rfl rfl rfl rfl has_nil) (by simp) fun v9 N9 R9 => ?_)
    obtain ⟨b9_2, cb9_2, rb9_2, rfl, rfl, fb9_2⟩ := R9.pos (by decide)
    exact ⟨_, _, _, _, st9_1 () _ _ _ fb9_2, (List.Perm.refl _), by kernel_rfl, [4, 5, 8, 9, 10, 11, 54, 55, 57, 56], by kernel_rfl, ⟨rfl, rfl, rfl, rfl, rfl, rfl, rfl, rfl, rfl, rfl, trivial⟩, by kernel_rfl⟩
  intro E b9_2 cb9_2 rb9_2 fb9_2 q4 q5 q8 q9
  obtain ⟨E0, rfl⟩ : ∃ E0 : Env, E = ((((E0.put (some 4) (.pointer (some ⟨g2, 0, none⟩))).put (some 5) (.pointer (some ⟨g3, 0, none⟩))).put (some 8) (.pointer (some ⟨g6, 0, none⟩))).put (some 9) (.pointer (some ⟨g7, 0, none⟩))) := ⟨E, by rw [put_self q4, put_self q5, put_self q8, put_self q9]⟩
  refine doneR _ _ (aQ (aQ (aL (aG 62 [.int .i64 ((rAdd (rSag_e1 s r2) (rSag_e2 s r2)).lo), .int .i64 ((rAdd (rSag_e1 s r2) (rSag_e2 s r2)).hi), .bool ((rAdd (rSag_e1 s r2) (rSag_e2 s r2)).no)] agg26 4 rfl rfl rfl rfl rfl (aC 63 (c_rRight (rAdd (rSag_e1 s r2) (rSag_e2 s r2))) Try.func40 ⟨rfl, by decide⟩ rfl rfl (ao 64 rfl rfl (st_un (v := .bool (!(rRight (rAdd (rSag_e1 s r2) (rSag_e2 s r2))))) rfl rfl (un_not rfl) (aM 65 (.bool (!(rRight (rAdd (rSag_e1 s r2) (rSag_e2 s r2))))) rfl rfl ?_))))))))
  refine bool_split (rRight (rAdd (rSag_e1 s r2) (rSag_e2 s r2))) (fun h2 => ?_) (fun h2 => ?_)
  ·refine ar_gd (d := (some 66)) (by show ((!(rRight (rAdd (rSag_e1 s r2) (rSag_e2 s r2)))) == false) = true; rw [h2]; rfl) rfl (st_lda (vs := [.int .i64 ((rSag_e4 s r2).lo), .int .i64 ((rSag_e4 s r2).hi), .bool ((rSag_e4 s r2).no)]) agg26 3 rfl rfl rfl rfl rfl rfl (ar_gd (d := (some 67)) (by show ((!(rRight (rAdd (rSag_e1 s r2) (rSag_e2 s r2)))) == false) = true; rw [h2]; rfl) rfl (st_cf (c_rRight (rSag_e4 s r2)) Try.func40 rfl (by decide) rfl rfl rfl (ar_gd (d := (some 68)) (by show ((!(rRight (rAdd (rSag_e1 s r2) (rSag_e2 s r2)))) == false) = true; rw [h2]; rfl) rfl (st_un (v := .bool (!(rRight (rSag_e4 s r2)))) rfl rfl (un_not rfl) ?_)))))
   refine ao 69 rfl rfl (st_pkf' (b := !(rRight (rAdd (rSag_e1 s r2) (rSag_e2 s r2)))) (v := .bool (!(rRight (rSag_e4 s r2)))) (by rw [h2]; rfl) rfl rfl rfl (aN ?_))
   refine bool_split (rRight (rSag_e4 s r2)) (fun h3 => ?_) (fun h3 => ?_)
   ·refine ac_else' (b := !(rRight (rSag_e4 s r2))) (by rw [h3]; rfl) rfl (ac_skip (aQ ?_))
    refine ac_env fun E1 hE1 => ?_
    have q4 : E1 4 = .pointer (some ⟨g2, 0, none⟩) := by rw [hE1]; rfl
    have q5 : E1 5 = .pointer (some ⟨g3, 0, none⟩) := by rw [hE1]; rfl
    have q8 : E1 8 = .pointer (some ⟨g6, 0, none⟩) := by rw [hE1]; rfl
    have q9 : E1 9 = .pointer (some ⟨g7, 0, none⟩) := by rw [hE1]; rfl
    clear hE1
    obtain ⟨E0, rfl⟩ : ∃ E0 : Env, E1 = ((((E0.put (some 4) (.pointer (some ⟨g2, 0, none⟩))).put (some 5) (.pointer (some ⟨g3, 0, none⟩))).put (some 8) (.pointer (some ⟨g6, 0, none⟩))).put (some 9) (.pointer (some ⟨g7, 0, none⟩))) := ⟨E1, by rw [put_self q4, put_self q5, put_self q8, put_self q9]⟩
    refine ac_stage follows [2, 3] [4, 5, 8, 9] ((((((E0.put (some 4) (.pointer (some ⟨g2, 0, none⟩))).put (some 5) (.pointer (some ⟨g3, 0, none⟩))).put (some 8) (.pointer (some ⟨g6, 0, none⟩))).put (some 9) (.pointer (some ⟨g7, 0, none⟩))).put (some 72) (.agg #[.int .i64 ((rAdd (rSag_e1 s r2) (rSag_e2 s r2)).lo), .int .i64 ((rAdd (rSag_e1 s r2) (rSag_e2 s r2)).hi), .bool ((rAdd (rSag_e1 s r2) (rSag_e2 s r2)).no)])).put (some 73) (.agg #[.int .i64 ((rSag_e4 s r2).lo), .int .i64 ((rSag_e4 s r2).hi), .bool ((rSag_e4 s r2).no)])) (fun Sg Dn stepR doneR => ?_) ⟨rfl, rfl, rfl, rfl, trivial⟩
    refine ((fun st12_fin => ?_) : (∀ (E : Env), E 4 = .pointer (some ⟨g2, 0, none⟩) → E 5 = .pointer (some ⟨g3, 0, none⟩) → Dn E ([⟨b9_2, [.int .i64 ((rTimes (rPoint 0) 1).lo), .int .i64 ((rTimes (rPoint 0) 1).hi), .bool ((rTimes (rPoint 0) 1).no), .int .i64 ((rTimes s.a4 2).lo), .int .i64 ((rTimes s.a4 2).hi), .bool ((rTimes s.a4 2).no), .int .i64 ((rTimes s.a6 3).lo), .int .i64 ((rTimes s.a6 3).hi), .bool ((rTimes s.a6 3).no)] ++ rb9_2, 26, false⟩, (rSag_b0 s r2 b7_6), (rSag_b1 s r2 g8), (rSag_b8 s r2 g7), (rSag_b9 s r2 g6), (rSag_b4 s r2 g5), (rSag_b5 s r2 g4), (rSag_b8 s r2 g3), (rSag_b9 s r2 g2), ⟨g1, [.int .i64 r2.lo, .int .i64 r2.hi, .bool r2.no], 26, false⟩, (rSag_b6 s r2 g0)])) → _) ?_
    ·have st12_2 : ∀ (_u : Unit), Sg [3, 2] [0, 1] ((((((E0.put (some 4) (.pointer (some ⟨g2, 0, none⟩))).put (some 5) (.pointer (some ⟨g3, 0, none⟩))).put (some 8) (.pointer (some ⟨g6, 0, none⟩))).put (some 9) (.pointer (some ⟨g7, 0, none⟩))).put (some 72) (.agg #[.int .i64 ((rAdd (rSag_e1 s r2) (rSag_e2 s r2)).lo), .int .i64 ((rAdd (rSag_e1 s r2) (rSag_e2 s r2)).hi), .bool ((rAdd (rSag_e1 s r2) (rSag_e2 s r2)).no)])).put (some 73) (.agg #[.int .i64 ((rSag_e4 s r2).lo), .int .i64 ((rSag_e4 s r2).hi), .bool ((rSag_e4 s r2).no)])) ([⟨b9_2, [.int .i64 ((rTimes (rPoint 0) 1).lo), .int .i64 ((rTimes (rPoint 0) 1).hi), .bool ((rTimes (rPoint 0) 1).no), .int .i64 ((rTimes s.a4 2).lo), .int .i64 ((rTimes s.a4 2).hi), .bool ((rTimes s.a4 2).no), .int .i64 ((rTimes s.a6 3).lo), .int .i64 ((rTimes s.a6 3).hi), .bool ((rTimes s.a6 3).no)] ++ rb9_2, 26, false⟩, (rSag_b0 s r2 b7_6), (rSag_b1 s r2 g8), (rSag_b8 s r2 g7), (rSag_b9 s r2 g6), (rSag_b4 s r2 g5), (rSag_b5 s r2 g4), (rSag_b8 s r2 g3), (rSag_b9 s r2 g2), ⟨g1, [.int .i64 r2.lo, .int .i64 r2.hi, .bool r2.no], 26, false⟩, (rSag_b6 s r2 g0)]) := by
      intro _u
      refine stepR [3, 2] [0, 1] _ _ [] [] [] [4, 5, 8, 9, 72, 73] (by kernel_rfl) (by kernel_rfl) trivial trivial (fun _ E hE => ?_)
      ·obtain ⟨w0_4, w1_5, w2_8, w3_9, w4_72, w5_73, _⟩ := hE
       exact st12_fin E w0_4 w1_5
     have st12_1 : ∀ (_u : Unit), Sg [2] [0] ((((((E0.put (some 4) (.pointer (some ⟨g2, 0, none⟩))).put (some 5) (.pointer (some ⟨g3, 0, none⟩))).put (some 8) (.pointer (some ⟨g6, 0, none⟩))).put (some 9) (.pointer (some ⟨g7, 0, none⟩))).put (some 72) (.agg #[.int .i64 ((rAdd (rSag_e1 s r2) (rSag_e2 s r2)).lo), .int .i64 ((rAdd (rSag_e1 s r2) (rSag_e2 s r2)).hi), .bool ((rAdd (rSag_e1 s r2) (rSag_e2 s r2)).no)])).put (some 73) (.agg #[.int .i64 ((rSag_e4 s r2).lo), .int .i64 ((rSag_e4 s r2).hi), .bool ((rSag_e4 s r2).no)])) ([⟨b9_2, [.int .i64 ((rTimes (rPoint 0) 1).lo), .int .i64 ((rTimes (rPoint 0) 1).hi), .bool ((rTimes (rPoint 0) 1).no), .int .i64 ((rTimes s.a4 2).lo), .int .i64 ((rTimes s.a4 2).hi), .bool ((rTimes s.a4 2).no), .int .i64 ((rTimes s.a6 3).lo), .int .i64 ((rTimes s.a6 3).hi), .bool ((rTimes s.a6 3).no)] ++ rb9_2, 26, false⟩, (rSag_b0 s r2 b7_6), (rSag_b1 s r2 g8), (rSag_b8 s r2 g7), (rSag_b9 s r2 g6), (rSag_b4 s r2 g5), (rSag_b5 s r2 g4), ⟨g3, [.int .i64 0, .int .i64 0, .bool false], 26, false⟩, (rSag_b9 s r2 g2), ⟨g1, [.int .i64 r2.lo, .int .i64 r2.hi, .bool r2.no], 26, false⟩, (rSag_b6 s r2 g0)]) := by
      intro _u
      refine stepR [2] [0] _ _ [1] [3] [] [4, 5, 8, 9, 72, 73] (by kernel_rfl) (by kernel_rfl) ⟨?_, trivial⟩ ⟨?_, trivial⟩ (fun h => by cases h)
      ·exact tf_op (d := 73) (.agg #[.int .i64 ((rSag_e4 s r2).lo), .int .i64 ((rSag_e4 s r2).hi), .bool ((rSag_e4 s r2).no)]) rfl rfl rfl (st_lda (vs := [.int .i64 ((rSag_e4 s r2).lo), .int .i64 ((rSag_e4 s r2).hi), .bool ((rSag_e4 s r2).no)]) agg26 3 rfl rfl rfl rfl rfl rfl ⟨rfl, rfl⟩) rfl
      ·refine opR_op (d := none) rfl rfl rfl (st_sta (cs := [.int .i64 ((rSag_e4 s r2).lo), .int .i64 ((rSag_e4 s r2).hi), .bool ((rSag_e4 s r2).no)]) agg26 7 rfl rfl rfl rfl rfl rfl rfl rfl rfl ?_)
       exact ⟨_, _, _, _, st12_2 (), (List.Perm.refl _), by kernel_rfl, [4, 5, 8, 9, 72, 73], by kernel_rfl, ⟨rfl, rfl, rfl, rfl, rfl, rfl, trivial⟩, by kernel_rfl⟩
     refine stepR [] [] _ _ [0, 1] [2] [3] [4, 5, 8, 9, 72, 73] (by kernel_rfl) (by kernel_rfl) ⟨?_, ?_, trivial⟩ ⟨?_, trivial⟩ (fun h => by cases h)
     ·exact tf_op (d := 72) (.agg #[.int .i64 ((rAdd (rSag_e1 s r2) (rSag_e2 s r2)).lo), .int .i64 ((rAdd (rSag_e1 s r2) (rSag_e2 s r2)).hi), .bool ((rAdd (rSag_e1 s r2) (rSag_e2 s r2)).no)]) rfl rfl rfl (st_lda (vs := [.int .i64 ((rAdd (rSag_e1 s r2) (rSag_e2 s r2)).lo), .int .i64 ((rAdd (rSag_e1 s r2) (rSag_e2 s r2)).hi), .bool ((rAdd (rSag_e1 s r2) (rSag_e2 s r2)).no)]) agg26 4 rfl rfl rfl rfl rfl rfl ⟨rfl, rfl⟩) rfl
     ·exact tf_op (d := 73) (.agg #[.int .i64 ((rSag_e4 s r2).lo), .int .i64 ((rSag_e4 s r2).hi), .bool ((rSag_e4 s r2).no)]) rfl rfl rfl (st_lda (vs := [.int .i64 ((rSag_e4 s r2).lo), .int .i64 ((rSag_e4 s r2).hi), .bool ((rSag_e4 s r2).no)]) agg26 3 rfl rfl rfl rfl rfl rfl ⟨rfl, rfl⟩) rfl
     ·refine opR_op (d := none) rfl rfl rfl (st_sta (cs := [.int .i64 ((rAdd (rSag_e1 s r2) (rSag_e2 s r2)).lo), .int .i64 ((rAdd (rSag_e1 s r2) (rSag_e2 s r2)).hi), .bool ((rAdd (rSag_e1 s r2) (rSag_e2 s r2)).no)]) agg26 8 rfl rfl rfl rfl rfl rfl rfl rfl rfl ?_)
      exact ⟨_, _, _, _, st12_1 (), (List.Perm.refl _), by kernel_rfl, [4, 5, 8, 9, 72, 73], by kernel_rfl, ⟨rfl, rfl, rfl, rfl, rfl, rfl, trivial⟩, by kernel_rfl⟩
    intro E q4 q5
    obtain ⟨E0, rfl⟩ : ∃ E0 : Env, E = ((E0.put (some 4) (.pointer (some ⟨g2, 0, none⟩))).put (some 5) (.pointer (some ⟨g3, 0, none⟩))) := ⟨E, by rw [put_self q4, put_self q5]⟩
    refine doneR _ _ (ac_ret ?_)
    exact fin_eq (v := .tuple #[.agg #[.int .i64 ((rAdd (rSag_e1 s r2) (rSag_e2 s r2)).lo), .int .i64 ((rAdd (rSag_e1 s r2) (rSag_e2 s r2)).hi), .bool ((rAdd (rSag_e1 s r2) (rSag_e2 s r2)).no)], .agg #[.int .i64 ((rSag_e4 s r2).lo), .int .i64 ((rSag_e4 s r2).hi), .bool ((rSag_e4 s r2).no)]]) (by show _ = (fun (r : Iv × Iv) => (.tuple #[.agg #[.int .i64 r.1.lo, .int .i64 r.1.hi, .bool r.1.no], .agg #[.int .i64 r.2.lo, .int .i64 r.2.hi, .bool r.2.no]] : Value)) (rSag s r2); rw [rSag, h3, h2, h1] <;> rfl) (fin_ret (res_cc (vs := [.int .i64 ((rAdd (rSag_e1 s r2) (rSag_e2 s r2)).lo), .int .i64 ((rAdd (rSag_e1 s r2) (rSag_e2 s r2)).hi), .bool ((rAdd (rSag_e1 s r2) (rSag_e2 s r2)).no)]) (us := [.int .i64 ((rSag_e4 s r2).lo), .int .i64 ((rSag_e4 s r2).hi), .bool ((rSag_e4 s r2).no)]) agg26 agg26 8 7 rfl rfl rfl rfl rfl rfl rfl rfl rfl rfl rfl))
   ·refine ac_then' (b := !(rRight (rSag_e4 s r2))) (by rw [h3]; rfl) rfl (aQ (aL (aC 70 c_rNone14 Try.func91 ⟨rfl, by decide⟩ rfl rfl (aC 71 c_rNone14 Try.func91 ⟨rfl, by decide⟩ rfl rfl (aS [.int .i64 rNone14.lo, .int .i64 rNone14.hi, .bool rNone14.no] agg26 8 rfl rfl rfl rfl rfl rfl (aS [.int .i64 rNone14.lo, .int .i64 rNone14.hi, .bool rNone14.no] agg26 7 rfl rfl rfl rfl rfl rfl (aN (ac_ret ?_))))))))
    exact fin_eq (v := .tuple #[.agg #[.int .i64 rNone14.lo, .int .i64 rNone14.hi, .bool rNone14.no], .agg #[.int .i64 rNone14.lo, .int .i64 rNone14.hi, .bool rNone14.no]]) (by show _ = (fun (r : Iv × Iv) => (.tuple #[.agg #[.int .i64 r.1.lo, .int .i64 r.1.hi, .bool r.1.no], .agg #[.int .i64 r.2.lo, .int .i64 r.2.hi, .bool r.2.no]] : Value)) (rSag s r2); rw [rSag, h3, h2, h1] <;> rfl) (fin_ret (res_cc (vs := [.int .i64 rNone14.lo, .int .i64 rNone14.hi, .bool rNone14.no]) (us := [.int .i64 rNone14.lo, .int .i64 rNone14.hi, .bool rNone14.no]) agg26 agg26 8 7 rfl rfl rfl rfl rfl rfl rfl rfl rfl rfl rfl))
  ·refine aK 66 (by show ((!(rRight (rAdd (rSag_e1 s r2) (rSag_e2 s r2)))) == false) = false; rw [h2]; rfl) rfl (aK 67 (by show ((!(rRight (rAdd (rSag_e1 s r2) (rSag_e2 s r2)))) == false) = false; rw [h2]; rfl) rfl (aK 68 (by show ((!(rRight (rAdd (rSag_e1 s r2) (rSag_e2 s r2)))) == false) = false; rw [h2]; rfl) rfl (ao 69 rfl rfl (st_pkt' (b := !(rRight (rAdd (rSag_e1 s r2) (rSag_e2 s r2)))) (v := .bool true) (by rw [h2]; rfl) rfl rfl rfl (aN (ac_then rfl (aQ (aL (aC 70 c_rNone14 Try.func91 ⟨rfl, by decide⟩ rfl rfl (aC 71 c_rNone14 Try.func91 ⟨rfl, by decide⟩ rfl rfl ?_))))))))))
   refine aS [.int .i64 rNone14.lo, .int .i64 rNone14.hi, .bool rNone14.no] agg26 8 rfl rfl rfl rfl rfl rfl (aS [.int .i64 rNone14.lo, .int .i64 rNone14.hi, .bool rNone14.no] agg26 7 rfl rfl rfl rfl rfl rfl (aN (ac_ret ?_)))
   exact fin_eq (v := .tuple #[.agg #[.int .i64 rNone14.lo, .int .i64 rNone14.hi, .bool rNone14.no], .agg #[.int .i64 rNone14.lo, .int .i64 rNone14.hi, .bool rNone14.no]]) (by show _ = (fun (r : Iv × Iv) => (.tuple #[.agg #[.int .i64 r.1.lo, .int .i64 r.1.hi, .bool r.1.no], .agg #[.int .i64 r.2.lo, .int .i64 r.2.hi, .bool r.2.no]] : Value)) (rSag s r2); rw [rSag, h2, h1] <;> rfl) (fin_ret (res_cc (vs := [.int .i64 rNone14.lo, .int .i64 rNone14.hi, .bool rNone14.no]) (us := [.int .i64 rNone14.lo, .int .i64 rNone14.hi, .bool rNone14.no]) agg26 agg26 8 7 rfl rfl rfl rfl rfl rfl rfl rfl rfl rfl rfl))
 ·refine ac_else' (b := s.bent) h1 rfl (ac_skip (aQ (aQ (aL (aG 62 [.int .i64 ((rSag_e1 s r2).lo), .int .i64 ((rSag_e1 s r2).hi), .bool ((rSag_e1 s r2).no)] agg26 1 rfl rfl rfl rfl rfl (aC 63 (c_rRight (rSag_e1 s r2)) Try.func40 ⟨rfl, by decide⟩ rfl rfl (ao 64 rfl rfl (st_un (v := .bool (!(rRight (rSag_e1 s r2)))) rfl rfl (un_not rfl) (aM 65 (.bool (!(rRight (rSag_e1 s r2)))) rfl rfl ?_)))))))))
  refine bool_split (rRight (rSag_e1 s r2)) (fun h2 => ?_) (fun h2 => ?_)
  ·refine ar_gd (d := (some 66)) (by show ((!(rRight (rSag_e1 s r2))) == false) = true; rw [h2]; rfl) rfl (st_lda (vs := [.int .i64 ((rDivIv s.curve (rTimes (rRootIv (rSag_e0 s r2)) 2)).lo), .int .i64 ((rDivIv s.curve (rTimes (rRootIv (rSag_e0 s r2)) 2)).hi), .bool ((rDivIv s.curve (rTimes (rRootIv (rSag_e0 s r2)) 2)).no)]) agg26 0 rfl rfl rfl rfl rfl rfl (ar_gd (d := (some 67)) (by show ((!(rRight (rSag_e1 s r2))) == false) = true; rw [h2]; rfl) rfl (st_cf (c_rRight (rDivIv s.curve (rTimes (rRootIv (rSag_e0 s r2)) 2))) Try.func40 rfl (by decide) rfl rfl rfl ?_)))
   refine ar_gd (d := (some 68)) (by show ((!(rRight (rSag_e1 s r2))) == false) = true; rw [h2]; rfl) rfl (st_un (v := .bool (!(rSag_e5 s r2))) rfl rfl (un_not rfl) (ao 69 rfl rfl (st_pkf' (b := !(rRight (rSag_e1 s r2))) (v := .bool (!(rSag_e5 s r2))) (by rw [h2]; rfl) rfl rfl rfl (aN ?_))))
   refine bool_split (rSag_e5 s r2) (fun h3 => ?_) (fun h3 => ?_)
   ·refine ac_else' (b := !(rSag_e5 s r2)) (by rw [h3]; rfl) rfl (ac_skip (aQ ?_))
    refine ac_env fun E1 hE1 => ?_
    have q4 : E1 4 = .pointer (some ⟨g2, 0, none⟩) := by rw [hE1]; rfl
    have q5 : E1 5 = .pointer (some ⟨g3, 0, none⟩) := by rw [hE1]; rfl
    have q8 : E1 8 = .pointer (some ⟨g6, 0, none⟩) := by rw [hE1]; rfl
    have q9 : E1 9 = .pointer (some ⟨g7, 0, none⟩) := by rw [hE1]; rfl
    clear hE1
    obtain ⟨E0, rfl⟩ : ∃ E0 : Env, E1 = ((((E0.put (some 4) (.pointer (some ⟨g2, 0, none⟩))).put (some 5) (.pointer (some ⟨g3, 0, none⟩))).put (some 8) (.pointer (some ⟨g6, 0, none⟩))).put (some 9) (.pointer (some ⟨g7, 0, none⟩))) := ⟨E1, by rw [put_self q4, put_self q5, put_self q8, put_self q9]⟩
    refine ac_stage follows [2, 3] [4, 5, 8, 9] ((((((E0.put (some 4) (.pointer (some ⟨g2, 0, none⟩))).put (some 5) (.pointer (some ⟨g3, 0, none⟩))).put (some 8) (.pointer (some ⟨g6, 0, none⟩))).put (some 9) (.pointer (some ⟨g7, 0, none⟩))).put (some 72) (.agg #[.int .i64 ((rSag_e1 s r2).lo), .int .i64 ((rSag_e1 s r2).hi), .bool ((rSag_e1 s r2).no)])).put (some 73) (.agg #[.int .i64 ((rDivIv s.curve (rTimes (rRootIv (rSag_e0 s r2)) 2)).lo), .int .i64 ((rDivIv s.curve (rTimes (rRootIv (rSag_e0 s r2)) 2)).hi), .bool ((rDivIv s.curve (rTimes (rRootIv (rSag_e0 s r2)) 2)).no)])) (fun Sg Dn stepR doneR => ?_) ⟨rfl, rfl, rfl, rfl, trivial⟩
    refine ((fun st12_fin => ?_) : (∀ (E : Env), E 4 = .pointer (some ⟨g2, 0, none⟩) → E 5 = .pointer (some ⟨g3, 0, none⟩) → Dn E ([(rSag_b2 s r2 g7), (rSag_b3 s r2 g6), (rSag_b4 s r2 g5), (rSag_b5 s r2 g4), (rSag_b2 s r2 g3), (rSag_b3 s r2 g2), ⟨g1, [.int .i64 r2.lo, .int .i64 r2.hi, .bool r2.no], 26, false⟩, (rSag_b6 s r2 g0)])) → _) ?_
    ·have st12_2 : ∀ (_u : Unit), Sg [3, 2] [0, 1] ((((((E0.put (some 4) (.pointer (some ⟨g2, 0, none⟩))).put (some 5) (.pointer (some ⟨g3, 0, none⟩))).put (some 8) (.pointer (some ⟨g6, 0, none⟩))).put (some 9) (.pointer (some ⟨g7, 0, none⟩))).put (some 72) (.agg #[.int .i64 ((rSag_e1 s r2).lo), .int .i64 ((rSag_e1 s r2).hi), .bool ((rSag_e1 s r2).no)])).put (some 73) (.agg #[.int .i64 ((rDivIv s.curve (rTimes (rRootIv (rSag_e0 s r2)) 2)).lo), .int .i64 ((rDivIv s.curve (rTimes (rRootIv (rSag_e0 s r2)) 2)).hi), .bool ((rDivIv s.curve (rTimes (rRootIv (rSag_e0 s r2)) 2)).no)])) ([(rSag_b2 s r2 g7), (rSag_b3 s r2 g6), (rSag_b4 s r2 g5), (rSag_b5 s r2 g4), (rSag_b2 s r2 g3), (rSag_b3 s r2 g2), ⟨g1, [.int .i64 r2.lo, .int .i64 r2.hi, .bool r2.no], 26, false⟩, (rSag_b6 s r2 g0)]) := by
      intro _u
      refine stepR [3, 2] [0, 1] _ _ [] [] [] [4, 5, 8, 9, 72, 73] (by kernel_rfl) (by kernel_rfl) trivial trivial (fun _ E hE => ?_)
      ·obtain ⟨w0_4, w1_5, w2_8, w3_9, w4_72, w5_73, _⟩ := hE
       exact st12_fin E w0_4 w1_5
     have st12_1 : ∀ (_u : Unit), Sg [2] [0] ((((((E0.put (some 4) (.pointer (some ⟨g2, 0, none⟩))).put (some 5) (.pointer (some ⟨g3, 0, none⟩))).put (some 8) (.pointer (some ⟨g6, 0, none⟩))).put (some 9) (.pointer (some ⟨g7, 0, none⟩))).put (some 72) (.agg #[.int .i64 ((rSag_e1 s r2).lo), .int .i64 ((rSag_e1 s r2).hi), .bool ((rSag_e1 s r2).no)])).put (some 73) (.agg #[.int .i64 ((rDivIv s.curve (rTimes (rRootIv (rSag_e0 s r2)) 2)).lo), .int .i64 ((rDivIv s.curve (rTimes (rRootIv (rSag_e0 s r2)) 2)).hi), .bool ((rDivIv s.curve (rTimes (rRootIv (rSag_e0 s r2)) 2)).no)])) ([(rSag_b2 s r2 g7), (rSag_b3 s r2 g6), (rSag_b4 s r2 g5), (rSag_b5 s r2 g4), ⟨g3, [.int .i64 0, .int .i64 0, .bool false], 26, false⟩, (rSag_b3 s r2 g2), ⟨g1, [.int .i64 r2.lo, .int .i64 r2.hi, .bool r2.no], 26, false⟩, (rSag_b6 s r2 g0)]) := by
      intro _u
      refine stepR [2] [0] _ _ [1] [3] [] [4, 5, 8, 9, 72, 73] (by kernel_rfl) (by kernel_rfl) ⟨?_, trivial⟩ ⟨?_, trivial⟩ (fun h => by cases h)
      ·exact tf_op (d := 73) (.agg #[.int .i64 ((rDivIv s.curve (rTimes (rRootIv (rSag_e0 s r2)) 2)).lo), .int .i64 ((rDivIv s.curve (rTimes (rRootIv (rSag_e0 s r2)) 2)).hi), .bool ((rDivIv s.curve (rTimes (rRootIv (rSag_e0 s r2)) 2)).no)]) rfl rfl rfl (st_lda (vs := [.int .i64 ((rDivIv s.curve (rTimes (rRootIv (rSag_e0 s r2)) 2)).lo), .int .i64 ((rDivIv s.curve (rTimes (rRootIv (rSag_e0 s r2)) 2)).hi), .bool ((rDivIv s.curve (rTimes (rRootIv (rSag_e0 s r2)) 2)).no)]) agg26 0 rfl rfl rfl rfl rfl rfl ⟨rfl, rfl⟩) rfl
      ·refine opR_op (d := none) rfl rfl rfl (st_sta (cs := [.int .i64 ((rDivIv s.curve (rTimes (rRootIv (rSag_e0 s r2)) 2)).lo), .int .i64 ((rDivIv s.curve (rTimes (rRootIv (rSag_e0 s r2)) 2)).hi), .bool ((rDivIv s.curve (rTimes (rRootIv (rSag_e0 s r2)) 2)).no)]) agg26 4 rfl rfl rfl rfl rfl rfl rfl rfl rfl ?_)
       exact ⟨_, _, _, _, st12_2 (), (List.Perm.refl _), by kernel_rfl, [4, 5, 8, 9, 72, 73], by kernel_rfl, ⟨rfl, rfl, rfl, rfl, rfl, rfl, trivial⟩, by kernel_rfl⟩
     refine stepR [] [] _ _ [0, 1] [2] [3] [4, 5, 8, 9, 72, 73] (by kernel_rfl) (by kernel_rfl) ⟨?_, ?_, trivial⟩ ⟨?_, trivial⟩ (fun h => by cases h)
     ·exact tf_op (d := 72) (.agg #[.int .i64 ((rSag_e1 s r2).lo), .int .i64 ((rSag_e1 s r2).hi), .bool ((rSag_e1 s r2).no)]) rfl rfl rfl (st_lda (vs := [.int .i64 ((rSag_e1 s r2).lo), .int .i64 ((rSag_e1 s r2).hi), .bool ((rSag_e1 s r2).no)]) agg26 1 rfl rfl rfl rfl rfl rfl ⟨rfl, rfl⟩) rfl
     ·exact tf_op (d := 73) (.agg #[.int .i64 ((rDivIv s.curve (rTimes (rRootIv (rSag_e0 s r2)) 2)).lo), .int .i64 ((rDivIv s.curve (rTimes (rRootIv (rSag_e0 s r2)) 2)).hi), .bool ((rDivIv s.curve (rTimes (rRootIv (rSag_e0 s r2)) 2)).no)]) rfl rfl rfl (st_lda (vs := [.int .i64 ((rDivIv s.curve (rTimes (rRootIv (rSag_e0 s r2)) 2)).lo), .int .i64 ((rDivIv s.curve (rTimes (rRootIv (rSag_e0 s r2)) 2)).hi), .bool ((rDivIv s.curve (rTimes (rRootIv (rSag_e0 s r2)) 2)).no)]) agg26 0 rfl rfl rfl rfl rfl rfl ⟨rfl, rfl⟩) rfl
     ·refine opR_op (d := none) rfl rfl rfl (st_sta (cs := [.int .i64 ((rSag_e1 s r2).lo), .int .i64 ((rSag_e1 s r2).hi), .bool ((rSag_e1 s r2).no)]) agg26 5 rfl rfl rfl rfl rfl rfl rfl rfl rfl ?_)
      exact ⟨_, _, _, _, st12_1 (), (List.Perm.refl _), by kernel_rfl, [4, 5, 8, 9, 72, 73], by kernel_rfl, ⟨rfl, rfl, rfl, rfl, rfl, rfl, trivial⟩, by kernel_rfl⟩
    intro E q4 q5
    obtain ⟨E0, rfl⟩ : ∃ E0 : Env, E = ((E0.put (some 4) (.pointer (some ⟨g2, 0, none⟩))).put (some 5) (.pointer (some ⟨g3, 0, none⟩))) := ⟨E, by rw [put_self q4, put_self q5]⟩
    refine doneR _ _ (ac_ret ?_)
    exact fin_eq (v := .tuple #[.agg #[.int .i64 ((rSag_e1 s r2).lo), .int .i64 ((rSag_e1 s r2).hi), .bool ((rSag_e1 s r2).no)], .agg #[.int .i64 ((rDivIv s.curve (rTimes (rRootIv (rSag_e0 s r2)) 2)).lo), .int .i64 ((rDivIv s.curve (rTimes (rRootIv (rSag_e0 s r2)) 2)).hi), .bool ((rDivIv s.curve (rTimes (rRootIv (rSag_e0 s r2)) 2)).no)]]) (by show _ = (fun (r : Iv × Iv) => (.tuple #[.agg #[.int .i64 r.1.lo, .int .i64 r.1.hi, .bool r.1.no], .agg #[.int .i64 r.2.lo, .int .i64 r.2.hi, .bool r.2.no]] : Value)) (rSag s r2); rw [rSag, h3, h2, h1] <;> rfl) (fin_ret (res_cc (vs := [.int .i64 ((rSag_e1 s r2).lo), .int .i64 ((rSag_e1 s r2).hi), .bool ((rSag_e1 s r2).no)]) (us := [.int .i64 ((rDivIv s.curve (rTimes (rRootIv (rSag_e0 s r2)) 2)).lo), .int .i64 ((rDivIv s.curve (rTimes (rRootIv (rSag_e0 s r2)) 2)).hi), .bool ((rDivIv s.curve (rTimes (rRootIv (rSag_e0 s r2)) 2)).no)]) agg26 agg26 5 4 rfl rfl rfl rfl rfl rfl rfl rfl rfl rfl rfl))
   ·refine ac_then' (b := !(rSag_e5 s r2)) (by rw [h3]; rfl) rfl (aQ (aL (aC 70 c_rNone14 Try.func91 ⟨rfl, by decide⟩ rfl rfl (aC 71 c_rNone14 Try.func91 ⟨rfl, by decide⟩ rfl rfl (aS [.int .i64 rNone14.lo, .int .i64 rNone14.hi, .bool rNone14.no] agg26 5 rfl rfl rfl rfl rfl rfl (aS [.int .i64 rNone14.lo, .int .i64 rNone14.hi, .bool rNone14.no] agg26 4 rfl rfl rfl rfl rfl rfl (aN (ac_ret ?_))))))))
    exact fin_eq (v := .tuple #[.agg #[.int .i64 rNone14.lo, .int .i64 rNone14.hi, .bool rNone14.no], .agg #[.int .i64 rNone14.lo, .int .i64 rNone14.hi, .bool rNone14.no]]) (by show _ = (fun (r : Iv × Iv) => (.tuple #[.agg #[.int .i64 r.1.lo, .int .i64 r.1.hi, .bool r.1.no], .agg #[.int .i64 r.2.lo, .int .i64 r.2.hi, .bool r.2.no]] : Value)) (rSag s r2); rw [rSag, h3, h2, h1] <;> rfl) (fin_ret (res_cc (vs := [.int .i64 rNone14.lo, .int .i64 rNone14.hi, .bool rNone14.no]) (us := [.int .i64 rNone14.lo, .int .i64 rNone14.hi, .bool rNone14.no]) agg26 agg26 5 4 rfl rfl rfl rfl rfl rfl rfl rfl rfl rfl rfl))
  ·refine aK 66 (by show ((!(rRight (rSag_e1 s r2))) == false) = false; rw [h2]; rfl) rfl (aK 67 (by show ((!(rRight (rSag_e1 s r2))) == false) = false; rw [h2]; rfl) rfl (aK 68 (by show ((!(rRight (rSag_e1 s r2))) == false) = false; rw [h2]; rfl) rfl (ao 69 rfl rfl (st_pkt' (b := !(rRight (rSag_e1 s r2))) (v := .bool true) (by rw [h2]; rfl) rfl rfl rfl (aN (ac_then rfl (aQ (aL (aC 70 c_rNone14 Try.func91 ⟨rfl, by decide⟩ rfl rfl (aC 71 c_rNone14 Try.func91 ⟨rfl, by decide⟩ rfl rfl (aS [.int .i64 rNone14.lo, .int .i64 rNone14.hi, .bool rNone14.no] agg26 5 rfl rfl rfl rfl rfl rfl ?_)))))))))))
   refine aS [.int .i64 rNone14.lo, .int .i64 rNone14.hi, .bool rNone14.no] agg26 4 rfl rfl rfl rfl rfl rfl (aN (ac_ret ?_))
   exact fin_eq (v := .tuple #[.agg #[.int .i64 rNone14.lo, .int .i64 rNone14.hi, .bool rNone14.no], .agg #[.int .i64 rNone14.lo, .int .i64 rNone14.hi, .bool rNone14.no]]) (by show _ = (fun (r : Iv × Iv) => (.tuple #[.agg #[.int .i64 r.1.lo, .int .i64 r.1.hi, .bool r.1.no], .agg #[.int .i64 r.2.lo, .int .i64 r.2.hi, .bool r.2.no]] : Value)) (rSag s r2); rw [rSag, h2, h1] <;> rfl) (fin_ret (res_cc (vs := [.int .i64 rNone14.lo, .int .i64 rNone14.hi, .bool rNone14.no]) (us := [.int .i64 rNone14.lo, .int .i64 rNone14.hi, .bool rNone14.no]) agg26 agg26 5 4 rfl rfl rfl rfl rfl rfl rfl rfl rfl rfl rfl))
end Go.Proofs.Ythngkopcadlciaa
namespace Go.Proofs.Ythngkopcadlciaa
def flat (l : List Iv) : List Value := l.flatMap fun a => [.int .i64 a.lo, .int .i64 a.hi, .bool a.no]
theorem flat_length (l : List Iv) : (flat l).length = 3 * l.length := by
  induction l with
  | nil => rfl
  | cons a l ih => simp only [flat, List.flatMap_cons, List.length_append, List.length_cons, List.length_nil] at ih ⊢; omega
theorem flat_append (a b : List Iv) : flat (a ++ b) = flat a ++ flat b := by simp [flat]
def cel (a : Iv) : List Value := [.int .i64 a.lo, .int .i64 a.hi, .bool a.no]
end Go.Proofs.Ythngkopcadlciaa
namespace Go.Proofs.Ythngkopcadlciaa
open Go.RowKit
section
variable {p : Program} {ops : Array Oper} {Q : Exit → Act → World → Prop}
def noDefer (ops : Array Oper) : Bool := ops.all fun o => match o.op with | .defer _ => false | _ => true
theorem noDefer_spec (h : noDefer ops = true) {i : Nat} {o : Oper} (ho : ops[i]? = some o) : ∀ c, o.op ≠ .defer c := by
  intro c hc
  have := Array.all_eq_true_iff_forall_mem.1 h o (Array.mem_of_getElem? ho)
  rw [hc] at this
  cases this
theorem upon_in {o : Oper} {a : Act} {w : World} {K K' : Act → World → Prop} (l m : Nat) (hd : ∀ c, o.op ≠ .defer c) (hQ : ¬ LetsOut Q) (hK : ∀ a w, K a w → K' a w)
    (h : o.wp p a w K Q) : o.wpIn (Fence.wide.inRound l) m p a w K' Q := by
  refine ⟨fun _ _ => trivial, ?_⟩
  rw [Oper.semAt_eq _ _ _ hd]
  unfold Oper.wp at h
  revert h
  cases hr : (execOp a.eval o).run p w with
  | ok x w' =>
    cases x with
    | value v => exact hK _ _
    | skip => exact hK _ _
    | defer d => exact hK _ _
    | enter f args =>
      intro h
      refine ⟨fun hn => absurd (show false = true from hn) (by decide), CallsIn.inRound l (callsIn_wide.2 (h.mono fun e w'' h => ?_))⟩
      cases e with
      | returned v => exact hK _ _ h
      | panicked c => exact h
      | outgrown => exact h
    | row row args =>
      intro h
      refine ⟨fun hn => absurd (show false = true from hn) (by decide), fun c cs _ => ?_⟩
      obtain ⟨v, w'', r, s⟩ := h c cs
      exact ⟨v, w'', hK _ _ r, stepsIn_wide.2 s⟩
    | _ => exact fun h => h.elim
  | halt x w' =>
    cases x <;> exact fun h => h
theorem wpOp_in {i : Nat} {a : Act} {w : World} {K K' : Act → World → Prop} (l m : Nat) (hd : noDefer ops = true) (hQ : ¬ LetsOut Q) (hK : ∀ a w, K a w → K' a w) (h : wpOp p ops Q i K a w) : wpOpIn (Fence.wide.inRound l) m p ops Q i K' a w := by
  unfold wpOp at h
  unfold wpOpIn
  cases ho : ops[i]? with
  | none => rw [ho] at h; exact hK _ _ h
  | some o =>
    rw [ho] at h
    simp only at h ⊢
    split
    · rename_i hw
      rw [if_pos hw] at h
      rcases h with h | h
      · exact upon_in l m (noDefer_spec hd ho) hQ hK h
      · exact absurd h.2 hQ
    · rename_i hw
      rw [if_neg hw] at h
      exact ⟨fun _ _ => trivial, hK _ _ h⟩
theorem wpAny_in (l m : Nat) (hd : noDefer ops = true) (hQ : ¬ LetsOut Q) : ∀ (fuel : Nat) (L : Array Bool) (a : Act) (w : World), wpAny p .any ops Q fuel L a w → wpAnyIn (Fence.wide.inRound l) m p .any ops Q fuel L a w := by
  intro fuel
  induction fuel with
  | zero => intro L a w h; exact h
  | succ fuel ih => intro L a w h; exact ⟨h.1, fun i hi => wpOp_in l m hd hQ (fun a w h => ih _ a w h) (h.2 i hi)⟩
theorem wpList_in (l m : Nat) (hQ : ¬ LetsOut Q) : ∀ (os : List Oper) (a : Act) (w : World), (∀ o ∈ os, ∀ c, o.op ≠ .defer c) → wpList p ops Q os a w → wpListIn (Fence.wide.inRound l) m p ops Q os a w := by
  intro os
  induction os with
  | nil => intro a w _ h; exact h
  | cons o os ih =>
    intro a w hd h
    unfold wpList at h
    unfold wpListIn
    have hi : ∀ a w, wpList p ops Q os a w → wpListIn (Fence.wide.inRound l) m p ops Q os a w := fun a w h => ih a w (fun x hx => hd x (List.mem_cons_of_mem _ hx)) h
    split
    · rename_i hw
      rw [if_pos hw] at h
      rcases h with h | h
      · exact upon_in l m (hd o List.mem_cons_self) hQ hi h
      · exact absurd h.2 hQ
    · rename_i hw
      rw [if_neg hw] at h
      exact ⟨fun _ _ => trivial, hi _ _ h⟩
theorem aq_out {n : Nat} {β : Base} {Q : Exit → Env → List Box → Prop} (hQ : ∀ E H, ¬ Q .outgrown E H) : ¬ LetsOut (AQ n β Q) := by
  rintro ⟨a, w, E, H, h, _⟩
  exact hQ _ _ h
theorem region_in {n id : Nat} {β : Base} {Q : Exit → Env → List Box → Prop} {E : Env} {H : List Box} {a : Act} {w : World} (l m : Nat) (hd : noDefer ops = true) (hQ : ∀ E H, ¬ Q .outgrown E H) (h : AR p n ops Q ops.toList E H) (hO : Own β H w) (hB : Keeps β w) (hs : Sees n E a) :
    (Code.region id ops false).wpIn (Fence.wide.inRound l) m p (AQ n β Q) a w :=
  wpIn_region_list (wpList_in l m (aq_out hQ) _ _ _ (fun o ho => by
    obtain ⟨i, hi⟩ := List.mem_iff_getElem?.1 ho
    exact noDefer_spec hd (by simpa using hi)) (h β w a hO hB hs))
theorem draw_in {n id : Nat} {β : Base} {Q : Exit → Env → List Box → Prop} {E : Env} {H : List Box} {a : Act} {w : World} (l m : Nat) (fx ta : List Nat) (tl : List Oper) (hd : noDefer ops = true) (hQ : ∀ E H, ¬ Q .outgrown E H) (hok : drawOk ops fx [] ta = true) (hm : p.follows .mixedOrders = true) (htl : (ta.map fun i => (ops[i]?).getD default) = tl)
    (h : DWalk p n ops H fx E fun E => AR p n ops Q tl E H) (hO : Own β H w) (hB : Keeps β w) (hs : Sees n E a) :
    (Code.region id ops true).wpIn (Fence.wide.inRound l) m p (AQ n β Q) a w := by
  subst htl
  exact wpIn_region_any hm (wpAny_in l m hd (aq_out hQ) _ _ _ _ (any_draw fx ta [] hok (by simp) (by simpa [putAll] using h) β w a hO hB hs))
end
end Go.Proofs.Ythngkopcadlciaa
namespace Go.Proofs.Ythngkopcadlciaa
open Go.RowKit Go.Shelf
attribute [local go_sem] Oper.semAt_some
def bk (l : List Iv) (j : Nat) : Nat × Iv := (l.length - 1 - j, (l[l.length - 1 - j]?).getD ⟨0, 0, false⟩)
def upto (l : List Iv) (k : Nat) : List (Nat × Iv) := (List.range k).map (bk l)
theorem upto_succ (l : List Iv) (k : Nat) : upto l (k + 1) = upto l k ++ [bk l k] := by simp [upto, List.range_succ]
theorem upto_length (l : List Iv) (k : Nat) : (upto l k).length = k := by simp [upto]
set_option maxHeartbeats 1000000 in
theorem back_in (F : Fence) (n : Nat) (h5 : F.fn 66) (hro : F.round = none) (a : Option Addr) (len cap : Nat) (w : World) :
    CallsIn F n Try.prog 66 #[.slice a len cap] w fun e w' => e = .returned (.func (.func 99) #[] #[.pointer (some ⟨w.heap.size, 0, none⟩)]) ∧ w' = w.alloc (.cells #[.slice a len cap] 24) := by
  refine callsIn_of_wp Try.func66 rfl h5 ?_ hro
  simp only [Try.ntmps66, List.size_toArray, List.length_cons, List.length_nil, Nat.reduceAdd, Nat.reduceSub, Array.replicate_succ, Array.replicate_zero, List.push_toArray, List.append_toArray, List.nil_append, List.cons_append]
  gi_wp2
  go_ret
  exact ⟨rfl, rfl⟩
def elt (l : List Iv) (m : Nat) : Iv := (l[m]?).getD ⟨0, 0, false⟩
def Lies (W : World) (b off : Nat) (l : List Iv) : Prop :=
  ∀ m, m < l.length → W.cell? ⟨b, off + m * 3, none⟩ = some (.int .i64 (elt l m).lo) ∧ W.cell? ⟨b, off + m * 3 + 1, none⟩ = some (.int .i64 (elt l m).hi) ∧ W.cell? ⟨b, off + m * 3 + 2, none⟩ = some (.bool (elt l m).no)
def KpB (b Bs : Nat) (A B : World) : Prop := B.heap[b]? = A.heap[b]? ∧ B.heap[Bs]? = A.heap[Bs]?
theorem KpB.trans {b Bs : Nat} {A B C : World} (h : KpB b Bs A B) (k : KpB b Bs B C) : KpB b Bs A C := ⟨k.1.trans h.1, k.2.trans h.2⟩
set_option maxRecDepth 100000 in
set_option maxHeartbeats 2000000 in
theorem back1_in (F : Fence) (n : Nat) (h7 : F.fn 99) (hro : F.round = none) (hn : 1 ≤ n) (l Bs b off cap : Nat) (zs : List Iv) (hreach : zs.length * 24 ≤ 140737488351232) (J Jx : List (Nat × Iv) → World → Prop)
    (hY : ∀ pre x W, J pre W → pre.length < zs.length → YieldAt F (n - 1) Try.prog l #[.int .i64 (x.1 : Int), x.2.v] W fun e W' =>
      (e = .returned (.bool true) ∧ J (pre ++ [x]) W' ∧ KpB b Bs W W') ∨ (e = .returned (.bool false) ∧ Jx (pre ++ [x]) W'))
    (W : World) (hBs : W.cell? ⟨Bs, 0, none⟩ = some (.slice (some ⟨b, off, none⟩) zs.length cap)) (hc : Lies W b off zs) (h0 : J [] W) :
    CallsIn F n Try.prog 99 #[.func (.yield l) #[] #[], .pointer (some ⟨Bs, 0, none⟩)] W fun e W' => (∃ v, e = .returned v) ∧
      ((∃ ys, ys = upto zs zs.length ∧ J ys W') ∨ (∃ pre, (∃ k, k ≤ zs.length ∧ pre = upto zs k) ∧ Jx pre W')) := by
  refine callsIn_of_wp Try.func99 rfl h7 ?_ hro
  simp only [Try.ntmps99, List.size_toArray, List.length_cons, List.length_nil, Nat.reduceAdd, Nat.reduceSub, Array.replicate_succ, Array.replicate_zero, List.push_toArray, List.append_toArray, List.nil_append, List.cons_append]
  gi_wp2
  gi_loopw [3] (fun i wr => ∃ k m : Nat, m + k = zs.length ∧ i = .int .i64 ((m : Int) - 1) ∧ J (upto zs k) wr ∧ KpB b Bs W wr)
    (fun i _ => (intOf i + 1).toNat)
  case atStart => exact ⟨0, zs.length, by omega, by simp, h0, rfl, rfl⟩
  case round =>
    obtain ⟨k, m, hk, rfl, hJs, hnx⟩ := hrel
    have hBs' := (World.cell?_of_block (a := ⟨Bs, 0, none⟩) hnx.2).trans hBs
    cases m with
    | zero =>
      obtain rfl : k = zs.length := by omega
      rw [show (((0 : Nat) : Int) - 1) = -1 from rfl]
      gi_wp2
      go_end0
      exact ⟨⟨_, rfl⟩, .inl ⟨_, rfl, hJs⟩⟩
    | succ m =>
      obtain ⟨e1, e2, e3⟩ := hc m (by omega)
      have d1 := (World.cell?_of_block (a := ⟨b, off + m * 3, none⟩) hnx.1).trans e1
      have d2 := (World.cell?_of_block (a := ⟨b, off + m * 3 + 1, none⟩) hnx.1).trans e2
      have d3 := (World.cell?_of_block (a := ⟨b, off + m * 3 + 2, none⟩) hnx.1).trans e3
      have hm : m < zs.length := by omega
      have hi : (((m + 1 : Nat) : Int) - 1) = (m : Int) := by omega
      rw [hi]
      have hx : bk zs k = (m, elt zs m) := by
        have : zs.length - 1 - k = m := by omega
        simp only [bk, this, elt]
      obtain ⟨fn, tmps, assign, body, hy, hR⟩ := hY _ (bk zs k) wr hJs (by rw [upto_length]; omega)
      rw [hx] at hy hR
      dsimp only at hy
      gi_wp2
      refine hR.mono ?_
      rintro e W3 (⟨rfl, hJ3, hk3⟩ | ⟨rfl, hJx3⟩)
      · gi_wp2
        go_roundw
        case rel => exact ⟨k + 1, m, by omega, by simp, by rw [upto_succ, hx]; exact hJ3, hnx.trans hk3⟩
        case measure => simp [intOf]
      · gi_wp2
        refine bodyPost_ret (results_none rfl _ _ _) rfl ?_
        exact ⟨⟨_, rfl⟩, .inr ⟨_, ⟨k + 1, by omega, by rw [upto_succ, hx]⟩, hJx3⟩⟩
theorem back_stops (F : Fence) (n : Nat) (h7 : F.fn 99) (hro : F.round = none) (hn : 1 ≤ n) (Bs b off cap : Nat) (zs : List Iv) (hreach : zs.length * 24 ≤ 140737488351232) (w : World) (hBs : Bs < w.heap.size) (hb : b < w.heap.size)
    (hc : w.cell? ⟨Bs, 0, none⟩ = some (.slice (some ⟨b, off, none⟩) zs.length cap)) (hL : Lies w b off zs) :
    SeqStopsK F n Try.prog 99 #[.pointer (some ⟨Bs, 0, none⟩)] (fun x : Nat × Iv => #[Value.int .i64 (x.1 : Int), x.2.v]) (KpB b Bs) (fun ys => ys = upto zs zs.length) (fun pre => ∃ k, k ≤ zs.length ∧ pre = upto zs k) zs.length w := fun l J Jx W hW _ _ hY h0 => by
  have hc' := (hW.cell (p := ⟨Bs, 0, none⟩) hBs).trans hc
  have hL' : Lies W b off zs := fun m hm => by
    obtain ⟨e1, e2, e3⟩ := hL m hm
    exact ⟨(hW.cell (p := ⟨b, off + m * 3, none⟩) hb).trans e1, (hW.cell (p := ⟨b, off + m * 3 + 1, none⟩) hb).trans e2, (hW.cell (p := ⟨b, off + m * 3 + 2, none⟩) hb).trans e3⟩
  exact back1_in F n h7 hro hn l Bs b off cap zs hreach J Jx hY W hc' hL' h0
end Go.Proofs.Ythngkopcadlciaa
