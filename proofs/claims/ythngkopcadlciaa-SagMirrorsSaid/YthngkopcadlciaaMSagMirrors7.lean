import Derived.Test.YthngkopcadlciaaMSagMirrors5
import Derived.Test.YthngkopcadlciaaMSagMirrors6
import Derived.Test.YthngkopcadlciaaMSagMirrors4
import Derived.Test.YthngkopcadlciaaMSagMirrors2
import Derived.Test.YthngkopcadlciaaMSagMirrors1
set_option linter.unusedVariables false
set_option linter.unusedSimpArgs false
namespace Go.Proofs.Ythngkopcadlciaa
open Go.RowKit
attribute [local irreducible] AC AR DWalk
def sagRound_e0 (s : Surf) (r : Iv) : Iv := (ivSub (ivPoint 65536) (ivMul (ivMul s.conic (ivSqr s.curve)) r))
def sagRound_e1 (s : Surf) (r : Iv) : Iv := (ivDiv (ivMul s.curve r) (ivAdd (ivPoint 65536) (ivRoot (sagRound_e0 s r))))
def sagRound (s : Surf) (r : Iv) : Iv × Iv := ((sagRound_e1 s r), (ivDiv s.curve (ivTimes (ivRoot (sagRound_e0 s r)) 2)))
set_option maxRecDepth 100000 in
theorem c_sagRound (s : Surf) (r : Iv) : Gets Try.prog 73 #[.agg #[.bool s.stop, .bool s.bent, .int .i64 s.curve.lo, .int .i64 s.curve.hi, .bool s.curve.no, .int .i64 s.conic.lo, .int .i64 s.conic.hi, .bool s.conic.no, .int .i64 s.a4.lo, .int .i64 s.a4.hi, .bool s.a4.no, .int .i64 s.a6.lo, .int .i64 s.a6.hi, .bool s.a6.no, .int .i64 s.at_.lo, .int .i64 s.at_.hi, .bool s.at_.no, .int .i64 s.open2.lo, .int .i64 s.open2.hi, .bool s.open2.no, .int .i64 s.ratio.lo, .int .i64 s.ratio.hi, .bool s.ratio.no], .agg #[.int .i64 r.lo, .int .i64 r.hi, .bool r.no]] ((fun (r : Iv × Iv) => (.tuple #[.agg #[.int .i64 r.1.lo, .int .i64 r.1.hi, .bool r.1.no], .agg #[.int .i64 r.2.lo, .int .i64 r.2.hi, .bool r.2.no]] : Value)) (sagRound s r)) := by
 refine gets_fin Try.func73 rfl rfl rfl (aQ (aL ?_))
 refine ao 2 rfl rfl (st_box (v := .agg #[.bool s.stop, .bool s.bent, .int .i64 s.curve.lo, .int .i64 s.curve.hi, .bool s.curve.no, .int .i64 s.conic.lo, .int .i64 s.conic.hi, .bool s.conic.no, .int .i64 s.a4.lo, .int .i64 s.a4.hi, .bool s.a4.no, .int .i64 s.a6.lo, .int .i64 s.a6.hi, .bool s.a6.no, .int .i64 s.at_.lo, .int .i64 s.at_.hi, .bool s.at_.no, .int .i64 s.open2.lo, .int .i64 s.open2.hi, .bool s.open2.no, .int .i64 s.ratio.lo, .int .i64 s.ratio.hi, .bool s.ratio.no]) (cs := [.bool s.stop, .bool s.bent, .int .i64 s.curve.lo, .int .i64 s.curve.hi, .bool s.curve.no, .int .i64 s.conic.lo, .int .i64 s.conic.hi, .bool s.conic.no, .int .i64 s.a4.lo, .int .i64 s.a4.hi, .bool s.a4.no, .int .i64 s.a6.lo, .int .i64 s.a6.hi, .bool s.a6.no, .int .i64 s.at_.lo, .int .i64 s.at_.hi, .bool s.at_.no, .int .i64 s.open2.lo, .int .i64 s.open2.hi, .bool s.open2.no, .int .i64 s.ratio.lo, .int .i64 s.ratio.hi, .bool s.ratio.no]) rfl rfl rfl fun g0 => ?_)
 refine ao 3 rfl rfl (st_box (v := .agg #[.int .i64 r.lo, .int .i64 r.hi, .bool r.no]) (cs := [.int .i64 r.lo, .int .i64 r.hi, .bool r.no]) rfl rfl rfl fun g1 => (ao 4 rfl rfl (st_new zero26 rfl fun g2 => (ao 5 rfl rfl (st_new zero26 rfl fun g3 => (aN (aQ (aL (aC 8 (c_ivPoint 65536) Try.func29 ⟨rfl, by decide⟩ rfl rfl (ao 6 rfl rfl (st_new zero26 rfl fun g4 => (aS [.int .i64 ((ivPoint 65536).lo), .int .i64 ((ivPoint 65536).hi), .bool ((ivPoint 65536).no)] agg26 0 rfl rfl rfl rfl rfl rfl (aN (aQ ?_))))))))))))))
 refine ac_draw1 (id := 2) [0, 1, 2, 3, 4, 5, 6, 7, 8, 9, 10] [12] 11 7 26 _ _ (by kernel_rfl) follows rfl zero26 ⟨_, rfl, rfl, rfl, rfl⟩ (dw_op (d := (some 9)) (.agg #[.int .i64 ((ivPoint 65536).lo), .int .i64 ((ivPoint 65536).hi), .bool ((ivPoint 65536).no)]) rfl rfl rfl (st_lda (vs := [.int .i64 ((ivPoint 65536).lo), .int .i64 ((ivPoint 65536).hi), .bool ((ivPoint 65536).no)]) agg26 0 rfl rfl rfl rfl rfl rfl ⟨rfl, rfl⟩) (dw_op (d := (some 10)) (.pointer (some ⟨g0, 5, none⟩)) rfl rfl rfl (st_fa rfl fa41_3 rfl ⟨rfl, rfl⟩) ?_))
 refine dw_op (d := (some 11)) (.agg #[.int .i64 s.conic.lo, .int .i64 s.conic.hi, .bool s.conic.no]) rfl rfl rfl (st_lda (vs := [.int .i64 s.conic.lo, .int .i64 s.conic.hi, .bool s.conic.no]) agg26 4 rfl rfl rfl rfl rfl rfl ⟨rfl, rfl⟩) (dw_op (d := (some 12)) (.pointer (some ⟨g0, 2, none⟩)) rfl rfl rfl (st_fa rfl fa41_2 rfl ⟨rfl, rfl⟩) (dw_op (d := (some 13)) (.agg #[.int .i64 s.curve.lo, .int .i64 s.curve.hi, .bool s.curve.no]) rfl rfl rfl (st_lda (vs := [.int .i64 s.curve.lo, .int .i64 s.curve.hi, .bool s.curve.no]) agg26 4 rfl rfl rfl rfl rfl rfl ⟨rfl, rfl⟩) ?_))
 refine dw_op (d := (some 14)) (.agg #[.int .i64 ((ivSqr s.curve).lo), .int .i64 ((ivSqr s.curve).hi), .bool ((ivSqr s.curve).no)]) rfl rfl rfl (st_cf (c_ivSqr s.curve) Try.func94 rfl (by decide) rfl rfl rfl ⟨rfl, rfl⟩) (dw_op (d := (some 15)) (.agg #[.int .i64 ((ivMul s.conic (ivSqr s.curve)).lo), .int .i64 ((ivMul s.conic (ivSqr s.curve)).hi), .bool ((ivMul s.conic (ivSqr s.curve)).no)]) rfl rfl rfl (st_cf (c_ivMul s.conic (ivSqr s.curve)) Try.func68 rfl (by decide) rfl rfl rfl ⟨rfl, rfl⟩) ?_)
 refine dw_op (d := (some 16)) (.agg #[.int .i64 r.lo, .int .i64 r.hi, .bool r.no]) rfl rfl rfl (st_lda (vs := [.int .i64 r.lo, .int .i64 r.hi, .bool r.no]) agg26 3 rfl rfl rfl rfl rfl rfl ⟨rfl, rfl⟩) (dw_op (d := (some 17)) (.agg #[.int .i64 ((ivMul (ivMul s.conic (ivSqr s.curve)) r).lo), .int .i64 ((ivMul (ivMul s.conic (ivSqr s.curve)) r).hi), .bool ((ivMul (ivMul s.conic (ivSqr s.curve)) r).no)]) rfl rfl rfl (st_cf (c_ivMul (ivMul s.conic (ivSqr s.curve)) r) Try.func68 rfl (by decide) rfl rfl rfl ⟨rfl, rfl⟩) ?_)
 refine dw_op (d := (some 18)) (.agg #[.int .i64 ((sagRound_e0 s r).lo), .int .i64 ((sagRound_e0 s r).hi), .bool ((sagRound_e0 s r).no)]) rfl rfl rfl (st_cf (c_ivSub (ivPoint 65536) (ivMul (ivMul s.conic (ivSqr s.curve)) r)) Try.func30 rfl (by decide) rfl rfl rfl ⟨rfl, rfl⟩) (dw_op (d := (some 19)) (.agg #[.int .i64 ((ivRoot (sagRound_e0 s r)).lo), .int .i64 ((ivRoot (sagRound_e0 s r)).hi), .bool ((ivRoot (sagRound_e0 s r)).no)]) rfl rfl rfl (st_cf (c_ivRoot (sagRound_e0 s r)) Try.func102 rfl (by decide) rfl rfl rfl ⟨rfl, rfl⟩) (dw_nil ?_))
 intro g5
 refine aS [.int .i64 ((ivRoot (sagRound_e0 s r)).lo), .int .i64 ((ivRoot (sagRound_e0 s r)).hi), .bool ((ivRoot (sagRound_e0 s r)).no)] agg26 0 rfl rfl rfl rfl rfl rfl (aN (aQ ?_))
 refine ac_draw0 (id := 3) [0, 1, 2, 3, 4, 5, 6, 7, 8, 9, 10, 11, 12] [13, 14] _ (by kernel_rfl) follows rfl  (dw_op (d := (some 20)) (.pointer (some ⟨g0, 2, none⟩)) rfl rfl rfl (st_fa rfl fa41_2 rfl ⟨rfl, rfl⟩) (dw_op (d := (some 21)) (.agg #[.int .i64 s.curve.lo, .int .i64 s.curve.hi, .bool s.curve.no]) rfl rfl rfl (st_lda (vs := [.int .i64 s.curve.lo, .int .i64 s.curve.hi, .bool s.curve.no]) agg26 5 rfl rfl rfl rfl rfl rfl ⟨rfl, rfl⟩) (dw_op (d := (some 22)) (.agg #[.int .i64 r.lo, .int .i64 r.hi, .bool r.no]) rfl rfl rfl (st_lda (vs := [.int .i64 r.lo, .int .i64 r.hi, .bool r.no]) agg26 4 rfl rfl rfl rfl rfl rfl ⟨rfl, rfl⟩) ?_)))
 refine dw_op (d := (some 23)) (.agg #[.int .i64 ((ivMul s.curve r).lo), .int .i64 ((ivMul s.curve r).hi), .bool ((ivMul s.curve r).no)]) rfl rfl rfl (st_cf (c_ivMul s.curve r) Try.func68 rfl (by decide) rfl rfl rfl ⟨rfl, rfl⟩) (dw_op (d := (some 24)) (.agg #[.int .i64 ((ivPoint 65536).lo), .int .i64 ((ivPoint 65536).hi), .bool ((ivPoint 65536).no)]) rfl rfl rfl (st_lda (vs := [.int .i64 ((ivPoint 65536).lo), .int .i64 ((ivPoint 65536).hi), .bool ((ivPoint 65536).no)]) agg26 1 rfl rfl rfl rfl rfl rfl ⟨rfl, rfl⟩) ?_)
 refine dw_op (d := (some 25)) (.agg #[.int .i64 ((ivRoot (sagRound_e0 s r)).lo), .int .i64 ((ivRoot (sagRound_e0 s r)).hi), .bool ((ivRoot (sagRound_e0 s r)).no)]) rfl rfl rfl (st_lda (vs := [.int .i64 ((ivRoot (sagRound_e0 s r)).lo), .int .i64 ((ivRoot (sagRound_e0 s r)).hi), .bool ((ivRoot (sagRound_e0 s r)).no)]) agg26 0 rfl rfl rfl rfl rfl rfl ⟨rfl, rfl⟩) ?_
 refine dw_op (d := (some 26)) (.agg #[.int .i64 ((ivAdd (ivPoint 65536) (ivRoot (sagRound_e0 s r))).lo), .int .i64 ((ivAdd (ivPoint 65536) (ivRoot (sagRound_e0 s r))).hi), .bool ((ivAdd (ivPoint 65536) (ivRoot (sagRound_e0 s r))).no)]) rfl rfl rfl (st_cf (c_ivAdd (ivPoint 65536) (ivRoot (sagRound_e0 s r))) Try.func67 rfl (by decide) rfl rfl rfl ⟨rfl, rfl⟩) (dw_op (d := (some 27)) (.agg #[.int .i64 ((sagRound_e1 s r).lo), .int .i64 ((sagRound_e1 s r).hi), .bool ((sagRound_e1 s r).no)]) rfl rfl rfl (st_cf (c_ivDiv (ivMul s.curve r) (ivAdd (ivPoint 65536) (ivRoot (sagRound_e0 s r)))) Try.func33 rfl (by decide) rfl rfl rfl ⟨rfl, rfl⟩) ?_)
 refine dw_op (d := (some 28)) (.pointer (some ⟨g0, 2, none⟩)) rfl rfl rfl (st_fa rfl fa41_2 rfl ⟨rfl, rfl⟩) (dw_op (d := (some 29)) (.agg #[.int .i64 s.curve.lo, .int .i64 s.curve.hi, .bool s.curve.no]) rfl rfl rfl (st_lda (vs := [.int .i64 s.curve.lo, .int .i64 s.curve.hi, .bool s.curve.no]) agg26 5 rfl rfl rfl rfl rfl rfl ⟨rfl, rfl⟩) ?_)
 refine dw_op (d := (some 30)) (.agg #[.int .i64 ((ivRoot (sagRound_e0 s r)).lo), .int .i64 ((ivRoot (sagRound_e0 s r)).hi), .bool ((ivRoot (sagRound_e0 s r)).no)]) rfl rfl rfl (st_lda (vs := [.int .i64 ((ivRoot (sagRound_e0 s r)).lo), .int .i64 ((ivRoot (sagRound_e0 s r)).hi), .bool ((ivRoot (sagRound_e0 s r)).no)]) agg26 0 rfl rfl rfl rfl rfl rfl ⟨rfl, rfl⟩) (dw_op (d := (some 31)) (.agg #[.int .i64 ((ivTimes (ivRoot (sagRound_e0 s r)) 2).lo), .int .i64 ((ivTimes (ivRoot (sagRound_e0 s r)) 2).hi), .bool ((ivTimes (ivRoot (sagRound_e0 s r)) 2).no)]) rfl rfl rfl (st_cf (c_ivTimes (ivRoot (sagRound_e0 s r)) 2) Try.func31 rfl (by decide) rfl rfl rfl ⟨rfl, rfl⟩) ?_)
 refine dw_op (d := (some 32)) (.agg #[.int .i64 ((ivDiv s.curve (ivTimes (ivRoot (sagRound_e0 s r)) 2)).lo), .int .i64 ((ivDiv s.curve (ivTimes (ivRoot (sagRound_e0 s r)) 2)).hi), .bool ((ivDiv s.curve (ivTimes (ivRoot (sagRound_e0 s r)) 2)).no)]) rfl rfl rfl (st_cf (c_ivDiv s.curve (ivTimes (ivRoot (sagRound_e0 s r)) 2)) Try.func33 rfl (by decide) rfl rfl rfl ⟨rfl, rfl⟩) (dw_nil (aS [.int .i64 ((sagRound_e1 s r).lo), .int .i64 ((sagRound_e1 s r).hi), .bool ((sagRound_e1 s r).no)] agg26 3 rfl rfl rfl rfl rfl rfl ?_))
 refine aS [.int .i64 ((ivDiv s.curve (ivTimes (ivRoot (sagRound_e0 s r)) 2)).lo), .int .i64 ((ivDiv s.curve (ivTimes (ivRoot (sagRound_e0 s r)) 2)).hi), .bool ((ivDiv s.curve (ivTimes (ivRoot (sagRound_e0 s r)) 2)).no)] agg26 2 rfl rfl rfl rfl rfl rfl (aN (ac_ret ?_))
 exact fin_eq (v := .tuple #[.agg #[.int .i64 ((sagRound_e1 s r).lo), .int .i64 ((sagRound_e1 s r).hi), .bool ((sagRound_e1 s r).no)], .agg #[.int .i64 ((ivDiv s.curve (ivTimes (ivRoot (sagRound_e0 s r)) 2)).lo), .int .i64 ((ivDiv s.curve (ivTimes (ivRoot (sagRound_e0 s r)) 2)).hi), .bool ((ivDiv s.curve (ivTimes (ivRoot (sagRound_e0 s r)) 2)).no)]]) rfl (fin_ret (res_cc (vs := [.int .i64 ((sagRound_e1 s r).lo), .int .i64 ((sagRound_e1 s r).hi), .bool ((sagRound_e1 s r).no)]) (us := [.int .i64 ((ivDiv s.curve (ivTimes (ivRoot (sagRound_e0 s r)) 2)).lo), .int .i64 ((ivDiv s.curve (ivTimes (ivRoot (sagRound_e0 s r)) 2)).hi), .bool ((ivDiv s.curve (ivTimes (ivRoot (sagRound_e0 s r)) 2)).no)]) agg26 agg26 3 2 rfl rfl rfl rfl rfl rfl rfl rfl rfl rfl rfl))
def sagOf_b0 (s : Surf) (r : Iv) (g : Nat) : Box := ⟨g, [.int .i64 ((ivPoint 0).lo), .int .i64 ((ivPoint 0).hi), .bool ((ivPoint 0).no), .int .i64 ((ivPoint 0).lo), .int .i64 ((ivPoint 0).hi), .bool ((ivPoint 0).no), .int .i64 s.a4.lo, .int .i64 s.a4.hi, .bool s.a4.no, .int .i64 s.a6.lo, .int .i64 s.a6.hi, .bool s.a6.no], 26, false⟩
def sagOf_b1 (s : Surf) (r : Iv) (g : Nat) : Box := ⟨g, [.int .i64 ((ivDiv r (ivWhole 1000)).lo), .int .i64 ((ivDiv r (ivWhole 1000)).hi), .bool ((ivDiv r (ivWhole 1000)).no)], 26, false⟩
def sagOf_b2 (s : Surf) (r : Iv) (g : Nat) : Box := ⟨g, [.int .i64 ((ivWhole 1000).lo), .int .i64 ((ivWhole 1000).hi), .bool ((ivWhole 1000).no)], 26, false⟩
def sagOf_b3 (s : Surf) (r : Iv) (g : Nat) : Box := ⟨g, [.int .i64 (((sagRound s r).2).lo), .int .i64 (((sagRound s r).2).hi), .bool (((sagRound s r).2).no)], 26, false⟩
def sagOf_b4 (s : Surf) (r : Iv) (g : Nat) : Box := ⟨g, [.int .i64 (((sagRound s r).1).lo), .int .i64 (((sagRound s r).1).hi), .bool (((sagRound s r).1).no)], 26, false⟩
def sagOf_b5 (s : Surf) (r : Iv) (g : Nat) : Box := ⟨g, [.bool s.stop, .bool s.bent, .int .i64 s.curve.lo, .int .i64 s.curve.hi, .bool s.curve.no, .int .i64 s.conic.lo, .int .i64 s.conic.hi, .bool s.conic.no, .int .i64 s.a4.lo, .int .i64 s.a4.hi, .bool s.a4.no, .int .i64 s.a6.lo, .int .i64 s.a6.hi, .bool s.a6.no, .int .i64 s.at_.lo, .int .i64 s.at_.hi, .bool s.at_.no, .int .i64 s.open2.lo, .int .i64 s.open2.hi, .bool s.open2.no, .int .i64 s.ratio.lo, .int .i64 s.ratio.hi, .bool s.ratio.no], 41, false⟩
def sagOf_e0 (s : Surf) (r : Iv) : Iv := (horner [(ivPoint 0), (ivPoint 0), s.a4, s.a6] (ivDiv r (ivWhole 1000)))
def sagOf_b6 (s : Surf) (r : Iv) (g : Nat) : Box := ⟨g, [.int .i64 ((ivPoint 0).lo), .int .i64 ((ivPoint 0).hi), .bool ((ivPoint 0).no), .int .i64 ((ivPoint 0).lo), .int .i64 ((ivPoint 0).hi), .bool ((ivPoint 0).no), .int .i64 s.a4.lo, .int .i64 s.a4.hi, .bool s.a4.no, .int .i64 s.a6.lo, .int .i64 s.a6.hi, .bool s.a6.no], 26, true⟩
def sagOf_e1 (s : Surf) (r : Iv) : Iv := (horner [(ivTimes (ivPoint 0) 1), (ivTimes s.a4 2), (ivTimes s.a6 3)] (ivDiv r (ivWhole 1000)))
def sagOf_e2 (s : Surf) (r : Iv) : Iv := (ivAdd ((sagRound s r).2) (ivDiv (sagOf_e1 s r) (ivWhole 1000)))
def sagOf_b7 (s : Surf) (r : Iv) (g : Nat) : Box := ⟨g, [.int .i64 ((sagOf_e2 s r).lo), .int .i64 ((sagOf_e2 s r).hi), .bool ((sagOf_e2 s r).no)], 26, false⟩
def sagOf_b8 (s : Surf) (r : Iv) (g : Nat) : Box := ⟨g, [.int .i64 ((ivAdd ((sagRound s r).1) (sagOf_e0 s r)).lo), .int .i64 ((ivAdd ((sagRound s r).1) (sagOf_e0 s r)).hi), .bool ((ivAdd ((sagRound s r).1) (sagOf_e0 s r)).no)], 26, false⟩
def sagOf (s : Surf) (r : Iv) : Iv × Iv := (bif s.bent then (bif (ivAdd ((sagRound s r).1) (sagOf_e0 s r)).no then (ivNone, ivNone) else (bif (sagOf_e2 s r).no then (ivNone, ivNone) else ((⟨(ivAdd ((sagRound s r).1) (sagOf_e0 s r)).lo, (ivAdd ((sagRound s r).1) (sagOf_e0 s r)).hi, false⟩ : Iv), (⟨(sagOf_e2 s r).lo, (sagOf_e2 s r).hi, false⟩ : Iv)))) else (bif ((sagRound s r).1).no then (ivNone, ivNone) else (bif ((sagRound s r).2).no then (ivNone, ivNone) else ((⟨((sagRound s r).1).lo, ((sagRound s r).1).hi, false⟩ : Iv), (⟨((sagRound s r).2).lo, ((sagRound s r).2).hi, false⟩ : Iv)))))
set_option maxRecDepth 100000 in
set_option maxHeartbeats 4000000 in
theorem c_sagOf (s : Surf) (r : Iv) : Gets Try.prog 34 #[.agg #[.bool s.stop, .bool s.bent, .int .i64 s.curve.lo, .int .i64 s.curve.hi, .bool s.curve.no, .int .i64 s.conic.lo, .int .i64 s.conic.hi, .bool s.conic.no, .int .i64 s.a4.lo, .int .i64 s.a4.hi, .bool s.a4.no, .int .i64 s.a6.lo, .int .i64 s.a6.hi, .bool s.a6.no, .int .i64 s.at_.lo, .int .i64 s.at_.hi, .bool s.at_.no, .int .i64 s.open2.lo, .int .i64 s.open2.hi, .bool s.open2.no, .int .i64 s.ratio.lo, .int .i64 s.ratio.hi, .bool s.ratio.no], .agg #[.int .i64 r.lo, .int .i64 r.hi, .bool r.no]] ((fun (r : Iv × Iv) => (.tuple #[.agg #[.int .i64 r.1.lo, .int .i64 r.1.hi, .bool r.1.no], .agg #[.int .i64 r.2.lo, .int .i64 r.2.hi, .bool r.2.no]] : Value)) (sagOf s r)) := by
 refine gets_fin Try.func34 rfl rfl rfl (aQ (aL ?_))
 refine ao 2 rfl rfl (st_box (v := .agg #[.bool s.stop, .bool s.bent, .int .i64 s.curve.lo, .int .i64 s.curve.hi, .bool s.curve.no, .int .i64 s.conic.lo, .int .i64 s.conic.hi, .bool s.conic.no, .int .i64 s.a4.lo, .int .i64 s.a4.hi, .bool s.a4.no, .int .i64 s.a6.lo, .int .i64 s.a6.hi, .bool s.a6.no, .int .i64 s.at_.lo, .int .i64 s.at_.hi, .bool s.at_.no, .int .i64 s.open2.lo, .int .i64 s.open2.hi, .bool s.open2.no, .int .i64 s.ratio.lo, .int .i64 s.ratio.hi, .bool s.ratio.no]) (cs := [.bool s.stop, .bool s.bent, .int .i64 s.curve.lo, .int .i64 s.curve.hi, .bool s.curve.no, .int .i64 s.conic.lo, .int .i64 s.conic.hi, .bool s.conic.no, .int .i64 s.a4.lo, .int .i64 s.a4.hi, .bool s.a4.no, .int .i64 s.a6.lo, .int .i64 s.a6.hi, .bool s.a6.no, .int .i64 s.at_.lo, .int .i64 s.at_.hi, .bool s.at_.no, .int .i64 s.open2.lo, .int .i64 s.open2.hi, .bool s.open2.no, .int .i64 s.ratio.lo, .int .i64 s.ratio.hi, .bool s.ratio.no]) rfl rfl rfl fun g0 => ?_)
 refine ao 3 rfl rfl (st_box (v := .agg #[.int .i64 r.lo, .int .i64 r.hi, .bool r.no]) (cs := [.int .i64 r.lo, .int .i64 r.hi, .bool r.no]) rfl rfl rfl fun g1 => (ao 4 rfl rfl (st_new zero26 rfl fun g2 => (ao 5 rfl rfl (st_new zero26 rfl fun g3 => (aN (aQ (aL ?_))))))))
 refine aG 10 [.bool s.stop, .bool s.bent, .int .i64 s.curve.lo, .int .i64 s.curve.hi, .bool s.curve.no, .int .i64 s.conic.lo, .int .i64 s.conic.hi, .bool s.conic.no, .int .i64 s.a4.lo, .int .i64 s.a4.hi, .bool s.a4.no, .int .i64 s.a6.lo, .int .i64 s.a6.hi, .bool s.a6.no, .int .i64 s.at_.lo, .int .i64 s.at_.hi, .bool s.at_.no, .int .i64 s.open2.lo, .int .i64 s.open2.hi, .bool s.open2.no, .int .i64 s.ratio.lo, .int .i64 s.ratio.hi, .bool s.ratio.no] agg41 3 rfl rfl rfl rfl rfl (aG 11 [.int .i64 r.lo, .int .i64 r.hi, .bool r.no] agg26 2 rfl rfl rfl rfl rfl (aC 12 (c_sagRound s r) Try.func73 ⟨rfl, by decide⟩ rfl rfl ?_))
 refine aM 9 (.tuple #[.agg #[.int .i64 (((sagRound s r).1).lo), .int .i64 (((sagRound s r).1).hi), .bool (((sagRound s r).1).no)], .agg #[.int .i64 (((sagRound s r).2).lo), .int .i64 (((sagRound s r).2).hi), .bool (((sagRound s r).2).no)]]) rfl rfl (aX 13 (.agg #[.int .i64 (((sagRound s r).1).lo), .int .i64 (((sagRound s r).1).hi), .bool (((sagRound s r).1).no)]) rfl rfl rfl (aX 14 (.agg #[.int .i64 (((sagRound s r).2).lo), .int .i64 (((sagRound s r).2).hi), .bool (((sagRound s r).2).no)]) rfl rfl rfl (aS [.int .i64 (((sagRound s r).1).lo), .int .i64 (((sagRound s r).1).hi), .bool (((sagRound s r).1).no)] agg26 1 rfl rfl rfl rfl rfl rfl ?_)))
 refine aS [.int .i64 (((sagRound s r).2).lo), .int .i64 (((sagRound s r).2).hi), .bool (((sagRound s r).2).no)] agg26 0 rfl rfl rfl rfl rfl rfl (aN (aQ (aQ (aL (aF 15 fa41_1 rfl rfl (aD 16 (.bool s.bent) cell4 3 rfl rfl rfl rfl (aN ?_)))))))
 refine bool_split (s.bent) (fun h1 => ?_) (fun h1 => ?_)
 ·refine ac_then' (b := s.bent) h1 rfl (aQ (aL (aC 17 (c_ivWhole 1000) Try.func21 ⟨rfl, by decide⟩ rfl rfl (ao 6 rfl rfl (st_new zero26 rfl fun g4 => (aS [.int .i64 ((ivWhole 1000).lo), .int .i64 ((ivWhole 1000).hi), .bool ((ivWhole 1000).no)] agg26 0 rfl rfl rfl rfl rfl rfl (aN (aQ (aL (aG 18 [.int .i64 r.lo, .int .i64 r.hi, .bool r.no] agg26 3 rfl rfl rfl rfl rfl (aG 19 [.int .i64 ((ivWhole 1000).lo), .int .i64 ((ivWhole 1000).hi), .bool ((ivWhole 1000).no)] agg26 0 rfl rfl rfl rfl rfl (aC 20 (c_ivDiv r (ivWhole 1000)) Try.func33 ⟨rfl, by decide⟩ rfl rfl (ao 7 rfl rfl (st_new zero26 rfl fun g5 => ?_))))))))))))))
  refine aS [.int .i64 ((ivDiv r (ivWhole 1000)).lo), .int .i64 ((ivDiv r (ivWhole 1000)).hi), .bool ((ivDiv r (ivWhole 1000)).no)] agg26 0 rfl rfl rfl rfl rfl rfl (aN (aQ ?_))
  refine ac_env fun E1 hE1 => ?_
  have q2 : E1 2 = .pointer (some ⟨g0, 0, none⟩) := by rw [hE1]; rfl
  have q4 : E1 4 = .pointer (some ⟨g2, 0, none⟩) := by rw [hE1]; rfl
  have q5 : E1 5 = .pointer (some ⟨g3, 0, none⟩) := by rw [hE1]; rfl
  have q6 : E1 6 = .pointer (some ⟨g4, 0, none⟩) := by rw [hE1]; rfl
  have q7 : E1 7 = .pointer (some ⟨g5, 0, none⟩) := by rw [hE1]; rfl
  clear hE1
  obtain ⟨E0, rfl⟩ : ∃ E0 : Env, E1 = (((((E0.put (some 2) (.pointer (some ⟨g0, 0, none⟩))).put (some 4) (.pointer (some ⟨g2, 0, none⟩))).put (some 5) (.pointer (some ⟨g3, 0, none⟩))).put (some 6) (.pointer (some ⟨g4, 0, none⟩))).put (some 7) (.pointer (some ⟨g5, 0, none⟩))) := ⟨E1, by rw [put_self q2, put_self q4, put_self q5, put_self q6, put_self q7]⟩
  refine ac_stage follows [6, 7] [2, 4, 5, 6, 7] (((((((((((E0.put (some 2) (.pointer (some ⟨g0, 0, none⟩))).put (some 4) (.pointer (some ⟨g2, 0, none⟩))).put (some 5) (.pointer (some ⟨g3, 0, none⟩))).put (some 6) (.pointer (some ⟨g4, 0, none⟩))).put (some 7) (.pointer (some ⟨g5, 0, none⟩))).put (some 21) (.agg #[.int .i64 ((ivPoint 0).lo), .int .i64 ((ivPoint 0).hi), .bool ((ivPoint 0).no)])).put (some 22) (.agg #[.int .i64 ((ivPoint 0).lo), .int .i64 ((ivPoint 0).hi), .bool ((ivPoint 0).no)])).put (some 23) (.pointer (some ⟨g0, 8, none⟩))).put (some 24) (.agg #[.int .i64 s.a4.lo, .int .i64 s.a4.hi, .bool s.a4.no])).put (some 25) (.pointer (some ⟨g0, 11, none⟩))).put (some 26) (.agg #[.int .i64 s.a6.lo, .int .i64 s.a6.hi, .bool s.a6.no])) (fun Sg Dn stepR doneR => ?_) ⟨rfl, rfl, rfl, rfl, rfl, trivial⟩
  refine ((fun st5_fin => ?_) : (∀ (E : Env) (b5_6 : Nat), E 4 = .pointer (some ⟨g2, 0, none⟩) → E 5 = .pointer (some ⟨g3, 0, none⟩) → E 6 = .pointer (some ⟨g4, 0, none⟩) → E 7 = .pointer (some ⟨g5, 0, none⟩) → E 8 = .slice (some ⟨b5_6, 0, none⟩) 4 4 → Dn E ([(sagOf_b0 s r b5_6), (sagOf_b1 s r g5), (sagOf_b2 s r g4), (sagOf_b3 s r g3), (sagOf_b4 s r g2), ⟨g1, [.int .i64 r.lo, .int .i64 r.hi, .bool r.no], 26, false⟩, (sagOf_b5 s r g0)])) → _) ?_
  ·have st5_2 : ∀ (_u : Unit) (b5_6 : Nat), Sg [7, 6] [0, 1, 2, 3, 4, 5] (((((((((((((E0.put (some 2) (.pointer (some ⟨g0, 0, none⟩))).put (some 4) (.pointer (some ⟨g2, 0, none⟩))).put (some 5) (.pointer (some ⟨g3, 0, none⟩))).put (some 6) (.pointer (some ⟨g4, 0, none⟩))).put (some 7) (.pointer (some ⟨g5, 0, none⟩))).put (some 8) (.slice (some ⟨b5_6, 0, none⟩) 4 4)).put (some 21) (.agg #[.int .i64 ((ivPoint 0).lo), .int .i64 ((ivPoint 0).hi), .bool ((ivPoint 0).no)])).put (some 22) (.agg #[.int .i64 ((ivPoint 0).lo), .int .i64 ((ivPoint 0).hi), .bool ((ivPoint 0).no)])).put (some 23) (.pointer (some ⟨g0, 8, none⟩))).put (some 24) (.agg #[.int .i64 s.a4.lo, .int .i64 s.a4.hi, .bool s.a4.no])).put (some 25) (.pointer (some ⟨g0, 11, none⟩))).put (some 26) (.agg #[.int .i64 s.a6.lo, .int .i64 s.a6.hi, .bool s.a6.no])).put (some 27) (.slice (some ⟨b5_6, 0, none⟩) 4 4)) ([(sagOf_b0 s r b5_6), (sagOf_b1 s r g5), (sagOf_b2 s r g4), (sagOf_b3 s r g3), (sagOf_b4 s r g2), ⟨g1, [.int .i64 r.lo, .int .i64 r.hi, .bool r.no], 26, false⟩, (sagOf_b5 s r g0)]) := by
    intro _u b5_6
    refine stepR [7, 6] [0, 1, 2, 3, 4, 5] _ _ [] [] [] [2, 4, 5, 6, 7, 21, 22, 23, 24, 25, 26, 8, 27] (by kernel_rfl) (by kernel_rfl) trivial trivial (fun _ E hE => ?_)
    ·obtain ⟨w0_2, w1_4, w2_5, w3_6, w4_7, w5_21, w6_22, w7_23, w8_24, w9_25, w10_26, w11_8, w12_27, _⟩ := hE
     exact st5_fin E _ w1_4 w2_5 w3_6 w4_7 w11_8
   have st5_1 : ∀ (_u : Unit) (b5_6 : Nat), Sg [6] [0, 1, 2, 3, 4, 5] ((((((((((((E0.put (some 2) (.pointer (some ⟨g0, 0, none⟩))).put (some 4) (.pointer (some ⟨g2, 0, none⟩))).put (some 5) (.pointer (some ⟨g3, 0, none⟩))).put (some 6) (.pointer (some ⟨g4, 0, none⟩))).put (some 7) (.pointer (some ⟨g5, 0, none⟩))).put (some 21) (.agg #[.int .i64 ((ivPoint 0).lo), .int .i64 ((ivPoint 0).hi), .bool ((ivPoint 0).no)])).put (some 22) (.agg #[.int .i64 ((ivPoint 0).lo), .int .i64 ((ivPoint 0).hi), .bool ((ivPoint 0).no)])).put (some 23) (.pointer (some ⟨g0, 8, none⟩))).put (some 24) (.agg #[.int .i64 s.a4.lo, .int .i64 s.a4.hi, .bool s.a4.no])).put (some 25) (.pointer (some ⟨g0, 11, none⟩))).put (some 26) (.agg #[.int .i64 s.a6.lo, .int .i64 s.a6.hi, .bool s.a6.no])).put (some 27) (.slice (some ⟨b5_6, 0, none⟩) 4 4)) ([(sagOf_b0 s r b5_6), (sagOf_b1 s r g5), (sagOf_b2 s r g4), (sagOf_b3 s r g3), (sagOf_b4 s r g2), ⟨g1, [.int .i64 r.lo, .int .i64 r.hi, .bool r.no], 26, false⟩, (sagOf_b5 s r g0)]) := by
    intro _u b5_6
    refine stepR [6] [0, 1, 2, 3, 4, 5] _ _ [] [7] [] [2, 4, 5, 6, 7, 21, 22, 23, 24, 25, 26, 27] (by kernel_rfl) (by kernel_rfl) trivial ⟨?_, trivial⟩ (fun h => by cases h)
    ·refine opR_op (d := (some 8)) rfl rfl rfl (st_assign (v := .slice (some ⟨b5_6, 0, none⟩) 4 4) rfl rfl ?_)
     exact ⟨_, _, _, _, st5_2 () _, (List.Perm.refl _), by kernel_rfl, [2, 4, 5, 6, 7, 21, 22, 23, 24, 25, 26, 27, 8], by kernel_rfl, ⟨rfl, rfl, rfl, rfl, rfl, rfl, rfl, rfl, rfl, rfl, rfl, rfl, rfl, trivial⟩, by kernel_rfl⟩
   refine stepR [] [] _ _ [0, 1, 2, 3, 4, 5] [6] [7] [2, 4, 5, 6, 7, 21, 22, 23, 24, 25, 26] (by kernel_rfl) (by kernel_rfl) ⟨?_, ?_, ?_, ?_, ?_, ?_, trivial⟩ ⟨?_, trivial⟩ (fun h => by cases h)
   ·exact tf_op (d := 21) (.agg #[.int .i64 ((ivPoint 0).lo), .int .i64 ((ivPoint 0).hi), .bool ((ivPoint 0).no)]) rfl rfl rfl (st_cf (c_ivPoint 0) Try.func29 rfl (by decide) rfl rfl rfl ⟨rfl, rfl⟩) rfl
   ·exact tf_op (d := 22) (.agg #[.int .i64 ((ivPoint 0).lo), .int .i64 ((ivPoint 0).hi), .bool ((ivPoint 0).no)]) rfl rfl rfl (st_cf (c_ivPoint 0) Try.func29 rfl (by decide) rfl rfl rfl ⟨rfl, rfl⟩) rfl
   ·exact tf_op (d := 23) (.pointer (some ⟨g0, 8, none⟩)) rfl rfl rfl (st_fa rfl fa41_4 rfl ⟨rfl, rfl⟩) rfl
   ·exact tf_op (d := 24) (.agg #[.int .i64 s.a4.lo, .int .i64 s.a4.hi, .bool s.a4.no]) rfl rfl rfl (st_lda (vs := [.int .i64 s.a4.lo, .int .i64 s.a4.hi, .bool s.a4.no]) agg26 5 rfl rfl rfl rfl rfl rfl ⟨rfl, rfl⟩) rfl
   ·exact tf_op (d := 25) (.pointer (some ⟨g0, 11, none⟩)) rfl rfl rfl (st_fa rfl fa41_5 rfl ⟨rfl, rfl⟩) rfl
   ·exact tf_op (d := 26) (.agg #[.int .i64 s.a6.lo, .int .i64 s.a6.hi, .bool s.a6.no]) rfl rfl rfl (st_lda (vs := [.int .i64 s.a6.lo, .int .i64 s.a6.hi, .bool s.a6.no]) agg26 5 rfl rfl rfl rfl rfl rfl ⟨rfl, rfl⟩) rfl
   ·refine opR_op (d := (some 27)) rfl rfl rfl (st_bs (us := [(0, .agg #[.int .i64 ((ivPoint 0).lo), .int .i64 ((ivPoint 0).hi), .bool ((ivPoint 0).no)]), (1, .agg #[.int .i64 ((ivPoint 0).lo), .int .i64 ((ivPoint 0).hi), .bool ((ivPoint 0).no)]), (2, .agg #[.int .i64 s.a4.lo, .int .i64 s.a4.hi, .bool s.a4.no]), (3, .agg #[.int .i64 s.a6.lo, .int .i64 s.a6.hi, .bool s.a6.no])]) (cs := [.int .i64 ((ivPoint 0).lo), .int .i64 ((ivPoint 0).hi), .bool ((ivPoint 0).no), .int .i64 ((ivPoint 0).lo), .int .i64 ((ivPoint 0).hi), .bool ((ivPoint 0).no), .int .i64 s.a4.lo, .int .i64 s.a4.hi, .bool s.a4.no, .int .i64 s.a6.lo, .int .i64 s.a6.hi, .bool s.a6.no]) rfl rfl (bs24_4_0a_1a_2a_3a _ _ _ _ _ _ _ _ _ _ _ _) fun b5_6 => ?_)
    exact ⟨_, _, _, _, st5_1 () _, (List.Perm.refl _), by kernel_rfl, [2, 4, 5, 6, 7, 21, 22, 23, 24, 25, 26, 27], by kernel_rfl, ⟨rfl, rfl, rfl, rfl, rfl, rfl, rfl, rfl, rfl, rfl, rfl, rfl, trivial⟩, by kernel_rfl⟩
  intro E b5_6 q4 q5 q6 q7 q8
  obtain ⟨E0, rfl⟩ : ∃ E0 : Env, E = (((((E0.put (some 4) (.pointer (some ⟨g2, 0, none⟩))).put (some 5) (.pointer (some ⟨g3, 0, none⟩))).put (some 6) (.pointer (some ⟨g4, 0, none⟩))).put (some 7) (.pointer (some ⟨g5, 0, none⟩))).put (some 8) (.slice (some ⟨b5_6, 0, none⟩) 4 4)) := ⟨E, by rw [put_self q4, put_self q5, put_self q6, put_self q7, put_self q8]⟩
  refine doneR _ _ (aQ ?_)
  refine ac_draw0 (id := 6) [0, 1, 2, 3, 4] [5] _ (by kernel_rfl) follows rfl  (dw_op (d := (some 28)) (.agg #[.int .i64 (((sagRound s r).1).lo), .int .i64 (((sagRound s r).1).hi), .bool (((sagRound s r).1).no)]) rfl rfl rfl (st_lda (vs := [.int .i64 (((sagRound s r).1).lo), .int .i64 (((sagRound s r).1).hi), .bool (((sagRound s r).1).no)]) agg26 4 rfl rfl rfl rfl rfl rfl ⟨rfl, rfl⟩) (dw_op (d := (some 29)) (.slice (some ⟨b5_6, 0, none⟩) 4 4) rfl rfl rfl (st_move (v := .slice (some ⟨b5_6, 0, none⟩) 4 4) rfl rfl ⟨rfl, rfl⟩) ?_))
  refine dw_op (d := (some 30)) (.agg #[.int .i64 ((ivDiv r (ivWhole 1000)).lo), .int .i64 ((ivDiv r (ivWhole 1000)).hi), .bool ((ivDiv r (ivWhole 1000)).no)]) rfl rfl rfl (st_lda (vs := [.int .i64 ((ivDiv r (ivWhole 1000)).lo), .int .i64 ((ivDiv r (ivWhole 1000)).hi), .bool ((ivDiv r (ivWhole 1000)).no)]) agg26 1 rfl rfl rfl rfl rfl rfl ⟨rfl, rfl⟩) ?_
  refine dw_op (d := (some 31)) (.agg #[.int .i64 ((sagOf_e0 s r).lo), .int .i64 ((sagOf_e0 s r).hi), .bool ((sagOf_e0 s r).no)]) rfl rfl rfl (st_gr (R := [(sagOf_b6 s r b5_6)]) (r := .agg #[.int .i64 ((sagOf_e0 s r).lo), .int .i64 ((sagOf_e0 s r).hi), .bool ((sagOf_e0 s r).no)]) (c_horner (ivPoint 0) [(ivPoint 0), s.a4, s.a6] 4 b5_6 ([]) (ivDiv r (ivWhole 1000)) (Nat.le_of_ble_eq_true rfl) (Nat.le_of_ble_eq_true rfl)) Try.func22 rfl (by decide) rfl rfl rfl (has_cons 0 _ rfl rfl rfl rfl has_nil) (by simp) ⟨rfl, rfl⟩) ?_
  refine dw_op (d := (some 32)) (.agg #[.int .i64 ((ivAdd ((sagRound s r).1) (sagOf_e0 s r)).lo), .int .i64 ((ivAdd ((sagRound s r).1) (sagOf_e0 s r)).hi), .bool ((ivAdd ((sagRound s r).1) (sagOf_e0 s r)).no)]) rfl rfl rfl (st_cf (c_ivAdd ((sagRound s r).1) (sagOf_e0 s r)) Try.func67 rfl (by decide) rfl rfl rfl ⟨rfl, rfl⟩) (dw_nil (aS [.int .i64 ((ivAdd ((sagRound s r).1) (sagOf_e0 s r)).lo), .int .i64 ((ivAdd ((sagRound s r).1) (sagOf_e0 s r)).hi), .bool ((ivAdd ((sagRound s r).1) (sagOf_e0 s r)).no)] agg26 4 rfl rfl rfl rfl rfl rfl (aN ?_)))
  refine ac_env fun E1 hE1 => ?_
  have q4 : E1 4 = .pointer (some ⟨g2, 0, none⟩) := by rw [hE1]; rfl
  have q5 : E1 5 = .pointer (some ⟨g3, 0, none⟩) := by rw [hE1]; rfl
  have q6 : E1 6 = .pointer (some ⟨g4, 0, none⟩) := by rw [hE1]; rfl
  have q7 : E1 7 = .pointer (some ⟨g5, 0, none⟩) := by rw [hE1]; rfl
  have q8 : E1 8 = .slice (some ⟨b5_6, 0, none⟩) 4 4 := by rw [hE1]; rfl
  clear hE1
  obtain ⟨E0, rfl⟩ : ∃ E0 : Env, E1 = (((((E0.put (some 4) (.pointer (some ⟨g2, 0, none⟩))).put (some 5) (.pointer (some ⟨g3, 0, none⟩))).put (some 6) (.pointer (some ⟨g4, 0, none⟩))).put (some 7) (.pointer (some ⟨g5, 0, none⟩))).put (some 8) (.slice (some ⟨b5_6, 0, none⟩) 4 4)) := ⟨E1, by rw [put_self q4, put_self q5, put_self q6, put_self q7, put_self q8]⟩
  refine ac_stage follows [2, 4, 8] [4, 5, 6, 7, 8] (((((((((E0.put (some 4) (.pointer (some ⟨g2, 0, none⟩))).put (some 5) (.pointer (some ⟨g3, 0, none⟩))).put (some 6) (.pointer (some ⟨g4, 0, none⟩))).put (some 7) (.pointer (some ⟨g5, 0, none⟩))).put (some 8) (.slice (some ⟨b5_6, 0, none⟩) 4 4)).put (some 33) (.agg #[.int .i64 (((sagRound s r).2).lo), .int .i64 (((sagRound s r).2).hi), .bool (((sagRound s r).2).no)])).put (some 34) (.slice (some ⟨b5_6, 0, none⟩) 4 4)).put (some 36) (.agg #[.int .i64 ((ivDiv r (ivWhole 1000)).lo), .int .i64 ((ivDiv r (ivWhole 1000)).hi), .bool ((ivDiv r (ivWhole 1000)).no)])).put (some 38) (.agg #[.int .i64 ((ivWhole 1000).lo), .int .i64 ((ivWhole 1000).hi), .bool ((ivWhole 1000).no)])) (fun Sg Dn stepR doneR => ?_) ⟨rfl, rfl, rfl, rfl, rfl, trivial⟩
  refine ((fun st7_fin => ?_) : (∀ (E : Env) (b7_2 : Nat) (cb7_2 : Nat) (rb7_2 : List Value), ([.int .i64 ((ivTimes (ivPoint 0) 1).lo), .int .i64 ((ivTimes (ivPoint 0) 1).hi), .bool ((ivTimes (ivPoint 0) 1).no), .int .i64 ((ivTimes s.a4 2).lo), .int .i64 ((ivTimes s.a4 2).hi), .bool ((ivTimes s.a4 2).no), .int .i64 ((ivTimes s.a6 3).lo), .int .i64 ((ivTimes s.a6 3).hi), .bool ((ivTimes s.a6 3).no)] : List Value).length = 3 * 3 ∧ ([.int .i64 ((ivTimes (ivPoint 0) 1).lo), .int .i64 ((ivTimes (ivPoint 0) 1).hi), .bool ((ivTimes (ivPoint 0) 1).no), .int .i64 ((ivTimes s.a4 2).lo), .int .i64 ((ivTimes s.a4 2).hi), .bool ((ivTimes s.a4 2).no), .int .i64 ((ivTimes s.a6 3).lo), .int .i64 ((ivTimes s.a6 3).hi), .bool ((ivTimes s.a6 3).no)] ++ rb7_2 : List Value).length = cb7_2 * 3 ∧ 3 ≤ cb7_2 ∧ cb7_2 ≤ maxLen → E 4 = .pointer (some ⟨g2, 0, none⟩) → E 5 = .pointer (some ⟨g3, 0, none⟩) → Dn E ([⟨b7_2, [.int .i64 ((ivTimes (ivPoint 0) 1).lo), .int .i64 ((ivTimes (ivPoint 0) 1).hi), .bool ((ivTimes (ivPoint 0) 1).no), .int .i64 ((ivTimes s.a4 2).lo), .int .i64 ((ivTimes s.a4 2).hi), .bool ((ivTimes s.a4 2).no), .int .i64 ((ivTimes s.a6 3).lo), .int .i64 ((ivTimes s.a6 3).hi), .bool ((ivTimes s.a6 3).no)] ++ rb7_2, 26, false⟩, (sagOf_b0 s r b5_6), (sagOf_b1 s r g5), (sagOf_b2 s r g4), (sagOf_b7 s r g3), (sagOf_b8 s r g2), ⟨g1, [.int .i64 r.lo, .int .i64 r.hi, .bool r.no], 26, false⟩, (sagOf_b5 s r g0)])) → _) ?_
  ·have st7_3 : ∀ (_u : Unit) (b7_2 : Nat) (cb7_2 : Nat) (rb7_2 : List Value), ([.int .i64 ((ivTimes (ivPoint 0) 1).lo), .int .i64 ((ivTimes (ivPoint 0) 1).hi), .bool ((ivTimes (ivPoint 0) 1).no), .int .i64 ((ivTimes s.a4 2).lo), .int .i64 ((ivTimes s.a4 2).hi), .bool ((ivTimes s.a4 2).no), .int .i64 ((ivTimes s.a6 3).lo), .int .i64 ((ivTimes s.a6 3).hi), .bool ((ivTimes s.a6 3).no)] : List Value).length = 3 * 3 ∧ ([.int .i64 ((ivTimes (ivPoint 0) 1).lo), .int .i64 ((ivTimes (ivPoint 0) 1).hi), .bool ((ivTimes (ivPoint 0) 1).no), .int .i64 ((ivTimes s.a4 2).lo), .int .i64 ((ivTimes s.a4 2).hi), .bool ((ivTimes s.a4 2).no), .int .i64 ((ivTimes s.a6 3).lo), .int .i64 ((ivTimes s.a6 3).hi), .bool ((ivTimes s.a6 3).no)] ++ rb7_2 : List Value).length = cb7_2 * 3 ∧ 3 ≤ cb7_2 ∧ cb7_2 ≤ maxLen → Sg [8, 2, 4] [0, 1, 3, 5, 6, 7] (((((((((((((E0.put (some 4) (.pointer (some ⟨g2, 0, none⟩))).put (some 5) (.pointer (some ⟨g3, 0, none⟩))).put (some 6) (.pointer (some ⟨g4, 0, none⟩))).put (some 7) (.pointer (some ⟨g5, 0, none⟩))).put (some 8) (.slice (some ⟨b5_6, 0, none⟩) 4 4)).put (some 33) (.agg #[.int .i64 (((sagRound s r).2).lo), .int .i64 (((sagRound s r).2).hi), .bool (((sagRound s r).2).no)])).put (some 34) (.slice (some ⟨b5_6, 0, none⟩) 4 4)).put (some 35) (.slice (some ⟨b7_2, 0, none⟩) 3 cb7_2)).put (some 36) (.agg #[.int .i64 ((ivDiv r (ivWhole 1000)).lo), .int .i64 ((ivDiv r (ivWhole 1000)).hi), .bool ((ivDiv r (ivWhole 1000)).no)])).put (some 37) (.agg #[.int .i64 ((sagOf_e1 s r).lo), .int .i64 ((sagOf_e1 s r).hi), .bool ((sagOf_e1 s r).no)])).put (some 38) (.agg #[.int .i64 ((ivWhole 1000).lo), .int .i64 ((ivWhole 1000).hi), .bool ((ivWhole 1000).no)])).put (some 39) (.agg #[.int .i64 ((ivDiv (sagOf_e1 s r) (ivWhole 1000)).lo), .int .i64 ((ivDiv (sagOf_e1 s r) (ivWhole 1000)).hi), .bool ((ivDiv (sagOf_e1 s r) (ivWhole 1000)).no)])).put (some 40) (.agg #[.int .i64 ((sagOf_e2 s r).lo), .int .i64 ((sagOf_e2 s r).hi), .bool ((sagOf_e2 s r).no)])) ([⟨b7_2, [.int .i64 ((ivTimes (ivPoint 0) 1).lo), .int .i64 ((ivTimes (ivPoint 0) 1).hi), .bool ((ivTimes (ivPoint 0) 1).no), .int .i64 ((ivTimes s.a4 2).lo), .int .i64 ((ivTimes s.a4 2).hi), .bool ((ivTimes s.a4 2).no), .int .i64 ((ivTimes s.a6 3).lo), .int .i64 ((ivTimes s.a6 3).hi), .bool ((ivTimes s.a6 3).no)] ++ rb7_2, 26, false⟩, (sagOf_b0 s r b5_6), (sagOf_b1 s r g5), (sagOf_b2 s r g4), (sagOf_b7 s r g3), (sagOf_b8 s r g2), ⟨g1, [.int .i64 r.lo, .int .i64 r.hi, .bool r.no], 26, false⟩, (sagOf_b5 s r g0)]) := by
    intro _u b7_2 cb7_2 rb7_2 fb7_2
    refine stepR [8, 2, 4] [0, 1, 3, 5, 6, 7] _ _ [] [] [] [4, 5, 6, 7, 8, 33, 34, 36, 38, 39, 40, 35, 37] (by kernel_rfl) (by kernel_rfl) trivial trivial (fun _ E hE => ?_)
    ·obtain ⟨w0_4, w1_5, w2_6, w3_7, w4_8, w5_33, w6_34, w7_36, w8_38, w9_39, w10_40, w11_35, w12_37, _⟩ := hE
     exact st7_fin E _ _ _ fb7_2 w0_4 w1_5
   have st7_2 : ∀ (_u : Unit) (b7_2 : Nat) (cb7_2 : Nat) (rb7_2 : List Value), ([.int .i64 ((ivTimes (ivPoint 0) 1).lo), .int .i64 ((ivTimes (ivPoint 0) 1).hi), .bool ((ivTimes (ivPoint 0) 1).no), .int .i64 ((ivTimes s.a4 2).lo), .int .i64 ((ivTimes s.a4 2).hi), .bool ((ivTimes s.a4 2).no), .int .i64 ((ivTimes s.a6 3).lo), .int .i64 ((ivTimes s.a6 3).hi), .bool ((ivTimes s.a6 3).no)] : List Value).length = 3 * 3 ∧ ([.int .i64 ((ivTimes (ivPoint 0) 1).lo), .int .i64 ((ivTimes (ivPoint 0) 1).hi), .bool ((ivTimes (ivPoint 0) 1).no), .int .i64 ((ivTimes s.a4 2).lo), .int .i64 ((ivTimes s.a4 2).hi), .bool ((ivTimes s.a4 2).no), .int .i64 ((ivTimes s.a6 3).lo), .int .i64 ((ivTimes s.a6 3).hi), .bool ((ivTimes s.a6 3).no)] ++ rb7_2 : List Value).length = cb7_2 * 3 ∧ 3 ≤ cb7_2 ∧ cb7_2 ≤ maxLen → Sg [4, 2] [1, 3] (((((((((((((E0.put (some 4) (.pointer (some ⟨g2, 0, none⟩))).put (some 5) (.pointer (some ⟨g3, 0, none⟩))).put (some 6) (.pointer (some ⟨g4, 0, none⟩))).put (some 7) (.pointer (some ⟨g5, 0, none⟩))).put (some 8) (.slice (some ⟨b5_6, 0, none⟩) 4 4)).put (some 33) (.agg #[.int .i64 (((sagRound s r).2).lo), .int .i64 (((sagRound s r).2).hi), .bool (((sagRound s r).2).no)])).put (some 34) (.slice (some ⟨b5_6, 0, none⟩) 4 4)).put (some 35) (.slice (some ⟨b7_2, 0, none⟩) 3 cb7_2)).put (some 36) (.agg #[.int .i64 ((ivDiv r (ivWhole 1000)).lo), .int .i64 ((ivDiv r (ivWhole 1000)).hi), .bool ((ivDiv r (ivWhole 1000)).no)])).put (some 37) (.agg #[.int .i64 ((sagOf_e1 s r).lo), .int .i64 ((sagOf_e1 s r).hi), .bool ((sagOf_e1 s r).no)])).put (some 38) (.agg #[.int .i64 ((ivWhole 1000).lo), .int .i64 ((ivWhole 1000).hi), .bool ((ivWhole 1000).no)])).put (some 39) (.agg #[.int .i64 ((ivDiv (sagOf_e1 s r) (ivWhole 1000)).lo), .int .i64 ((ivDiv (sagOf_e1 s r) (ivWhole 1000)).hi), .bool ((ivDiv (sagOf_e1 s r) (ivWhole 1000)).no)])).put (some 40) (.agg #[.int .i64 ((sagOf_e2 s r).lo), .int .i64 ((sagOf_e2 s r).hi), .bool ((sagOf_e2 s r).no)])) ([⟨b7_2, [.int .i64 ((ivTimes (ivPoint 0) 1).lo), .int .i64 ((ivTimes (ivPoint 0) 1).hi), .bool ((ivTimes (ivPoint 0) 1).no), .int .i64 ((ivTimes s.a4 2).lo), .int .i64 ((ivTimes s.a4 2).hi), .bool ((ivTimes s.a4 2).no), .int .i64 ((ivTimes s.a6 3).lo), .int .i64 ((ivTimes s.a6 3).hi), .bool ((ivTimes s.a6 3).no)] ++ rb7_2, 26, false⟩, (sagOf_b0 s r b5_6), (sagOf_b1 s r g5), (sagOf_b2 s r g4), (sagOf_b3 s r g3), (sagOf_b8 s r g2), ⟨g1, [.int .i64 r.lo, .int .i64 r.hi, .bool r.no], 26, false⟩, (sagOf_b5 s r g0)]) := by
    intro _u b7_2 cb7_2 rb7_2 fb7_2
    refine stepR [4, 2] [1, 3] _ _ [0, 5, 6, 7] [8] [] [4, 5, 6, 7, 8, 34, 36, 33, 38, 39, 40, 37, 35] (by kernel_rfl) (by kernel_rfl) ⟨?_, ?_, ?_, ?_, trivial⟩ ⟨?_, trivial⟩ (fun h => by cases h)
    ·exact tf_op (d := 33) (.agg #[.int .i64 (((sagRound s r).2).lo), .int .i64 (((sagRound s r).2).hi), .bool (((sagRound s r).2).no)]) rfl rfl rfl (st_lda (vs := [.int .i64 (((sagRound s r).2).lo), .int .i64 (((sagRound s r).2).hi), .bool (((sagRound s r).2).no)]) agg26 4 rfl rfl rfl rfl rfl rfl ⟨rfl, rfl⟩) rfl
    ·exact tf_op (d := 38) (.agg #[.int .i64 ((ivWhole 1000).lo), .int .i64 ((ivWhole 1000).hi), .bool ((ivWhole 1000).no)]) rfl rfl rfl (st_lda (vs := [.int .i64 ((ivWhole 1000).lo), .int .i64 ((ivWhole 1000).hi), .bool ((ivWhole 1000).no)]) agg26 3 rfl rfl rfl rfl rfl rfl ⟨rfl, rfl⟩) rfl
    ·exact tf_op (d := 39) (.agg #[.int .i64 ((ivDiv (sagOf_e1 s r) (ivWhole 1000)).lo), .int .i64 ((ivDiv (sagOf_e1 s r) (ivWhole 1000)).hi), .bool ((ivDiv (sagOf_e1 s r) (ivWhole 1000)).no)]) rfl rfl rfl (st_cf (c_ivDiv (sagOf_e1 s r) (ivWhole 1000)) Try.func33 rfl (by decide) rfl rfl rfl ⟨rfl, rfl⟩) rfl
    ·exact tf_op (d := 40) (.agg #[.int .i64 ((sagOf_e2 s r).lo), .int .i64 ((sagOf_e2 s r).hi), .bool ((sagOf_e2 s r).no)]) rfl rfl rfl (st_cf (c_ivAdd ((sagRound s r).2) (ivDiv (sagOf_e1 s r) (ivWhole 1000))) Try.func67 rfl (by decide) rfl rfl rfl ⟨rfl, rfl⟩) rfl
    ·refine opR_op (d := none) rfl rfl rfl (st_sta (cs := [.int .i64 ((sagOf_e2 s r).lo), .int .i64 ((sagOf_e2 s r).hi), .bool ((sagOf_e2 s r).no)]) agg26 4 rfl rfl rfl rfl rfl rfl rfl rfl rfl ?_)
     exact ⟨_, _, _, _, st7_3 () _ _ _ fb7_2, (List.Perm.refl _), by kernel_rfl, [4, 5, 6, 7, 8, 34, 36, 33, 38, 39, 40, 37, 35], by kernel_rfl, ⟨rfl, rfl, rfl, rfl, rfl, rfl, rfl, rfl, rfl, rfl, rfl, rfl, rfl, trivial⟩, by kernel_rfl⟩
   have st7_1 : ∀ (_u : Unit) (b7_2 : Nat) (cb7_2 : Nat) (rb7_2 : List Value), ([.int .i64 ((ivTimes (ivPoint 0) 1).lo), .int .i64 ((ivTimes (ivPoint 0) 1).hi), .bool ((ivTimes (ivPoint 0) 1).no), .int .i64 ((ivTimes s.a4 2).lo), .int .i64 ((ivTimes s.a4 2).hi), .bool ((ivTimes s.a4 2).no), .int .i64 ((ivTimes s.a6 3).lo), .int .i64 ((ivTimes s.a6 3).hi), .bool ((ivTimes s.a6 3).no)] : List Value).length = 3 * 3 ∧ ([.int .i64 ((ivTimes (ivPoint 0) 1).lo), .int .i64 ((ivTimes (ivPoint 0) 1).hi), .bool ((ivTimes (ivPoint 0) 1).no), .int .i64 ((ivTimes s.a4 2).lo), .int .i64 ((ivTimes s.a4 2).hi), .bool ((ivTimes s.a4 2).no), .int .i64 ((ivTimes s.a6 3).lo), .int .i64 ((ivTimes s.a6 3).hi), .bool ((ivTimes s.a6 3).no)] ++ rb7_2 : List Value).length = cb7_2 * 3 ∧ 3 ≤ cb7_2 ∧ cb7_2 ≤ maxLen → Sg [2] [1] ((((((((((E0.put (some 4) (.pointer (some ⟨g2, 0, none⟩))).put (some 5) (.pointer (some ⟨g3, 0, none⟩))).put (some 6) (.pointer (some ⟨g4, 0, none⟩))).put (some 7) (.pointer (some ⟨g5, 0, none⟩))).put (some 8) (.slice (some ⟨b5_6, 0, none⟩) 4 4)).put (some 33) (.agg #[.int .i64 (((sagRound s r).2).lo), .int .i64 (((sagRound s r).2).hi), .bool (((sagRound s r).2).no)])).put (some 34) (.slice (some ⟨b5_6, 0, none⟩) 4 4)).put (some 35) (.slice (some ⟨b7_2, 0, none⟩) 3 cb7_2)).put (some 36) (.agg #[.int .i64 ((ivDiv r (ivWhole 1000)).lo), .int .i64 ((ivDiv r (ivWhole 1000)).hi), .bool ((ivDiv r (ivWhole 1000)).no)])).put (some 38) (.agg #[.int .i64 ((ivWhole 1000).lo), .int .i64 ((ivWhole 1000).hi), .bool ((ivWhole 1000).no)])) ([⟨b7_2, [.int .i64 ((ivTimes (ivPoint 0) 1).lo), .int .i64 ((ivTimes (ivPoint 0) 1).hi), .bool ((ivTimes (ivPoint 0) 1).no), .int .i64 ((ivTimes s.a4 2).lo), .int .i64 ((ivTimes s.a4 2).hi), .bool ((ivTimes s.a4 2).no), .int .i64 ((ivTimes s.a6 3).lo), .int .i64 ((ivTimes s.a6 3).hi), .bool ((ivTimes s.a6 3).no)] ++ rb7_2, 26, false⟩, (sagOf_b0 s r b5_6), (sagOf_b1 s r g5), (sagOf_b2 s r g4), (sagOf_b3 s r g3), (sagOf_b8 s r g2), ⟨g1, [.int .i64 r.lo, .int .i64 r.hi, .bool r.no], 26, false⟩, (sagOf_b5 s r g0)]) := by
    intro _u b7_2 cb7_2 rb7_2 fb7_2
    refine stepR [2] [1] _ _ [0, 3, 5] [4] [6, 7, 8] [4, 5, 6, 7, 8, 34, 33, 36, 38, 35] (by kernel_rfl) (by kernel_rfl) ⟨?_, ?_, ?_, trivial⟩ ⟨?_, trivial⟩ (fun h => by cases h)
    ·exact tf_op (d := 33) (.agg #[.int .i64 (((sagRound s r).2).lo), .int .i64 (((sagRound s r).2).hi), .bool (((sagRound s r).2).no)]) rfl rfl rfl (st_lda (vs := [.int .i64 (((sagRound s r).2).lo), .int .i64 (((sagRound s r).2).hi), .bool (((sagRound s r).2).no)]) agg26 4 rfl rfl rfl rfl rfl rfl ⟨rfl, rfl⟩) rfl
    ·exact tf_op (d := 36) (.agg #[.int .i64 ((ivDiv r (ivWhole 1000)).lo), .int .i64 ((ivDiv r (ivWhole 1000)).hi), .bool ((ivDiv r (ivWhole 1000)).no)]) rfl rfl rfl (st_lda (vs := [.int .i64 ((ivDiv r (ivWhole 1000)).lo), .int .i64 ((ivDiv r (ivWhole 1000)).hi), .bool ((ivDiv r (ivWhole 1000)).no)]) agg26 2 rfl rfl rfl rfl rfl rfl ⟨rfl, rfl⟩) rfl
    ·exact tf_op (d := 38) (.agg #[.int .i64 ((ivWhole 1000).lo), .int .i64 ((ivWhole 1000).hi), .bool ((ivWhole 1000).no)]) rfl rfl rfl (st_lda (vs := [.int .i64 ((ivWhole 1000).lo), .int .i64 ((ivWhole 1000).hi), .bool ((ivWhole 1000).no)]) agg26 3 rfl rfl rfl rfl rfl rfl ⟨rfl, rfl⟩) rfl
    ·refine opR_op (d := (some 37)) rfl rfl rfl (st_gr (R := [⟨b7_2, [.int .i64 ((ivTimes (ivPoint 0) 1).lo), .int .i64 ((ivTimes (ivPoint 0) 1).hi), .bool ((ivTimes (ivPoint 0) 1).no), .int .i64 ((ivTimes s.a4 2).lo), .int .i64 ((ivTimes s.a4 2).hi), .bool ((ivTimes s.a4 2).no), .int .i64 ((ivTimes s.a6 3).lo), .int .i64 ((ivTimes s.a6 3).hi), .bool ((ivTimes s.a6 3).no)] ++ rb7_2, 26, true⟩]) (r := .agg #[.int .i64 ((sagOf_e1 s r).lo), .int .i64 ((sagOf_e1 s r).hi), .bool ((sagOf_e1 s r).no)]) (c_horner (ivTimes (ivPoint 0) 1) [(ivTimes s.a4 2), (ivTimes s.a6 3)] cb7_2 b7_2 rb7_2 (ivDiv r (ivWhole 1000)) (fb7_2.2.2.1) (Nat.le_of_ble_eq_true rfl)) Try.func22 rfl (by decide) rfl rfl rfl (has_cons 0 _ rfl rfl rfl rfl has_nil) (by simp) ?_)
     exact ⟨_, _, _, _, st7_2 () _ _ _ fb7_2, (List.Perm.refl _), by kernel_rfl, [4, 5, 6, 7, 8, 34, 33, 36, 38, 35, 37], by kernel_rfl, ⟨rfl, rfl, rfl, rfl, rfl, rfl, rfl, rfl, rfl, rfl, rfl, trivial⟩, by kernel_rfl⟩
   refine stepR [] [] _ _ [0, 1, 3, 5] [2] [4, 6, 7, 8] [4, 5, 6, 7, 8, 33, 34, 36, 38] (by kernel_rfl) (by kernel_rfl) ⟨?_, ?_, ?_, ?_, trivial⟩ ⟨?_, trivial⟩ (fun h => by cases h)
   ·exact tf_op (d := 33) (.agg #[.int .i64 (((sagRound s r).2).lo), .int .i64 (((sagRound s r).2).hi), .bool (((sagRound s r).2).no)]) rfl rfl rfl (st_lda (vs := [.int .i64 (((sagRound s r).2).lo), .int .i64 (((sagRound s r).2).hi), .bool (((sagRound s r).2).no)]) agg26 3 rfl rfl rfl rfl rfl rfl ⟨rfl, rfl⟩) rfl
   ·exact tf_op (d := 34) (.slice (some ⟨b5_6, 0, none⟩) 4 4) rfl rfl rfl (st_move (v := .slice (some ⟨b5_6, 0, none⟩) 4 4) rfl rfl ⟨rfl, rfl⟩) rfl
   ·exact tf_op (d := 36) (.agg #[.int .i64 ((ivDiv r (ivWhole 1000)).lo), .int .i64 ((ivDiv r (ivWhole 1000)).hi), .bool ((ivDiv r (ivWhole 1000)).no)]) rfl rfl rfl (st_lda (vs := [.int .i64 ((ivDiv r (ivWhole 1000)).lo), .int .i64 ((ivDiv r (ivWhole 1000)).hi), .bool ((ivDiv r (ivWhole 1000)).no)]) agg26 1 rfl rfl rfl rfl rfl rfl ⟨rfl, rfl⟩) rfl
   ·exact tf_op (d := 38) (.agg #[.int .i64 ((ivWhole 1000).lo), .int .i64 ((ivWhole 1000).hi), .bool ((ivWhole 1000).no)]) rfl rfl rfl (st_lda (vs := [.int .i64 ((ivWhole 1000).lo), .int .i64 ((ivWhole 1000).hi), .bool ((ivWhole 1000).no)]) agg26 2 rfl rfl rfl rfl rfl rfl ⟨rfl, rfl⟩) rfl
   ·refine opR_op (d := (some 35)) rfl rfl rfl (st_gv (R := [(sagOf_b6 s r b5_6)]) (c_slope4 (ivPoint 0) (ivPoint 0) s.a4 s.a6 4 b5_6 ([])) Try.func27 rfl (by decide) rfl rfl rfl (has_cons 0 _ rfl rfl rfl rfl has_nil) (by simp) fun v9 N9 R9 => ?_)
    obtain ⟨b7_2, cb7_2, rb7_2, rfl, rfl, fb7_2⟩ := R9.pos (by decide)
    exact ⟨_, _, _, _, st7_1 () _ _ _ fb7_2, (List.Perm.refl _), by kernel_rfl, [4, 5, 6, 7, 8, 33, 34, 36, 38, 35], by kernel_rfl, ⟨rfl, rfl, rfl, rfl, rfl, rfl, rfl, rfl, rfl, rfl, trivial⟩, by kernel_rfl⟩
  intro E b7_2 cb7_2 rb7_2 fb7_2 q4 q5
  obtain ⟨E0, rfl⟩ : ∃ E0 : Env, E = ((E0.put (some 4) (.pointer (some ⟨g2, 0, none⟩))).put (some 5) (.pointer (some ⟨g3, 0, none⟩))) := ⟨E, by rw [put_self q4, put_self q5]⟩
  refine doneR _ _ (aQ (aQ (aL (aF 41 fa26_2 rfl rfl (aD 42 (.bool ((ivAdd ((sagRound s r).1) (sagOf_e0 s r)).no)) cell4 5 rfl rfl rfl rfl (aM 43 (.bool ((ivAdd ((sagRound s r).1) (sagOf_e0 s r)).no)) rfl rfl ?_))))))
  refine bool_split ((ivAdd ((sagRound s r).1) (sagOf_e0 s r)).no) (fun h2 => ?_) (fun h2 => ?_)
  ·refine aK 44 (by show (((ivAdd ((sagRound s r).1) (sagOf_e0 s r)).no) == false) = false; rw [h2]; rfl) rfl (aK 45 (by show (((ivAdd ((sagRound s r).1) (sagOf_e0 s r)).no) == false) = false; rw [h2]; rfl) rfl (ao 46 rfl rfl (st_pkt' (b := (ivAdd ((sagRound s r).1) (sagOf_e0 s r)).no) (v := .bool true) h2 rfl rfl rfl (aN (ac_then rfl (aQ (aL (aC 47 c_ivNone Try.func28 ⟨rfl, by decide⟩ rfl rfl (aC 48 c_ivNone Try.func28 ⟨rfl, by decide⟩ rfl rfl (aS [.int .i64 ivNone.lo, .int .i64 ivNone.hi, .bool ivNone.no] agg26 5 rfl rfl rfl rfl rfl rfl (aS [.int .i64 ivNone.lo, .int .i64 ivNone.hi, .bool ivNone.no] agg26 4 rfl rfl rfl rfl rfl rfl (aN (ac_ret ?_)))))))))))))
   exact fin_eq (v := .tuple #[.agg #[.int .i64 ivNone.lo, .int .i64 ivNone.hi, .bool ivNone.no], .agg #[.int .i64 ivNone.lo, .int .i64 ivNone.hi, .bool ivNone.no]]) (by show _ = (fun (r : Iv × Iv) => (.tuple #[.agg #[.int .i64 r.1.lo, .int .i64 r.1.hi, .bool r.1.no], .agg #[.int .i64 r.2.lo, .int .i64 r.2.hi, .bool r.2.no]] : Value)) (sagOf s r); rw [sagOf, h2, h1] <;> rfl) (fin_ret (res_cc (vs := [.int .i64 ivNone.lo, .int .i64 ivNone.hi, .bool ivNone.no]) (us := [.int .i64 ivNone.lo, .int .i64 ivNone.hi, .bool ivNone.no]) agg26 agg26 5 4 rfl rfl rfl rfl rfl rfl rfl rfl rfl rfl rfl))
  ·refine ar_gd (d := (some 44)) (by show (((ivAdd ((sagRound s r).1) (sagOf_e0 s r)).no) == false) = true; rw [h2]; rfl) rfl (st_fa rfl fa26_2 rfl (ar_gd (d := (some 45)) (by show (((ivAdd ((sagRound s r).1) (sagOf_e0 s r)).no) == false) = true; rw [h2]; rfl) rfl (st_ldc (v := .bool ((sagOf_e2 s r).no)) cell4 4 rfl rfl rfl rfl rfl (ao 46 rfl rfl (st_pkf' (b := (ivAdd ((sagRound s r).1) (sagOf_e0 s r)).no) (v := .bool ((sagOf_e2 s r).no)) h2 rfl rfl rfl (aN ?_))))))
   refine bool_split ((sagOf_e2 s r).no) (fun h3 => ?_) (fun h3 => ?_)
   ·refine ac_then' (b := (sagOf_e2 s r).no) h3 rfl (aQ (aL (aC 47 c_ivNone Try.func28 ⟨rfl, by decide⟩ rfl rfl (aC 48 c_ivNone Try.func28 ⟨rfl, by decide⟩ rfl rfl (aS [.int .i64 ivNone.lo, .int .i64 ivNone.hi, .bool ivNone.no] agg26 5 rfl rfl rfl rfl rfl rfl (aS [.int .i64 ivNone.lo, .int .i64 ivNone.hi, .bool ivNone.no] agg26 4 rfl rfl rfl rfl rfl rfl (aN (ac_ret ?_))))))))
    exact fin_eq (v := .tuple #[.agg #[.int .i64 ivNone.lo, .int .i64 ivNone.hi, .bool ivNone.no], .agg #[.int .i64 ivNone.lo, .int .i64 ivNone.hi, .bool ivNone.no]]) (by show _ = (fun (r : Iv × Iv) => (.tuple #[.agg #[.int .i64 r.1.lo, .int .i64 r.1.hi, .bool r.1.no], .agg #[.int .i64 r.2.lo, .int .i64 r.2.hi, .bool r.2.no]] : Value)) (sagOf s r); rw [sagOf, h3, h2, h1] <;> rfl) (fin_ret (res_cc (vs := [.int .i64 ivNone.lo, .int .i64 ivNone.hi, .bool ivNone.no]) (us := [.int .i64 ivNone.lo, .int .i64 ivNone.hi, .bool ivNone.no]) agg26 agg26 5 4 rfl rfl rfl rfl rfl rfl rfl rfl rfl rfl rfl))
   ·refine ac_else' (b := (sagOf_e2 s r).no) h3 rfl (ac_skip (aQ ?_))
    refine ac_env fun E1 hE1 => ?_
    have q4 : E1 4 = .pointer (some ⟨g2, 0, none⟩) := by rw [hE1]; rfl
    have q5 : E1 5 = .pointer (some ⟨g3, 0, none⟩) := by rw [hE1]; rfl
    clear hE1
    obtain ⟨E0, rfl⟩ : ∃ E0 : Env, E1 = ((E0.put (some 4) (.pointer (some ⟨g2, 0, none⟩))).put (some 5) (.pointer (some ⟨g3, 0, none⟩))) := ⟨E1, by rw [put_self q4, put_self q5]⟩
    refine ac_stage follows [2, 3] [4, 5] ((((E0.put (some 4) (.pointer (some ⟨g2, 0, none⟩))).put (some 5) (.pointer (some ⟨g3, 0, none⟩))).put (some 49) (.agg #[.int .i64 ((ivAdd ((sagRound s r).1) (sagOf_e0 s r)).lo), .int .i64 ((ivAdd ((sagRound s r).1) (sagOf_e0 s r)).hi), .bool ((ivAdd ((sagRound s r).1) (sagOf_e0 s r)).no)])).put (some 50) (.agg #[.int .i64 ((sagOf_e2 s r).lo), .int .i64 ((sagOf_e2 s r).hi), .bool ((sagOf_e2 s r).no)])) (fun Sg Dn stepR doneR => ?_) ⟨rfl, rfl, trivial⟩
    refine ((fun st10_fin => ?_) : (∀ (E : Env), E 4 = .pointer (some ⟨g2, 0, none⟩) → E 5 = .pointer (some ⟨g3, 0, none⟩) → Dn E ([⟨b7_2, [.int .i64 ((ivTimes (ivPoint 0) 1).lo), .int .i64 ((ivTimes (ivPoint 0) 1).hi), .bool ((ivTimes (ivPoint 0) 1).no), .int .i64 ((ivTimes s.a4 2).lo), .int .i64 ((ivTimes s.a4 2).hi), .bool ((ivTimes s.a4 2).no), .int .i64 ((ivTimes s.a6 3).lo), .int .i64 ((ivTimes s.a6 3).hi), .bool ((ivTimes s.a6 3).no)] ++ rb7_2, 26, false⟩, (sagOf_b0 s r b5_6), (sagOf_b1 s r g5), (sagOf_b2 s r g4), (sagOf_b7 s r g3), (sagOf_b8 s r g2), ⟨g1, [.int .i64 r.lo, .int .i64 r.hi, .bool r.no], 26, false⟩, (sagOf_b5 s r g0)])) → _) ?_
    ·have st10_2 : ∀ (_u : Unit), Sg [3, 2] [0, 1] ((((E0.put (some 4) (.pointer (some ⟨g2, 0, none⟩))).put (some 5) (.pointer (some ⟨g3, 0, none⟩))).put (some 49) (.agg #[.int .i64 ((ivAdd ((sagRound s r).1) (sagOf_e0 s r)).lo), .int .i64 ((ivAdd ((sagRound s r).1) (sagOf_e0 s r)).hi), .bool ((ivAdd ((sagRound s r).1) (sagOf_e0 s r)).no)])).put (some 50) (.agg #[.int .i64 ((sagOf_e2 s r).lo), .int .i64 ((sagOf_e2 s r).hi), .bool ((sagOf_e2 s r).no)])) ([⟨b7_2, [.int .i64 ((ivTimes (ivPoint 0) 1).lo), .int .i64 ((ivTimes (ivPoint 0) 1).hi), .bool ((ivTimes (ivPoint 0) 1).no), .int .i64 ((ivTimes s.a4 2).lo), .int .i64 ((ivTimes s.a4 2).hi), .bool ((ivTimes s.a4 2).no), .int .i64 ((ivTimes s.a6 3).lo), .int .i64 ((ivTimes s.a6 3).hi), .bool ((ivTimes s.a6 3).no)] ++ rb7_2, 26, false⟩, (sagOf_b0 s r b5_6), (sagOf_b1 s r g5), (sagOf_b2 s r g4), (sagOf_b7 s r g3), (sagOf_b8 s r g2), ⟨g1, [.int .i64 r.lo, .int .i64 r.hi, .bool r.no], 26, false⟩, (sagOf_b5 s r g0)]) := by
      intro _u
      refine stepR [3, 2] [0, 1] _ _ [] [] [] [4, 5, 49, 50] (by kernel_rfl) (by kernel_rfl) trivial trivial (fun _ E hE => ?_)
      ·obtain ⟨w0_4, w1_5, w2_49, w3_50, _⟩ := hE
       exact st10_fin E w0_4 w1_5
     have st10_1 : ∀ (_u : Unit), Sg [2] [0] ((((E0.put (some 4) (.pointer (some ⟨g2, 0, none⟩))).put (some 5) (.pointer (some ⟨g3, 0, none⟩))).put (some 49) (.agg #[.int .i64 ((ivAdd ((sagRound s r).1) (sagOf_e0 s r)).lo), .int .i64 ((ivAdd ((sagRound s r).1) (sagOf_e0 s r)).hi), .bool ((ivAdd ((sagRound s r).1) (sagOf_e0 s r)).no)])).put (some 50) (.agg #[.int .i64 ((sagOf_e2 s r).lo), .int .i64 ((sagOf_e2 s r).hi), .bool ((sagOf_e2 s r).no)])) ([⟨b7_2, [.int .i64 ((ivTimes (ivPoint 0) 1).lo), .int .i64 ((ivTimes (ivPoint 0) 1).hi), .bool ((ivTimes (ivPoint 0) 1).no), .int .i64 ((ivTimes s.a4 2).lo), .int .i64 ((ivTimes s.a4 2).hi), .bool ((ivTimes s.a4 2).no), .int .i64 ((ivTimes s.a6 3).lo), .int .i64 ((ivTimes s.a6 3).hi), .bool ((ivTimes s.a6 3).no)] ++ rb7_2, 26, false⟩, (sagOf_b0 s r b5_6), (sagOf_b1 s r g5), (sagOf_b2 s r g4), (sagOf_b7 s r g3), (sagOf_b8 s r g2), ⟨g1, [.int .i64 r.lo, .int .i64 r.hi, .bool r.no], 26, false⟩, (sagOf_b5 s r g0)]) := by
      intro _u
      refine stepR [2] [0] _ _ [1] [3] [] [4, 5, 49, 50] (by kernel_rfl) (by kernel_rfl) ⟨?_, trivial⟩ ⟨?_, trivial⟩ (fun h => by cases h)
      ·exact tf_op (d := 50) (.agg #[.int .i64 ((sagOf_e2 s r).lo), .int .i64 ((sagOf_e2 s r).hi), .bool ((sagOf_e2 s r).no)]) rfl rfl rfl (st_lda (vs := [.int .i64 ((sagOf_e2 s r).lo), .int .i64 ((sagOf_e2 s r).hi), .bool ((sagOf_e2 s r).no)]) agg26 4 rfl rfl rfl rfl rfl rfl ⟨rfl, rfl⟩) rfl
      ·refine opR_op (d := none) rfl rfl rfl (st_sta (cs := [.int .i64 ((sagOf_e2 s r).lo), .int .i64 ((sagOf_e2 s r).hi), .bool ((sagOf_e2 s r).no)]) agg26 4 rfl rfl rfl rfl rfl rfl rfl rfl rfl ?_)
       exact ⟨_, _, _, _, st10_2 (), (List.Perm.refl _), by kernel_rfl, [4, 5, 49, 50], by kernel_rfl, ⟨rfl, rfl, rfl, rfl, trivial⟩, by kernel_rfl⟩
     refine stepR [] [] _ _ [0, 1] [2] [3] [4, 5, 49, 50] (by kernel_rfl) (by kernel_rfl) ⟨?_, ?_, trivial⟩ ⟨?_, trivial⟩ (fun h => by cases h)
     ·exact tf_op (d := 49) (.agg #[.int .i64 ((ivAdd ((sagRound s r).1) (sagOf_e0 s r)).lo), .int .i64 ((ivAdd ((sagRound s r).1) (sagOf_e0 s r)).hi), .bool ((ivAdd ((sagRound s r).1) (sagOf_e0 s r)).no)]) rfl rfl rfl (st_lda (vs := [.int .i64 ((ivAdd ((sagRound s r).1) (sagOf_e0 s r)).lo), .int .i64 ((ivAdd ((sagRound s r).1) (sagOf_e0 s r)).hi), .bool ((ivAdd ((sagRound s r).1) (sagOf_e0 s r)).no)]) agg26 5 rfl rfl rfl rfl rfl rfl ⟨rfl, rfl⟩) rfl
     ·exact tf_op (d := 50) (.agg #[.int .i64 ((sagOf_e2 s r).lo), .int .i64 ((sagOf_e2 s r).hi), .bool ((sagOf_e2 s r).no)]) rfl rfl rfl (st_lda (vs := [.int .i64 ((sagOf_e2 s r).lo), .int .i64 ((sagOf_e2 s r).hi), .bool ((sagOf_e2 s r).no)]) agg26 4 rfl rfl rfl rfl rfl rfl ⟨rfl, rfl⟩) rfl
     ·refine opR_op (d := none) rfl rfl rfl (st_sta (cs := [.int .i64 ((ivAdd ((sagRound s r).1) (sagOf_e0 s r)).lo), .int .i64 ((ivAdd ((sagRound s r).1) (sagOf_e0 s r)).hi), .bool ((ivAdd ((sagRound s r).1) (sagOf_e0 s r)).no)]) agg26 5 rfl rfl rfl rfl rfl rfl rfl rfl rfl ?_)
      exact ⟨_, _, _, _, st10_1 (), (List.Perm.refl _), by kernel_rfl, [4, 5, 49, 50], by kernel_rfl, ⟨rfl, rfl, rfl, rfl, trivial⟩, by kernel_rfl⟩
    intro E q4 q5
    obtain ⟨E0, rfl⟩ : ∃ E0 : Env, E = ((E0.put (some 4) (.pointer (some ⟨g2, 0, none⟩))).put (some 5) (.pointer (some ⟨g3, 0, none⟩))) := ⟨E, by rw [put_self q4, put_self q5]⟩
    refine doneR _ _ (ac_ret ?_)
    exact fin_eq (v := .tuple #[.agg #[.int .i64 ((ivAdd ((sagRound s r).1) (sagOf_e0 s r)).lo), .int .i64 ((ivAdd ((sagRound s r).1) (sagOf_e0 s r)).hi), .bool ((ivAdd ((sagRound s r).1) (sagOf_e0 s r)).no)], .agg #[.int .i64 ((sagOf_e2 s r).lo), .int .i64 ((sagOf_e2 s r).hi), .bool ((sagOf_e2 s r).no)]]) (by show _ = (fun (r : Iv × Iv) => (.tuple #[.agg #[.int .i64 r.1.lo, .int .i64 r.1.hi, .bool r.1.no], .agg #[.int .i64 r.2.lo, .int .i64 r.2.hi, .bool r.2.no]] : Value)) (sagOf s r); rw [sagOf, h3, h2, h1] <;> rfl) (fin_ret (res_cc (vs := [.int .i64 ((ivAdd ((sagRound s r).1) (sagOf_e0 s r)).lo), .int .i64 ((ivAdd ((sagRound s r).1) (sagOf_e0 s r)).hi), .bool ((ivAdd ((sagRound s r).1) (sagOf_e0 s r)).no)]) (us := [.int .i64 ((sagOf_e2 s r).lo), .int .i64 ((sagOf_e2 s r).hi), .bool ((sagOf_e2 s r).no)]) agg26 agg26 5 4 rfl rfl rfl rfl rfl rfl rfl rfl rfl rfl rfl))
 ·refine ac_else' (b := s.bent) h1 rfl (ac_skip (aQ (aQ (aL (aF 41 fa26_2 rfl rfl (aD 42 (.bool (((sagRound s r).1).no)) cell4 1 rfl rfl rfl rfl (aM 43 (.bool (((sagRound s r).1).no)) rfl rfl ?_)))))))
  refine bool_split (((sagRound s r).1).no) (fun h2 => ?_) (fun h2 => ?_)
  ·refine aK 44 (by show ((((sagRound s r).1).no) == false) = false; rw [h2]; rfl) rfl (aK 45 (by show ((((sagRound s r).1).no) == false) = false; rw [h2]; rfl) rfl (ao 46 rfl rfl (st_pkt' (b := ((sagRound s r).1).no) (v := .bool true) h2 rfl rfl rfl (aN (ac_then rfl (aQ (aL (aC 47 c_ivNone Try.func28 ⟨rfl, by decide⟩ rfl rfl (aC 48 c_ivNone Try.func28 ⟨rfl, by decide⟩ rfl rfl (aS [.int .i64 ivNone.lo, .int .i64 ivNone.hi, .bool ivNone.no] agg26 1 rfl rfl rfl rfl rfl rfl (aS [.int .i64 ivNone.lo, .int .i64 ivNone.hi, .bool ivNone.no] agg26 0 rfl rfl rfl rfl rfl rfl (aN (ac_ret ?_)))))))))))))
   exact fin_eq (v := .tuple #[.agg #[.int .i64 ivNone.lo, .int .i64 ivNone.hi, .bool ivNone.no], .agg #[.int .i64 ivNone.lo, .int .i64 ivNone.hi, .bool ivNone.no]]) (by show _ = (fun (r : Iv × Iv) => (.tuple #[.agg #[.int .i64 r.1.lo, .int .i64 r.1.hi, .bool r.1.no], .agg #[.int .i64 r.2.lo, .int .i64 r.2.hi, .bool r.2.no]] : Value)) (sagOf s r); rw [sagOf, h2, h1] <;> rfl) (fin_ret (res_cc (vs := [.int .i64 ivNone.lo, .int .i64 ivNone.hi, .bool ivNone.no]) (us := [.int .i64 ivNone.lo, .int .i64 ivNone.hi, .bool ivNone.no]) agg26 agg26 1 0 rfl rfl rfl rfl rfl rfl rfl rfl rfl rfl rfl))
  ·refine ar_gd (d := (some 44)) (by show ((((sagRound s r).1).no) == false) = true; rw [h2]; rfl) rfl (st_fa rfl fa26_2 rfl (ar_gd (d := (some 45)) (by show ((((sagRound s r).1).no) == false) = true; rw [h2]; rfl) rfl (st_ldc (v := .bool (((sagRound s r).2).no)) cell4 0 rfl rfl rfl rfl rfl (ao 46 rfl rfl (st_pkf' (b := ((sagRound s r).1).no) (v := .bool (((sagRound s r).2).no)) h2 rfl rfl rfl (aN ?_))))))
   refine bool_split (((sagRound s r).2).no) (fun h3 => ?_) (fun h3 => ?_)
   ·refine ac_then' (b := ((sagRound s r).2).no) h3 rfl (aQ (aL (aC 47 c_ivNone Try.func28 ⟨rfl, by decide⟩ rfl rfl (aC 48 c_ivNone Try.func28 ⟨rfl, by decide⟩ rfl rfl (aS [.int .i64 ivNone.lo, .int .i64 ivNone.hi, .bool ivNone.no] agg26 1 rfl rfl rfl rfl rfl rfl (aS [.int .i64 ivNone.lo, .int .i64 ivNone.hi, .bool ivNone.no] agg26 0 rfl rfl rfl rfl rfl rfl (aN (ac_ret ?_))))))))
    exact fin_eq (v := .tuple #[.agg #[.int .i64 ivNone.lo, .int .i64 ivNone.hi, .bool ivNone.no], .agg #[.int .i64 ivNone.lo, .int .i64 ivNone.hi, .bool ivNone.no]]) (by show _ = (fun (r : Iv × Iv) => (.tuple #[.agg #[.int .i64 r.1.lo, .int .i64 r.1.hi, .bool r.1.no], .agg #[.int .i64 r.2.lo, .int .i64 r.2.hi, .bool r.2.no]] : Value)) (sagOf s r); rw [sagOf, h3, h2, h1] <;> rfl) (fin_ret (res_cc (vs := [.int .i64 ivNone.lo, .int .i64 ivNone.hi, .bool ivNone.no]) (us := [.int .i64 ivNone.lo, .int .i64 ivNone.hi, .bool ivNone.no]) agg26 agg26 1 0 rfl rfl rfl rfl rfl rfl rfl rfl rfl rfl rfl))
   ·refine ac_else' (b := ((sagRound s r).2).no) h3 rfl (ac_skip (aQ ?_))
    refine ac_env fun E1 hE1 => ?_
    have q4 : E1 4 = .pointer (some ⟨g2, 0, none⟩) := by rw [hE1]; rfl
    have q5 : E1 5 = .pointer (some ⟨g3, 0, none⟩) := by rw [hE1]; rfl
    clear hE1
    obtain ⟨E0, rfl⟩ : ∃ E0 : Env, E1 = ((E0.put (some 4) (.pointer (some ⟨g2, 0, none⟩))).put (some 5) (.pointer (some ⟨g3, 0, none⟩))) := ⟨E1, by rw [put_self q4, put_self q5]⟩
    refine ac_stage follows [2, 3] [4, 5] ((((E0.put (some 4) (.pointer (some ⟨g2, 0, none⟩))).put (some 5) (.pointer (some ⟨g3, 0, none⟩))).put (some 49) (.agg #[.int .i64 (((sagRound s r).1).lo), .int .i64 (((sagRound s r).1).hi), .bool (((sagRound s r).1).no)])).put (some 50) (.agg #[.int .i64 (((sagRound s r).2).lo), .int .i64 (((sagRound s r).2).hi), .bool (((sagRound s r).2).no)])) (fun Sg Dn stepR doneR => ?_) ⟨rfl, rfl, trivial⟩
    refine ((fun st10_fin => ?_) : (∀ (E : Env), E 4 = .pointer (some ⟨g2, 0, none⟩) → E 5 = .pointer (some ⟨g3, 0, none⟩) → Dn E ([(sagOf_b3 s r g3), (sagOf_b4 s r g2), ⟨g1, [.int .i64 r.lo, .int .i64 r.hi, .bool r.no], 26, false⟩, (sagOf_b5 s r g0)])) → _) ?_
    ·have st10_2 : ∀ (_u : Unit), Sg [3, 2] [0, 1] ((((E0.put (some 4) (.pointer (some ⟨g2, 0, none⟩))).put (some 5) (.pointer (some ⟨g3, 0, none⟩))).put (some 49) (.agg #[.int .i64 (((sagRound s r).1).lo), .int .i64 (((sagRound s r).1).hi), .bool (((sagRound s r).1).no)])).put (some 50) (.agg #[.int .i64 (((sagRound s r).2).lo), .int .i64 (((sagRound s r).2).hi), .bool (((sagRound s r).2).no)])) ([(sagOf_b3 s r g3), (sagOf_b4 s r g2), ⟨g1, [.int .i64 r.lo, .int .i64 r.hi, .bool r.no], 26, false⟩, (sagOf_b5 s r g0)]) := by
      intro _u
      refine stepR [3, 2] [0, 1] _ _ [] [] [] [4, 5, 49, 50] (by kernel_rfl) (by kernel_rfl) trivial trivial (fun _ E hE => ?_)
      ·obtain ⟨w0_4, w1_5, w2_49, w3_50, _⟩ := hE
       exact st10_fin E w0_4 w1_5
     have st10_1 : ∀ (_u : Unit), Sg [2] [0] ((((E0.put (some 4) (.pointer (some ⟨g2, 0, none⟩))).put (some 5) (.pointer (some ⟨g3, 0, none⟩))).put (some 49) (.agg #[.int .i64 (((sagRound s r).1).lo), .int .i64 (((sagRound s r).1).hi), .bool (((sagRound s r).1).no)])).put (some 50) (.agg #[.int .i64 (((sagRound s r).2).lo), .int .i64 (((sagRound s r).2).hi), .bool (((sagRound s r).2).no)])) ([(sagOf_b3 s r g3), (sagOf_b4 s r g2), ⟨g1, [.int .i64 r.lo, .int .i64 r.hi, .bool r.no], 26, false⟩, (sagOf_b5 s r g0)]) := by
      intro _u
      refine stepR [2] [0] _ _ [1] [3] [] [4, 5, 49, 50] (by kernel_rfl) (by kernel_rfl) ⟨?_, trivial⟩ ⟨?_, trivial⟩ (fun h => by cases h)
      ·exact tf_op (d := 50) (.agg #[.int .i64 (((sagRound s r).2).lo), .int .i64 (((sagRound s r).2).hi), .bool (((sagRound s r).2).no)]) rfl rfl rfl (st_lda (vs := [.int .i64 (((sagRound s r).2).lo), .int .i64 (((sagRound s r).2).hi), .bool (((sagRound s r).2).no)]) agg26 0 rfl rfl rfl rfl rfl rfl ⟨rfl, rfl⟩) rfl
      ·refine opR_op (d := none) rfl rfl rfl (st_sta (cs := [.int .i64 (((sagRound s r).2).lo), .int .i64 (((sagRound s r).2).hi), .bool (((sagRound s r).2).no)]) agg26 0 rfl rfl rfl rfl rfl rfl rfl rfl rfl ?_)
       exact ⟨_, _, _, _, st10_2 (), (List.Perm.refl _), by kernel_rfl, [4, 5, 49, 50], by kernel_rfl, ⟨rfl, rfl, rfl, rfl, trivial⟩, by kernel_rfl⟩
     refine stepR [] [] _ _ [0, 1] [2] [3] [4, 5, 49, 50] (by kernel_rfl) (by kernel_rfl) ⟨?_, ?_, trivial⟩ ⟨?_, trivial⟩ (fun h => by cases h)
     ·exact tf_op (d := 49) (.agg #[.int .i64 (((sagRound s r).1).lo), .int .i64 (((sagRound s r).1).hi), .bool (((sagRound s r).1).no)]) rfl rfl rfl (st_lda (vs := [.int .i64 (((sagRound s r).1).lo), .int .i64 (((sagRound s r).1).hi), .bool (((sagRound s r).1).no)]) agg26 1 rfl rfl rfl rfl rfl rfl ⟨rfl, rfl⟩) rfl
     ·exact tf_op (d := 50) (.agg #[.int .i64 (((sagRound s r).2).lo), .int .i64 (((sagRound s r).2).hi), .bool (((sagRound s r).2).no)]) rfl rfl rfl (st_lda (vs := [.int .i64 (((sagRound s r).2).lo), .int .i64 (((sagRound s r).2).hi), .bool (((sagRound s r).2).no)]) agg26 0 rfl rfl rfl rfl rfl rfl ⟨rfl, rfl⟩) rfl
     ·refine opR_op (d := none) rfl rfl rfl (st_sta (cs := [.int .i64 (((sagRound s r).1).lo), .int .i64 (((sagRound s r).1).hi), .bool (((sagRound s r).1).no)]) agg26 1 rfl rfl rfl rfl rfl rfl rfl rfl rfl ?_)
      exact ⟨_, _, _, _, st10_1 (), (List.Perm.refl _), by kernel_rfl, [4, 5, 49, 50], by kernel_rfl, ⟨rfl, rfl, rfl, rfl, trivial⟩, by kernel_rfl⟩
    intro E q4 q5
    obtain ⟨E0, rfl⟩ : ∃ E0 : Env, E = ((E0.put (some 4) (.pointer (some ⟨g2, 0, none⟩))).put (some 5) (.pointer (some ⟨g3, 0, none⟩))) := ⟨E, by rw [put_self q4, put_self q5]⟩
    refine doneR _ _ (ac_ret ?_)
    exact fin_eq (v := .tuple #[.agg #[.int .i64 (((sagRound s r).1).lo), .int .i64 (((sagRound s r).1).hi), .bool (((sagRound s r).1).no)], .agg #[.int .i64 (((sagRound s r).2).lo), .int .i64 (((sagRound s r).2).hi), .bool (((sagRound s r).2).no)]]) (by show _ = (fun (r : Iv × Iv) => (.tuple #[.agg #[.int .i64 r.1.lo, .int .i64 r.1.hi, .bool r.1.no], .agg #[.int .i64 r.2.lo, .int .i64 r.2.hi, .bool r.2.no]] : Value)) (sagOf s r); rw [sagOf, h3, h2, h1] <;> rfl) (fin_ret (res_cc (vs := [.int .i64 (((sagRound s r).1).lo), .int .i64 (((sagRound s r).1).hi), .bool (((sagRound s r).1).no)]) (us := [.int .i64 (((sagRound s r).2).lo), .int .i64 (((sagRound s r).2).hi), .bool (((sagRound s r).2).no)]) agg26 agg26 1 0 rfl rfl rfl rfl rfl rfl rfl rfl rfl rfl rfl))
end Go.Proofs.Ythngkopcadlciaa
namespace Go.Proofs.Ythngkopcadlciaa
open Go.RowKit
attribute [local irreducible] AC AR DWalk
def flat14  : Surf := (⟨false, false, (ivPoint 0), (ivWhole 1), (ivPoint 0), (ivPoint 0), (ivPoint 0), (ivWhole 100), (ivWhole 1)⟩ : Surf)
set_option maxRecDepth 100000 in
theorem c_flat14  : Gets Try.prog 32 #[] (Surf.v flat14) := by
 refine gets_fin Try.func32 rfl rfl rfl (aQ (aL (ao 0 rfl rfl (st_new zero41 rfl fun g0 => (aN (aQ (aL (aC 1 (c_ivPoint 0) Try.func29 ⟨rfl, by decide⟩ rfl rfl (aC 2 (c_ivWhole 1) Try.func21 ⟨rfl, by decide⟩ rfl rfl (aC 3 (c_ivPoint 0) Try.func29 ⟨rfl, by decide⟩ rfl rfl (aC 4 (c_ivPoint 0) Try.func29 ⟨rfl, by decide⟩ rfl rfl (aC 5 (c_ivPoint 0) Try.func29 ⟨rfl, by decide⟩ rfl rfl (aC 6 (c_ivWhole 100) Try.func21 ⟨rfl, by decide⟩ rfl rfl (aC 7 (c_ivWhole 1) Try.func21 ⟨rfl, by decide⟩ rfl rfl ?_))))))))))))))
 refine ao 8 rfl rfl (st_bd (us := [(2, .agg #[.int .i64 ((ivPoint 0).lo), .int .i64 ((ivPoint 0).hi), .bool ((ivPoint 0).no)]), (3, .agg #[.int .i64 ((ivWhole 1).lo), .int .i64 ((ivWhole 1).hi), .bool ((ivWhole 1).no)]), (4, .agg #[.int .i64 ((ivPoint 0).lo), .int .i64 ((ivPoint 0).hi), .bool ((ivPoint 0).no)]), (5, .agg #[.int .i64 ((ivPoint 0).lo), .int .i64 ((ivPoint 0).hi), .bool ((ivPoint 0).no)]), (6, .agg #[.int .i64 ((ivPoint 0).lo), .int .i64 ((ivPoint 0).hi), .bool ((ivPoint 0).no)]), (7, .agg #[.int .i64 ((ivWhole 100).lo), .int .i64 ((ivWhole 100).hi), .bool ((ivWhole 100).no)]), (8, .agg #[.int .i64 ((ivWhole 1).lo), .int .i64 ((ivWhole 1).hi), .bool ((ivWhole 1).no)])]) (v := .agg #[.bool false, .bool false, .int .i64 ((ivPoint 0).lo), .int .i64 ((ivPoint 0).hi), .bool ((ivPoint 0).no), .int .i64 ((ivWhole 1).lo), .int .i64 ((ivWhole 1).hi), .bool ((ivWhole 1).no), .int .i64 ((ivPoint 0).lo), .int .i64 ((ivPoint 0).hi), .bool ((ivPoint 0).no), .int .i64 ((ivPoint 0).lo), .int .i64 ((ivPoint 0).hi), .bool ((ivPoint 0).no), .int .i64 ((ivPoint 0).lo), .int .i64 ((ivPoint 0).hi), .bool ((ivPoint 0).no), .int .i64 ((ivWhole 100).lo), .int .i64 ((ivWhole 100).hi), .bool ((ivWhole 100).no), .int .i64 ((ivWhole 1).lo), .int .i64 ((ivWhole 1).hi), .bool ((ivWhole 1).no)]) rfl rfl (bd41_2a_3a_4a_5a_6a_7a_8a _ _ _ _ _ _ _ _ _ _ _ _ _ _ _ _ _ _ _ _ _) ?_)
 refine aS [.bool false, .bool false, .int .i64 ((ivPoint 0).lo), .int .i64 ((ivPoint 0).hi), .bool ((ivPoint 0).no), .int .i64 ((ivWhole 1).lo), .int .i64 ((ivWhole 1).hi), .bool ((ivWhole 1).no), .int .i64 ((ivPoint 0).lo), .int .i64 ((ivPoint 0).hi), .bool ((ivPoint 0).no), .int .i64 ((ivPoint 0).lo), .int .i64 ((ivPoint 0).hi), .bool ((ivPoint 0).no), .int .i64 ((ivPoint 0).lo), .int .i64 ((ivPoint 0).hi), .bool ((ivPoint 0).no), .int .i64 ((ivWhole 100).lo), .int .i64 ((ivWhole 100).hi), .bool ((ivWhole 100).no), .int .i64 ((ivWhole 1).lo), .int .i64 ((ivWhole 1).hi), .bool ((ivWhole 1).no)] agg41 0 rfl rfl rfl rfl rfl rfl (aN (ac_ret ?_))
 exact fin_eq (v := .agg #[.bool false, .bool false, .int .i64 ((ivPoint 0).lo), .int .i64 ((ivPoint 0).hi), .bool ((ivPoint 0).no), .int .i64 ((ivWhole 1).lo), .int .i64 ((ivWhole 1).hi), .bool ((ivWhole 1).no), .int .i64 ((ivPoint 0).lo), .int .i64 ((ivPoint 0).hi), .bool ((ivPoint 0).no), .int .i64 ((ivPoint 0).lo), .int .i64 ((ivPoint 0).hi), .bool ((ivPoint 0).no), .int .i64 ((ivPoint 0).lo), .int .i64 ((ivPoint 0).hi), .bool ((ivPoint 0).no), .int .i64 ((ivWhole 100).lo), .int .i64 ((ivWhole 100).hi), .bool ((ivWhole 100).no), .int .i64 ((ivWhole 1).lo), .int .i64 ((ivWhole 1).hi), .bool ((ivWhole 1).no)]) rfl (fin_ret (res_c (vs := [.bool false, .bool false, .int .i64 ((ivPoint 0).lo), .int .i64 ((ivPoint 0).hi), .bool ((ivPoint 0).no), .int .i64 ((ivWhole 1).lo), .int .i64 ((ivWhole 1).hi), .bool ((ivWhole 1).no), .int .i64 ((ivPoint 0).lo), .int .i64 ((ivPoint 0).hi), .bool ((ivPoint 0).no), .int .i64 ((ivPoint 0).lo), .int .i64 ((ivPoint 0).hi), .bool ((ivPoint 0).no), .int .i64 ((ivPoint 0).lo), .int .i64 ((ivPoint 0).hi), .bool ((ivPoint 0).no), .int .i64 ((ivWhole 100).lo), .int .i64 ((ivWhole 100).hi), .bool ((ivWhole 100).no), .int .i64 ((ivWhole 1).lo), .int .i64 ((ivWhole 1).hi), .bool ((ivWhole 1).no)]) agg41 0 rfl rfl rfl rfl rfl rfl))
def known14  : Bool := (bif decide (((sagOf flat14 (ivWhole 9)).1) = (ivPoint 0)) then (bif decide (((sagOf flat14 (ivWhole 9)).2) = (ivPoint 0)) then ivRight ((sagOf flat14 (ivWhole 9)).1) else false) else false)
set_option maxRecDepth 100000 in
theorem c_known14  : Gets Try.prog 35 #[] ((fun (r : Bool) => (.bool r : Value)) known14) := by
 refine gets_fin Try.func35 rfl rfl rfl (aQ (aL (aA 0 (.bool false) rfl rfl (aN (aQ (aL (aC 4 c_flat14 Try.func32 ⟨rfl, by decide⟩ rfl rfl (aC 5 (c_ivWhole 9) Try.func21 ⟨rfl, by decide⟩ rfl rfl (aC 6 (c_sagOf flat14 (ivWhole 9)) Try.func34 ⟨rfl, by decide⟩ rfl rfl (aM 3 (.tuple #[.agg #[.int .i64 (((sagOf flat14 (ivWhole 9)).1).lo), .int .i64 (((sagOf flat14 (ivWhole 9)).1).hi), .bool (((sagOf flat14 (ivWhole 9)).1).no)], .agg #[.int .i64 (((sagOf flat14 (ivWhole 9)).2).lo), .int .i64 (((sagOf flat14 (ivWhole 9)).2).hi), .bool (((sagOf flat14 (ivWhole 9)).2).no)]]) rfl rfl ?_))))))))))
 refine aX 7 (.agg #[.int .i64 (((sagOf flat14 (ivWhole 9)).1).lo), .int .i64 (((sagOf flat14 (ivWhole 9)).1).hi), .bool (((sagOf flat14 (ivWhole 9)).1).no)]) rfl rfl rfl (aX 8 (.agg #[.int .i64 (((sagOf flat14 (ivWhole 9)).2).lo), .int .i64 (((sagOf flat14 (ivWhole 9)).2).hi), .bool (((sagOf flat14 (ivWhole 9)).2).no)]) rfl rfl rfl (ao 1 rfl rfl (st_new zero26 rfl fun g0 => (ao 2 rfl rfl (st_new zero26 rfl fun g1 => (aS [.int .i64 (((sagOf flat14 (ivWhole 9)).1).lo), .int .i64 (((sagOf flat14 (ivWhole 9)).1).hi), .bool (((sagOf flat14 (ivWhole 9)).1).no)] agg26 1 rfl rfl rfl rfl rfl rfl ?_))))))
 refine aS [.int .i64 (((sagOf flat14 (ivWhole 9)).2).lo), .int .i64 (((sagOf flat14 (ivWhole 9)).2).hi), .bool (((sagOf flat14 (ivWhole 9)).2).no)] agg26 0 rfl rfl rfl rfl rfl rfl (aN (aQ ?_))
 refine ac_draw0 (id := 2) [0, 1, 2, 3, 4, 5, 6, 7, 8, 9, 10, 11, 12] [] _ (by kernel_rfl) follows rfl  (dw_op (d := (some 9)) (.agg #[.int .i64 (((sagOf flat14 (ivWhole 9)).1).lo), .int .i64 (((sagOf flat14 (ivWhole 9)).1).hi), .bool (((sagOf flat14 (ivWhole 9)).1).no)]) rfl rfl rfl (st_lda (vs := [.int .i64 (((sagOf flat14 (ivWhole 9)).1).lo), .int .i64 (((sagOf flat14 (ivWhole 9)).1).hi), .bool (((sagOf flat14 (ivWhole 9)).1).no)]) agg26 1 rfl rfl rfl rfl rfl rfl ⟨rfl, rfl⟩) (dw_op (d := (some 10)) (.agg #[.int .i64 ((ivPoint 0).lo), .int .i64 ((ivPoint 0).hi), .bool ((ivPoint 0).no)]) rfl rfl rfl (st_cf (c_ivPoint 0) Try.func29 rfl (by decide) rfl rfl rfl ⟨rfl, rfl⟩) ?_))
 refine dw_op (d := (some 11)) (.bool (decide (((sagOf flat14 (ivWhole 9)).1) = (ivPoint 0)))) rfl rfl rfl (st_bi (r := .bool (decide (((sagOf flat14 (ivWhole 9)).1) = (ivPoint 0)))) rfl rfl rfl (beql_26 ((sagOf flat14 (ivWhole 9)).1) (ivPoint 0) rfl) ⟨rfl, rfl⟩) (dw_op (d := (some 12)) (.bool (decide (((sagOf flat14 (ivWhole 9)).1) = (ivPoint 0)))) rfl rfl rfl (st_move (v := .bool (decide (((sagOf flat14 (ivWhole 9)).1) = (ivPoint 0)))) rfl rfl ⟨rfl, rfl⟩) ?_)
 refine bool_split (decide (((sagOf flat14 (ivWhole 9)).1) = (ivPoint 0))) (fun h1 => ?_) (fun h1 => ?_)
 ·refine dw_gd (d := (some 13)) (.agg #[.int .i64 (((sagOf flat14 (ivWhole 9)).2).lo), .int .i64 (((sagOf flat14 (ivWhole 9)).2).hi), .bool (((sagOf flat14 (ivWhole 9)).2).no)]) rfl (by show ((decide (((sagOf flat14 (ivWhole 9)).1) = (ivPoint 0))) == true) = true; rw [h1]; rfl) rfl (st_lda (vs := [.int .i64 (((sagOf flat14 (ivWhole 9)).2).lo), .int .i64 (((sagOf flat14 (ivWhole 9)).2).hi), .bool (((sagOf flat14 (ivWhole 9)).2).no)]) agg26 0 rfl rfl rfl rfl rfl rfl ⟨rfl, rfl⟩) ?_
  refine dw_gd (d := (some 14)) (.agg #[.int .i64 ((ivPoint 0).lo), .int .i64 ((ivPoint 0).hi), .bool ((ivPoint 0).no)]) rfl (by show ((decide (((sagOf flat14 (ivWhole 9)).1) = (ivPoint 0))) == true) = true; rw [h1]; rfl) rfl (st_cf (c_ivPoint 0) Try.func29 rfl (by decide) rfl rfl rfl ⟨rfl, rfl⟩) (dw_gd (d := (some 15)) (.bool (decide (((sagOf flat14 (ivWhole 9)).2) = (ivPoint 0)))) rfl (by show ((decide (((sagOf flat14 (ivWhole 9)).1) = (ivPoint 0))) == true) = true; rw [h1]; rfl) rfl (st_bi (r := .bool (decide (((sagOf flat14 (ivWhole 9)).2) = (ivPoint 0)))) rfl rfl rfl (beql_26 ((sagOf flat14 (ivWhole 9)).2) (ivPoint 0) rfl) ⟨rfl, rfl⟩) ?_)
  refine dw_op (d := (some 16)) (.bool (decide (((sagOf flat14 (ivWhole 9)).2) = (ivPoint 0)))) rfl rfl rfl (st_pkt' (b := decide (((sagOf flat14 (ivWhole 9)).1) = (ivPoint 0))) (v := .bool (decide (((sagOf flat14 (ivWhole 9)).2) = (ivPoint 0)))) h1 rfl rfl rfl ⟨rfl, rfl⟩) (dw_op (d := (some 17)) (.bool (decide (((sagOf flat14 (ivWhole 9)).2) = (ivPoint 0)))) rfl rfl rfl (st_move (v := .bool (decide (((sagOf flat14 (ivWhole 9)).2) = (ivPoint 0)))) rfl rfl ⟨rfl, rfl⟩) ?_)
  refine bool_split (decide (((sagOf flat14 (ivWhole 9)).2) = (ivPoint 0))) (fun h2 => ?_) (fun h2 => ?_)
  ·refine dw_gd (d := (some 18)) (.agg #[.int .i64 (((sagOf flat14 (ivWhole 9)).1).lo), .int .i64 (((sagOf flat14 (ivWhole 9)).1).hi), .bool (((sagOf flat14 (ivWhole 9)).1).no)]) rfl (by show ((decide (((sagOf flat14 (ivWhole 9)).2) = (ivPoint 0))) == true) = true; rw [h2]; rfl) rfl (st_lda (vs := [.int .i64 (((sagOf flat14 (ivWhole 9)).1).lo), .int .i64 (((sagOf flat14 (ivWhole 9)).1).hi), .bool (((sagOf flat14 (ivWhole 9)).1).no)]) agg26 1 rfl rfl rfl rfl rfl rfl ⟨rfl, rfl⟩) ?_
   refine dw_gd (d := (some 19)) (.bool (ivRight ((sagOf flat14 (ivWhole 9)).1))) rfl (by show ((decide (((sagOf flat14 (ivWhole 9)).2) = (ivPoint 0))) == true) = true; rw [h2]; rfl) rfl (st_cf (c_ivRight ((sagOf flat14 (ivWhole 9)).1)) Try.func25 rfl (by decide) rfl rfl rfl ⟨rfl, rfl⟩) (dw_op (d := (some 20)) (.bool (ivRight ((sagOf flat14 (ivWhole 9)).1))) rfl rfl rfl (st_pkt' (b := decide (((sagOf flat14 (ivWhole 9)).2) = (ivPoint 0))) (v := .bool (ivRight ((sagOf flat14 (ivWhole 9)).1))) h2 rfl rfl rfl ⟨rfl, rfl⟩) ?_)
   refine dw_op (d := (some 0)) (.bool (ivRight ((sagOf flat14 (ivWhole 9)).1))) rfl rfl rfl (st_assign (v := .bool (ivRight ((sagOf flat14 (ivWhole 9)).1))) rfl rfl ⟨rfl, rfl⟩) (dw_nil (aN (ac_ret (fin_eq (v := .bool (ivRight ((sagOf flat14 (ivWhole 9)).1))) (by show _ = (fun (r : Bool) => (.bool r : Value)) known14; rw [known14, h2, h1] <;> rfl) (fin_ret (res_tmp rfl rfl))))))
  ·refine dw_sk (d := (some 18)) rfl (by show ((decide (((sagOf flat14 (ivWhole 9)).2) = (ivPoint 0))) == true) = false; rw [h2]; rfl) rfl (dw_sk (d := (some 19)) rfl (by show ((decide (((sagOf flat14 (ivWhole 9)).2) = (ivPoint 0))) == true) = false; rw [h2]; rfl) rfl (dw_op (d := (some 20)) (.bool false) rfl rfl rfl (st_pkf' (b := decide (((sagOf flat14 (ivWhole 9)).2) = (ivPoint 0))) (v := .bool false) h2 rfl rfl rfl ⟨rfl, rfl⟩) (dw_op (d := (some 0)) (.bool false) rfl rfl rfl (st_assign (v := .bool false) rfl rfl ⟨rfl, rfl⟩) (dw_nil (aN (ac_ret ?_))))))
   exact fin_eq (v := .bool false) (by show _ = (fun (r : Bool) => (.bool r : Value)) known14; rw [known14, h2, h1] <;> rfl) (fin_ret (res_tmp rfl rfl))
 ·refine dw_sk (d := (some 13)) rfl (by show ((decide (((sagOf flat14 (ivWhole 9)).1) = (ivPoint 0))) == true) = false; rw [h1]; rfl) rfl (dw_sk (d := (some 14)) rfl (by show ((decide (((sagOf flat14 (ivWhole 9)).1) = (ivPoint 0))) == true) = false; rw [h1]; rfl) rfl (dw_sk (d := (some 15)) rfl (by show ((decide (((sagOf flat14 (ivWhole 9)).1) = (ivPoint 0))) == true) = false; rw [h1]; rfl) rfl (dw_op (d := (some 16)) (.bool false) rfl rfl rfl (st_pkf' (b := decide (((sagOf flat14 (ivWhole 9)).1) = (ivPoint 0))) (v := .bool false) h1 rfl rfl rfl ⟨rfl, rfl⟩) (dw_op (d := (some 17)) (.bool false) rfl rfl rfl (st_move (v := .bool false) rfl rfl ⟨rfl, rfl⟩) ?_))))
  refine dw_sk (d := (some 18)) rfl rfl rfl (dw_sk (d := (some 19)) rfl rfl rfl (dw_op (d := (some 20)) (.bool false) rfl rfl rfl (st_pkf (v := .bool false) rfl rfl rfl ⟨rfl, rfl⟩) (dw_op (d := (some 0)) (.bool false) rfl rfl rfl (st_assign (v := .bool false) rfl rfl ⟨rfl, rfl⟩) (dw_nil (aN (ac_ret (fin_eq (v := .bool false) (by show _ = (fun (r : Bool) => (.bool r : Value)) known14; rw [known14, h1] <;> rfl) (fin_ret (res_tmp rfl rfl)))))))))
end Go.Proofs.Ythngkopcadlciaa
namespace Go.Proofs.Ythngkopcadlciaa
theorem known14_true : known14 = true := by decide +kernel
theorem ofNo (l h : Int) : (ivOf l h).no = !ivRight (ivOf l h) := by
  by_cases k : -1073741824 ≤ l ∧ l ≤ h ∧ h ≤ 1073741824
  · rw [ivOf_in k, ivRight_t (R_mk k.1 k.2.1 k.2.2)]; rfl
  · rw [ivOf_out k]; rfl
theorem addNo (a b : Iv) : (ivAdd a b).no = !ivRight (ivAdd a b) := by
  by_cases h : R a ∧ R b
  · rw [ivAdd_spec h.1 h.2]; exact ofNo _ _
  · rw [ivAdd_out h]; rfl
theorem divNo (a b : Iv) : (ivDiv a b).no = !ivRight (ivDiv a b) := by
  by_cases h : R a ∧ R b ∧ ¬ (b.lo ≤ 0 ∧ 0 ≤ b.hi)
  · rw [ivDiv_val h.1 h.2.1 h.2.2]; exact ofNo _ _
  · rw [ivDiv_out h]; rfl
def Nice (x : Iv) : Prop := x.no = !ivRight x
theorem nice_R {x : Iv} (h : Nice x) (k : ivRight x = true) : (⟨x.lo, x.hi, false⟩ : Iv) = x := (R_eq ((ivRight_iff x).1 k)).symm
def sagZ (s : Surf) (r : Iv) : Iv := bif s.bent then ivAdd (sagRound s r).1 (sagOf_e0 s r) else (sagRound s r).1
def sagM (s : Surf) (r : Iv) : Iv := bif s.bent then sagOf_e2 s r else (sagRound s r).2
theorem sag_two (z m : Iv) (hz : Nice z) (hm : Nice m) : (bif z.no then (ivNone, ivNone) else bif m.no then (ivNone, ivNone) else ((⟨z.lo, z.hi, false⟩ : Iv), (⟨m.lo, m.hi, false⟩ : Iv))) = bif ivRight z then (bif ivRight m then (z, m) else (ivNone, ivNone)) else (ivNone, ivNone) := by
  rw [hz, hm]
  cases h : ivRight z
  · rfl
  · cases k : ivRight m
    · rfl
    · simp only [Bool.not_true, cond_false, cond_true, nice_R hz h, nice_R hm k]
theorem sagZ_nice (s : Surf) (r : Iv) : Nice (sagZ s r) := by
  unfold sagZ
  cases s.bent
  · exact divNo _ _
  · exact addNo _ _
theorem sagM_nice (s : Surf) (r : Iv) : Nice (sagM s r) := by
  unfold sagM
  cases s.bent
  · exact divNo _ _
  · exact addNo _ _
theorem sagOf_form (s : Surf) (r : Iv) : sagOf s r = bif ivRight (sagZ s r) then (bif ivRight (sagM s r) then (sagZ s r, sagM s r) else (ivNone, ivNone)) else (ivNone, ivNone) := by
  have h := sag_two (sagZ s r) (sagM s r) (sagZ_nice s r) (sagM_nice s r)
  rw [← h]
  unfold sagOf sagZ sagM
  cases s.bent <;> rfl
end Go.Proofs.Ythngkopcadlciaa
namespace Go.Proofs.Ythngkopcadlciaa
end Go.Proofs.Ythngkopcadlciaa
namespace Go.Proofs.Ythngkopcadlciaa
open Go.RowKit
attribute [local irreducible] AC AR DWalk
end Go.Proofs.Ythngkopcadlciaa
namespace Go.Proofs.Ythngkopcadlciaa
open Go.RowKit
attribute [local irreducible] AC AR DWalk
end Go.Proofs.Ythngkopcadlciaa
namespace Go.Proofs.Ythngkopcadlciaa
end Go.Proofs.Ythngkopcadlciaa
namespace Go.Proofs.Ythngkopcadlciaa
end Go.Proofs.Ythngkopcadlciaa
namespace Go.Proofs.Ythngkopcadlciaa
open Go.RowKit
attribute [local irreducible] AC AR DWalk
end Go.Proofs.Ythngkopcadlciaa
namespace Go.Proofs.Ythngkopcadlciaa
theorem htop_R {o : Iv} (h : R o) : htop o = o := by unfold htop; rw [ivRight_t h]; rfl
theorem htop_out {o : Iv} (h : ¬ R o) : htop o = ivNone := by unfold htop; rw [ivRight_f h]; rfl
end Go.Proofs.Ythngkopcadlciaa
namespace Go.Proofs.Ythngkopcadlciaa
open Go.RowKit
attribute [local irreducible] AC AR DWalk
end Go.Proofs.Ythngkopcadlciaa
namespace Go.Proofs.Ythngkopcadlciaa
open Go.RowKit
attribute [local irreducible] AC AR DWalk
def hV (l : A6) : V := (⟨(hIv l.a0 l.a1), (hIv l.a2 l.a3), (hIv l.a4 l.a5)⟩ : V)
end Go.Proofs.Ythngkopcadlciaa
namespace Go.Proofs.Ythngkopcadlciaa
end Go.Proofs.Ythngkopcadlciaa
namespace Go.Proofs.Ythngkopcadlciaa
open Go.RowKit
attribute [local irreducible] AC AR DWalk
def vecTurn (a : V) (k : Int) : V := (bif decide (0 < (Int.tmod (w64 ((Int.tmod k 4) + 4)) 4)) then (bif decide (1 < (Int.tmod (w64 ((Int.tmod k 4) + 4)) 4)) then (bif decide (2 < (Int.tmod (w64 ((Int.tmod k 4) + 4)) 4)) then (bif decide (3 < (Int.tmod (w64 ((Int.tmod k 4) + 4)) 4)) then (⟨(ivNeg (ivNeg a.x)), (ivNeg (ivNeg a.y)), a.z⟩ : V) else (⟨(ivNeg (ivNeg a.y)), (ivNeg a.x), a.z⟩ : V)) else (⟨(ivNeg a.x), (ivNeg a.y), a.z⟩ : V)) else (⟨(ivNeg a.y), a.x, a.z⟩ : V)) else a)
end Go.Proofs.Ythngkopcadlciaa
namespace Go.Proofs.Ythngkopcadlciaa
open Go.RowKit
attribute [local irreducible] AC AR DWalk
end Go.Proofs.Ythngkopcadlciaa
namespace Go.Proofs.Ythngkopcadlciaa
open Go.RowKit
attribute [local irreducible] AC AR DWalk
end Go.Proofs.Ythngkopcadlciaa
namespace Go.Proofs.Ythngkopcadlciaa
open Go.RowKit
attribute [local irreducible] AC AR DWalk
end Go.Proofs.Ythngkopcadlciaa
namespace Go.Proofs.Ythngkopcadlciaa
def turn1 (a : V) : V := ⟨ivNeg a.y, a.x, a.z⟩
def turn2 (a : V) : V := ⟨ivNeg a.x, ivNeg a.y, a.z⟩
def turn3 (a : V) : V := ⟨ivNeg (ivNeg a.y), ivNeg a.x, a.z⟩
theorem vecTurn_spec (a : V) (k : Int) : (k % 4 = 0 ∧ vecTurn a k = a) ∨ (k % 4 = 1 ∧ vecTurn a k = turn1 a) ∨ (k % 4 = 2 ∧ vecTurn a k = turn2 a) ∨ (k % 4 = 3 ∧ vecTurn a k = turn3 a) := by
  unfold vecTurn turn1 turn2 turn3
  rw [turn_mod]
  have h : k % 4 = 0 ∨ k % 4 = 1 ∨ k % 4 = 2 ∨ k % 4 = 3 := by omega
  rcases h with h | h | h | h <;> rw [h] <;> simp
theorem t0 {k : Int} (h : k % 4 = 0) (a : V) : vecTurn a k = a := by
  rcases vecTurn_spec a k with ⟨h', e⟩ | ⟨h', e⟩ | ⟨h', e⟩ | ⟨h', e⟩ <;> first | exact e | (exfalso; omega)
theorem t1 {k : Int} (h : k % 4 = 1) (a : V) : vecTurn a k = turn1 a := by
  rcases vecTurn_spec a k with ⟨h', e⟩ | ⟨h', e⟩ | ⟨h', e⟩ | ⟨h', e⟩ <;> first | exact e | (exfalso; omega)
theorem t2 {k : Int} (h : k % 4 = 2) (a : V) : vecTurn a k = turn1 (turn1 a) := by
  rcases vecTurn_spec a k with ⟨h', e⟩ | ⟨h', e⟩ | ⟨h', e⟩ | ⟨h', e⟩ <;> first | exact e | (exfalso; omega)
theorem t3 {k : Int} (h : k % 4 = 3) (a : V) : vecTurn a k = turn1 (turn1 (turn1 a)) := by
  rcases vecTurn_spec a k with ⟨h', e⟩ | ⟨h', e⟩ | ⟨h', e⟩ | ⟨h', e⟩ <;> first | exact e | (exfalso; omega)
theorem rq_negv (n c : Int) (up : Bool) : rq (-n) c (!up) = -(rq n c up) := by
  unfold rq upq dn
  cases up
  · simp
  · simp
theorem dq_negl (x : Int) {y : Int} (h : y ≠ 0) (up : Bool) : dq (-x) y (!up) = -(dq x y up) := by
  unfold dq
  rw [← rq_negv]
  by_cases hn : y < 0
  · rw [decide_eq_true hn]; simp only [cond_true, Int.neg_mul]
  · rw [decide_eq_false hn]; simp only [cond_false, Int.neg_mul]
theorem dq_negf (x : Int) {y : Int} (h : y ≠ 0) : dq (-x) y false = -(dq x y true) := dq_negl x h true
theorem dq_negt (x : Int) {y : Int} (h : y ≠ 0) : dq (-x) y true = -(dq x y false) := dq_negl x h false
theorem ivDiv_negl (a b : Iv) : ivDiv (ivNeg a) b = ivNeg (ivDiv a b) := by
  by_cases h : R a ∧ R b ∧ ¬ (b.lo ≤ 0 ∧ 0 ≤ b.hi)
  · rw [ivDiv_val (R_neg.2 h.1) h.2.1 h.2.2, ivDiv_val h.1 h.2.1 h.2.2, ivNeg_of]
    have hb := h.2.1.2
    have e1 : qn (ivNeg a) b = -(qx a b) := by
      rw [ivNeg_spec h.1]
      unfold qn qx min4 max4
      simp only
      simp (disch := omega) only [dq_negf]
      omega
    have e2 : qx (ivNeg a) b = -(qn a b) := by
      rw [ivNeg_spec h.1]
      unfold qn qx min4 max4
      simp only
      simp (disch := omega) only [dq_negt]
      omega
    rw [e1, e2]
  · rw [ivDiv_out h, ivDiv_out (fun k => h ⟨R_neg.1 k.1, k.2⟩), ivNeg_none]
end Go.Proofs.Ythngkopcadlciaa
namespace Go.Proofs.Ythngkopcadlciaa
theorem ivTimes_neg (a : Iv) (k : Int) : ivTimes (ivNeg a) k = ivNeg (ivTimes a k) := by
  by_cases h : R a ∧ (-1073741824 ≤ k ∧ k ≤ 1073741824)
  · rw [ivTimes_spec h.1 h.2, ivTimes_spec (R_neg.2 h.1) h.2, ivNeg_of, ivNeg_spec h.1]
    simp only [Int.mul_neg]
    congr 1 <;> omega
  · rw [ivTimes_out h, ivTimes_out (fun k' => h ⟨R_neg.1 k'.1, k'.2⟩), ivNeg_none]
theorem htop_neg (o : Iv) : htop (ivNeg o) = ivNeg (htop o) := by
  by_cases h : R o
  · rw [htop_R h, htop_R (R_neg.2 h)]
  · rw [htop_out h, htop_out (fun k => h (R_neg.1 k)), ivNeg_none]
theorem hornerN_neg (x : Iv) : ∀ (l : List Iv) (a : Iv), hornerN (ivNeg a) (l.map ivNeg) x = ivNeg (hornerN a l x)
  | [], a => htop_neg a
  | b :: l, a => by
    show ivAdd (ivMul (hornerN (ivNeg b) (l.map ivNeg) x) x) (ivNeg a) = ivNeg (ivAdd (ivMul (hornerN b l x) x) a)
    rw [hornerN_neg x l b, ivMul_negl, ← ivNeg_add]
theorem neg_p0 : ivNeg (ivPoint 0) = ivPoint 0 := by decide +kernel
theorem neg_t0 : ivNeg (ivTimes (ivPoint 0) 1) = ivTimes (ivPoint 0) 1 := by decide +kernel
theorem horner4_neg (a b x : Iv) : horner [ivPoint 0, ivPoint 0, ivNeg a, ivNeg b] x = ivNeg (horner [ivPoint 0, ivPoint 0, a, b] x) := by
  have := hornerN_neg x [ivPoint 0, a, b] (ivPoint 0)
  simp only [List.map_cons, List.map_nil, neg_p0] at this
  exact this
theorem horner3_neg (a b x : Iv) : horner [ivTimes (ivPoint 0) 1, ivTimes (ivNeg a) 2, ivTimes (ivNeg b) 3] x = ivNeg (horner [ivTimes (ivPoint 0) 1, ivTimes a 2, ivTimes b 3] x) := by
  have := hornerN_neg x [ivTimes a 2, ivTimes b 3] (ivTimes (ivPoint 0) 1)
  simp only [List.map_cons, List.map_nil, neg_t0] at this
  rw [ivTimes_neg, ivTimes_neg]
  exact this
def mirS (s : Surf) : Surf := ⟨s.stop, s.bent, ivNeg s.curve, s.conic, ivNeg s.a4, ivNeg s.a6, s.at_, s.open2, s.ratio⟩
theorem sagZ_mir (s : Surf) (r : Iv) : sagZ (mirS s) r = ivNeg (sagZ s r) := by
  have h1 : (sagRound (mirS s) r).1 = ivNeg (sagRound s r).1 := by
    unfold sagRound sagRound_e1 sagRound_e0 mirS
    simp only [ivSqr_neg, ivMul_negl, ivDiv_negl]
  have h2 : sagOf_e0 (mirS s) r = ivNeg (sagOf_e0 s r) := horner4_neg _ _ _
  unfold sagZ
  rw [h1, h2, show (mirS s).bent = s.bent from rfl]
  cases s.bent
  · rfl
  · exact (ivNeg_add _ _).symm
theorem sagM_mir (s : Surf) (r : Iv) : sagM (mirS s) r = ivNeg (sagM s r) := by
  have h1 : (sagRound (mirS s) r).2 = ivNeg (sagRound s r).2 := by
    unfold sagRound sagRound_e0 mirS
    simp only [ivSqr_neg, ivDiv_negl]
  have h2 : sagOf_e2 (mirS s) r = ivNeg (sagOf_e2 s r) := by
    have h3 : sagOf_e1 (mirS s) r = ivNeg (sagOf_e1 s r) := horner3_neg _ _ _
    unfold sagOf_e2
    rw [h1, h3, ivDiv_negl, ivNeg_add]
  unfold sagM
  rw [h1, h2, show (mirS s).bent = s.bent from rfl]
  cases s.bent <;> rfl
theorem right_neg (a : Iv) : ivRight (ivNeg a) = ivRight a := by
  by_cases h : R a
  · rw [ivRight_t h, ivRight_t (R_neg.2 h)]
  · rw [ivRight_f h, ivRight_f (fun k => h (R_neg.1 k))]
theorem sag_mir (s : Surf) (r : Iv) : sagOf (mirS s) r = (ivNeg (sagOf s r).1, ivNeg (sagOf s r).2) := by
  rw [sagOf_form, sagOf_form, sagZ_mir, sagM_mir, right_neg, right_neg]
  cases ivRight (sagZ s r) <;> cases ivRight (sagM s r) <;> first | rfl | (simp only [cond_false, cond_true, ivNeg_none])
end Go.Proofs.Ythngkopcadlciaa
