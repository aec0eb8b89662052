import Derived.Test.YthngkopcadlciaaMSceneLess10
import Derived.Test.YthngkopcadlciaaMSceneLess12
import Derived.Test.YthngkopcadlciaaMSceneLess8
import Derived.Test.YthngkopcadlciaaLSceneLess
import Derived.Test.YthngkopcadlciaaMSceneLess0
import Derived.WalkKit
import Derived.ProofKit
import Derived.OpenShut
import Derived.ShutString
import Derived.ChangeOld
import Derived.Below
import Derived.SizedLaws
import Derived.ChangeSlices
import Derived.Test.YthngkopcadlciaaMSceneLess6
set_option linter.unusedVariables false
set_option linter.unusedSimpArgs false
namespace Go.Proofs.Ythngkopcadlciaa
open Go.RowKit
attribute [local irreducible] AC AR DWalk
def lawSceneLess0_e0 (x : RawRay) (m : Int) (n : Int) : Bool := (ivInside ((near0 (hInRay (hRay x) m n)).2.1) ((near0 (hRay x)).2.1))
def lawSceneLess0 (x : RawRay) (m : Int) (n : Int) : Bool := (bif known26 then (bif ((near0 (hRay x)).2.2) == 0 then (bif ((near0 (hRay x)).2.2) != 1 then true else (bif lawSceneLess0_e0 x m n then (bif decide (((near0 (hRay x)).1) ≥ 0) then decide (((near0 (hRay x)).1) < 0) else false) else false)) else (bif ((near0 (hInRay (hRay x) m n)).2.2) == ((near0 (hRay x)).2.2) then (bif ((near0 (hInRay (hRay x) m n)).1) == ((near0 (hRay x)).1) then (bif ((near0 (hRay x)).2.2) != 1 then true else (bif lawSceneLess0_e0 x m n then (bif decide (((near0 (hRay x)).1) ≥ 0) then decide (((near0 (hRay x)).1) < 0) else false) else false)) else false) else false)) else false)
set_option maxRecDepth 100000 in
set_option maxHeartbeats 4000000 in
theorem c_lawSceneLess0 (x : RawRay) (m : Int) (n : Int) (a : Option Addr) (cap : Nat) (H : (lawSceneLess0 x m n) = true) : Gets Try.prog 17 #[.slice a 0 cap, .agg #[.int .i64 x.x, .int .i64 x.y, .int .i64 x.u, .int .i64 x.w, .int .i64 x.wide, .int .i64 x.lean], .int .i64 m, .int .i64 n] (.bool true) := by
  refine gets_fin Try.func17 rfl rfl rfl ?_
  refine ac_seq ?_
  refine ac_region_lit ?_
  refine ao 5 rfl rfl (st_box (v := .agg #[.int .i64 x.x, .int .i64 x.y, .int .i64 x.u, .int .i64 x.w, .int .i64 x.wide, .int .i64 x.lean]) (cs := [.int .i64 x.x, .int .i64 x.y, .int .i64 x.u, .int .i64 x.w, .int .i64 x.wide, .int .i64 x.lean]) rfl rfl rfl fun g0 => ?_)
  refine ao 8 rfl rfl (st_assign (v := .bool false) rfl rfl ?_)
  refine ar_nil ?_
  refine ac_seq ?_
  refine ac_region_lit ?_
  refine ao 24 rfl rfl (st_move (v := .slice a 0 cap) rfl rfl ?_)
  refine ao 25 rfl rfl (st_cf (vs := [.slice a 0 cap]) (r := .slice none 0 0) (c_hScene0 a cap) Try.func55 rfl (by decide) rfl rfl rfl ?_)
  refine ao 9 rfl rfl (st_assign (v := .slice none 0 0) rfl rfl ?_)
  refine ar_nil ?_
  refine ac_seq ?_
  refine ac_region_lit ?_
  refine ao 26 rfl rfl (st_lda (g := g0) (off := 0) (vs := [.int .i64 x.x, .int .i64 x.y, .int .i64 x.u, .int .i64 x.w, .int .i64 x.wide, .int .i64 x.lean]) agg73 0 rfl rfl rfl rfl rfl rfl ?_)
  refine ao 27 rfl rfl (st_cf (vs := [.agg #[.int .i64 x.x, .int .i64 x.y, .int .i64 x.u, .int .i64 x.w, .int .i64 x.wide, .int .i64 x.lean]]) (r := .agg #[.int .i64 ((((hRay x).o).x).lo), .int .i64 ((((hRay x).o).x).hi), .bool ((((hRay x).o).x).no), .int .i64 ((((hRay x).o).y).lo), .int .i64 ((((hRay x).o).y).hi), .bool ((((hRay x).o).y).no), .int .i64 ((((hRay x).o).z).lo), .int .i64 ((((hRay x).o).z).hi), .bool ((((hRay x).o).z).no), .int .i64 ((((hRay x).d).x).lo), .int .i64 ((((hRay x).d).x).hi), .bool ((((hRay x).d).x).no), .int .i64 ((((hRay x).d).y).lo), .int .i64 ((((hRay x).d).y).hi), .bool ((((hRay x).d).y).no), .int .i64 ((((hRay x).d).z).lo), .int .i64 ((((hRay x).d).z).hi), .bool ((((hRay x).d).z).no)]) (c_hRay x) Try.func56 rfl (by decide) rfl rfl rfl ?_)
  refine ao 10 rfl rfl (st_new zero77 rfl fun g1 => ?_)
  refine ar_op (d := none) rfl rfl (st_sta (g := g1) (off := 0) (us := [.int .i64 ((((hRay x).o).x).lo), .int .i64 ((((hRay x).o).x).hi), .bool ((((hRay x).o).x).no), .int .i64 ((((hRay x).o).y).lo), .int .i64 ((((hRay x).o).y).hi), .bool ((((hRay x).o).y).no), .int .i64 ((((hRay x).o).z).lo), .int .i64 ((((hRay x).o).z).hi), .bool ((((hRay x).o).z).no), .int .i64 ((((hRay x).d).x).lo), .int .i64 ((((hRay x).d).x).hi), .bool ((((hRay x).d).x).no), .int .i64 ((((hRay x).d).y).lo), .int .i64 ((((hRay x).d).y).hi), .bool ((((hRay x).d).y).no), .int .i64 ((((hRay x).d).z).lo), .int .i64 ((((hRay x).d).z).hi), .bool ((((hRay x).d).z).no)]) (cs := [.int .i64 ((((hRay x).o).x).lo), .int .i64 ((((hRay x).o).x).hi), .bool ((((hRay x).o).x).no), .int .i64 ((((hRay x).o).y).lo), .int .i64 ((((hRay x).o).y).hi), .bool ((((hRay x).o).y).no), .int .i64 ((((hRay x).o).z).lo), .int .i64 ((((hRay x).o).z).hi), .bool ((((hRay x).o).z).no), .int .i64 ((((hRay x).d).x).lo), .int .i64 ((((hRay x).d).x).hi), .bool ((((hRay x).d).x).no), .int .i64 ((((hRay x).d).y).lo), .int .i64 ((((hRay x).d).y).hi), .bool ((((hRay x).d).y).no), .int .i64 ((((hRay x).d).z).lo), .int .i64 ((((hRay x).d).z).hi), .bool ((((hRay x).d).z).no)]) agg77 0 rfl rfl rfl rfl rfl rfl rfl rfl rfl ?_)
  refine ar_nil ?_
  refine ac_seq ?_
  refine ac_region_lit ?_
  refine ao 28 rfl rfl (st_lda (g := g1) (off := 0) (vs := [.int .i64 ((((hRay x).o).x).lo), .int .i64 ((((hRay x).o).x).hi), .bool ((((hRay x).o).x).no), .int .i64 ((((hRay x).o).y).lo), .int .i64 ((((hRay x).o).y).hi), .bool ((((hRay x).o).y).no), .int .i64 ((((hRay x).o).z).lo), .int .i64 ((((hRay x).o).z).hi), .bool ((((hRay x).o).z).no), .int .i64 ((((hRay x).d).x).lo), .int .i64 ((((hRay x).d).x).hi), .bool ((((hRay x).d).x).no), .int .i64 ((((hRay x).d).y).lo), .int .i64 ((((hRay x).d).y).hi), .bool ((((hRay x).d).y).no), .int .i64 ((((hRay x).d).z).lo), .int .i64 ((((hRay x).d).z).hi), .bool ((((hRay x).d).z).no)]) agg77 0 rfl rfl rfl rfl rfl rfl ?_)
  refine ao 29 rfl rfl (st_move (v := .int .i64 m) rfl rfl ?_)
  refine ao 30 rfl rfl (st_move (v := .int .i64 n) rfl rfl ?_)
  refine ao 31 rfl rfl (st_cf (vs := [.agg #[.int .i64 ((((hRay x).o).x).lo), .int .i64 ((((hRay x).o).x).hi), .bool ((((hRay x).o).x).no), .int .i64 ((((hRay x).o).y).lo), .int .i64 ((((hRay x).o).y).hi), .bool ((((hRay x).o).y).no), .int .i64 ((((hRay x).o).z).lo), .int .i64 ((((hRay x).o).z).hi), .bool ((((hRay x).o).z).no), .int .i64 ((((hRay x).d).x).lo), .int .i64 ((((hRay x).d).x).hi), .bool ((((hRay x).d).x).no), .int .i64 ((((hRay x).d).y).lo), .int .i64 ((((hRay x).d).y).hi), .bool ((((hRay x).d).y).no), .int .i64 ((((hRay x).d).z).lo), .int .i64 ((((hRay x).d).z).hi), .bool ((((hRay x).d).z).no)], .int .i64 m, .int .i64 n]) (r := .agg #[.int .i64 ((((hInRay (hRay x) m n).o).x).lo), .int .i64 ((((hInRay (hRay x) m n).o).x).hi), .bool ((((hInRay (hRay x) m n).o).x).no), .int .i64 ((((hInRay (hRay x) m n).o).y).lo), .int .i64 ((((hInRay (hRay x) m n).o).y).hi), .bool ((((hInRay (hRay x) m n).o).y).no), .int .i64 ((((hInRay (hRay x) m n).o).z).lo), .int .i64 ((((hInRay (hRay x) m n).o).z).hi), .bool ((((hInRay (hRay x) m n).o).z).no), .int .i64 ((((hInRay (hRay x) m n).d).x).lo), .int .i64 ((((hInRay (hRay x) m n).d).x).hi), .bool ((((hInRay (hRay x) m n).d).x).no), .int .i64 ((((hInRay (hRay x) m n).d).y).lo), .int .i64 ((((hInRay (hRay x) m n).d).y).hi), .bool ((((hInRay (hRay x) m n).d).y).no), .int .i64 ((((hInRay (hRay x) m n).d).z).lo), .int .i64 ((((hInRay (hRay x) m n).d).z).hi), .bool ((((hInRay (hRay x) m n).d).z).no)]) (c_hInRay (hRay x) m n) Try.func62 rfl (by decide) rfl rfl rfl ?_)
  refine ao 11 rfl rfl (st_new zero77 rfl fun g2 => ?_)
  refine ar_op (d := none) rfl rfl (st_sta (g := g2) (off := 0) (us := [.int .i64 ((((hInRay (hRay x) m n).o).x).lo), .int .i64 ((((hInRay (hRay x) m n).o).x).hi), .bool ((((hInRay (hRay x) m n).o).x).no), .int .i64 ((((hInRay (hRay x) m n).o).y).lo), .int .i64 ((((hInRay (hRay x) m n).o).y).hi), .bool ((((hInRay (hRay x) m n).o).y).no), .int .i64 ((((hInRay (hRay x) m n).o).z).lo), .int .i64 ((((hInRay (hRay x) m n).o).z).hi), .bool ((((hInRay (hRay x) m n).o).z).no), .int .i64 ((((hInRay (hRay x) m n).d).x).lo), .int .i64 ((((hInRay (hRay x) m n).d).x).hi), .bool ((((hInRay (hRay x) m n).d).x).no), .int .i64 ((((hInRay (hRay x) m n).d).y).lo), .int .i64 ((((hInRay (hRay x) m n).d).y).hi), .bool ((((hInRay (hRay x) m n).d).y).no), .int .i64 ((((hInRay (hRay x) m n).d).z).lo), .int .i64 ((((hInRay (hRay x) m n).d).z).hi), .bool ((((hInRay (hRay x) m n).d).z).no)]) (cs := [.int .i64 ((((hInRay (hRay x) m n).o).x).lo), .int .i64 ((((hInRay (hRay x) m n).o).x).hi), .bool ((((hInRay (hRay x) m n).o).x).no), .int .i64 ((((hInRay (hRay x) m n).o).y).lo), .int .i64 ((((hInRay (hRay x) m n).o).y).hi), .bool ((((hInRay (hRay x) m n).o).y).no), .int .i64 ((((hInRay (hRay x) m n).o).z).lo), .int .i64 ((((hInRay (hRay x) m n).o).z).hi), .bool ((((hInRay (hRay x) m n).o).z).no), .int .i64 ((((hInRay (hRay x) m n).d).x).lo), .int .i64 ((((hInRay (hRay x) m n).d).x).hi), .bool ((((hInRay (hRay x) m n).d).x).no), .int .i64 ((((hInRay (hRay x) m n).d).y).lo), .int .i64 ((((hInRay (hRay x) m n).d).y).hi), .bool ((((hInRay (hRay x) m n).d).y).no), .int .i64 ((((hInRay (hRay x) m n).d).z).lo), .int .i64 ((((hInRay (hRay x) m n).d).z).hi), .bool ((((hInRay (hRay x) m n).d).z).no)]) agg77 0 rfl rfl rfl rfl rfl rfl rfl rfl rfl ?_)
  refine ar_nil ?_
  refine ac_seq ?_
  refine ac_seq ?_
  refine ac_region_lit ?_
  refine ao 32 rfl rfl (st_move (v := .slice none 0 0) rfl rfl ?_)
  refine ao 33 rfl rfl (st_ln (a := none) (m := 0) (c := 0) rfl Try.underlying74 rfl ?_)
  refine ao 34 rfl rfl (st_move (v := .int .i64 0) rfl rfl ?_)
  refine ar_nil ?_
  refine ac_block ?_
  refine ac_rounds 61 ?_
  refine ar_round ?_
  refine ac_seq ?_
  refine ac_region_lit ?_
  refine ao 35 rfl rfl (st_bi (u := .int .i64 0) (v := .int .i64 0) (r := .bool false) rfl rfl rfl (bi_lss (by decide)) ?_)
  refine ar_nil ?_
  refine ac_seq ?_
  refine ac_else rfl ?_
  refine ac_exit ?_
  refine ac_seq ?_
  refine ac_region_lit ?_
  refine ao 69 rfl rfl (st_move (v := .slice none 0 0) rfl rfl ?_)
  refine ao 70 rfl rfl (st_lda (g := g1) (off := 0) (vs := [.int .i64 ((((hRay x).o).x).lo), .int .i64 ((((hRay x).o).x).hi), .bool ((((hRay x).o).x).no), .int .i64 ((((hRay x).o).y).lo), .int .i64 ((((hRay x).o).y).hi), .bool ((((hRay x).o).y).no), .int .i64 ((((hRay x).o).z).lo), .int .i64 ((((hRay x).o).z).hi), .bool ((((hRay x).o).z).no), .int .i64 ((((hRay x).d).x).lo), .int .i64 ((((hRay x).d).x).hi), .bool ((((hRay x).d).x).no), .int .i64 ((((hRay x).d).y).lo), .int .i64 ((((hRay x).d).y).hi), .bool ((((hRay x).d).y).no), .int .i64 ((((hRay x).d).z).lo), .int .i64 ((((hRay x).d).z).hi), .bool ((((hRay x).d).z).no)]) agg77 1 rfl rfl rfl rfl rfl rfl ?_)
  refine ao 71 rfl rfl (st_cf (vs := [.slice none 0 0, .agg #[.int .i64 ((((hRay x).o).x).lo), .int .i64 ((((hRay x).o).x).hi), .bool ((((hRay x).o).x).no), .int .i64 ((((hRay x).o).y).lo), .int .i64 ((((hRay x).o).y).hi), .bool ((((hRay x).o).y).no), .int .i64 ((((hRay x).o).z).lo), .int .i64 ((((hRay x).o).z).hi), .bool ((((hRay x).o).z).no), .int .i64 ((((hRay x).d).x).lo), .int .i64 ((((hRay x).d).x).hi), .bool ((((hRay x).d).x).no), .int .i64 ((((hRay x).d).y).lo), .int .i64 ((((hRay x).d).y).hi), .bool ((((hRay x).d).y).no), .int .i64 ((((hRay x).d).z).lo), .int .i64 ((((hRay x).d).z).hi), .bool ((((hRay x).d).z).no)]]) (r := .tuple #[.int .i64 ((near0 (hRay x)).1), .agg #[.int .i64 (((near0 (hRay x)).2.1).lo), .int .i64 (((near0 (hRay x)).2.1).hi), .bool (((near0 (hRay x)).2.1).no)], .int .i64 ((near0 (hRay x)).2.2)]) (c_near0 (hRay x)) Try.func57 rfl (by decide) rfl rfl rfl ?_)
  refine ao 68 rfl rfl (st_move (v := .tuple #[.int .i64 ((near0 (hRay x)).1), .agg #[.int .i64 (((near0 (hRay x)).2.1).lo), .int .i64 (((near0 (hRay x)).2.1).hi), .bool (((near0 (hRay x)).2.1).no)], .int .i64 ((near0 (hRay x)).2.2)]) rfl rfl ?_)
  refine ao 72 rfl rfl (st_ex (vs := [.int .i64 ((near0 (hRay x)).1), .agg #[.int .i64 (((near0 (hRay x)).2.1).lo), .int .i64 (((near0 (hRay x)).2.1).hi), .bool (((near0 (hRay x)).2.1).no)], .int .i64 ((near0 (hRay x)).2.2)]) (v := .int .i64 ((near0 (hRay x)).1)) rfl rfl rfl ?_)
  refine ao 73 rfl rfl (st_ex (vs := [.int .i64 ((near0 (hRay x)).1), .agg #[.int .i64 (((near0 (hRay x)).2.1).lo), .int .i64 (((near0 (hRay x)).2.1).hi), .bool (((near0 (hRay x)).2.1).no)], .int .i64 ((near0 (hRay x)).2.2)]) (v := .agg #[.int .i64 (((near0 (hRay x)).2.1).lo), .int .i64 (((near0 (hRay x)).2.1).hi), .bool (((near0 (hRay x)).2.1).no)]) rfl rfl rfl ?_)
  refine ao 74 rfl rfl (st_ex (vs := [.int .i64 ((near0 (hRay x)).1), .agg #[.int .i64 (((near0 (hRay x)).2.1).lo), .int .i64 (((near0 (hRay x)).2.1).hi), .bool (((near0 (hRay x)).2.1).no)], .int .i64 ((near0 (hRay x)).2.2)]) (v := .int .i64 ((near0 (hRay x)).2.2)) rfl rfl rfl ?_)
  refine ao 19 rfl rfl (st_new zero26 rfl fun g3 => ?_)
  refine ao 18 rfl rfl (st_assign (v := .int .i64 ((near0 (hRay x)).1)) rfl rfl ?_)
  refine ar_op (d := none) rfl rfl (st_sta (g := g3) (off := 0) (us := [.int .i64 (((near0 (hRay x)).2.1).lo), .int .i64 (((near0 (hRay x)).2.1).hi), .bool (((near0 (hRay x)).2.1).no)]) (cs := [.int .i64 (((near0 (hRay x)).2.1).lo), .int .i64 (((near0 (hRay x)).2.1).hi), .bool (((near0 (hRay x)).2.1).no)]) agg26 0 rfl rfl rfl rfl rfl rfl rfl rfl rfl ?_)
  refine ao 20 rfl rfl (st_assign (v := .int .i64 ((near0 (hRay x)).2.2)) rfl rfl ?_)
  refine ar_nil ?_
  refine ac_seq ?_
  refine ac_region_lit ?_
  refine ao 76 rfl rfl (st_move (v := .slice none 0 0) rfl rfl ?_)
  refine ao 77 rfl rfl (st_lda (g := g2) (off := 0) (vs := [.int .i64 ((((hInRay (hRay x) m n).o).x).lo), .int .i64 ((((hInRay (hRay x) m n).o).x).hi), .bool ((((hInRay (hRay x) m n).o).x).no), .int .i64 ((((hInRay (hRay x) m n).o).y).lo), .int .i64 ((((hInRay (hRay x) m n).o).y).hi), .bool ((((hInRay (hRay x) m n).o).y).no), .int .i64 ((((hInRay (hRay x) m n).o).z).lo), .int .i64 ((((hInRay (hRay x) m n).o).z).hi), .bool ((((hInRay (hRay x) m n).o).z).no), .int .i64 ((((hInRay (hRay x) m n).d).x).lo), .int .i64 ((((hInRay (hRay x) m n).d).x).hi), .bool ((((hInRay (hRay x) m n).d).x).no), .int .i64 ((((hInRay (hRay x) m n).d).y).lo), .int .i64 ((((hInRay (hRay x) m n).d).y).hi), .bool ((((hInRay (hRay x) m n).d).y).no), .int .i64 ((((hInRay (hRay x) m n).d).z).lo), .int .i64 ((((hInRay (hRay x) m n).d).z).hi), .bool ((((hInRay (hRay x) m n).d).z).no)]) agg77 1 rfl rfl rfl rfl rfl rfl ?_)
  refine ao 78 rfl rfl (st_cf (vs := [.slice none 0 0, .agg #[.int .i64 ((((hInRay (hRay x) m n).o).x).lo), .int .i64 ((((hInRay (hRay x) m n).o).x).hi), .bool ((((hInRay (hRay x) m n).o).x).no), .int .i64 ((((hInRay (hRay x) m n).o).y).lo), .int .i64 ((((hInRay (hRay x) m n).o).y).hi), .bool ((((hInRay (hRay x) m n).o).y).no), .int .i64 ((((hInRay (hRay x) m n).o).z).lo), .int .i64 ((((hInRay (hRay x) m n).o).z).hi), .bool ((((hInRay (hRay x) m n).o).z).no), .int .i64 ((((hInRay (hRay x) m n).d).x).lo), .int .i64 ((((hInRay (hRay x) m n).d).x).hi), .bool ((((hInRay (hRay x) m n).d).x).no), .int .i64 ((((hInRay (hRay x) m n).d).y).lo), .int .i64 ((((hInRay (hRay x) m n).d).y).hi), .bool ((((hInRay (hRay x) m n).d).y).no), .int .i64 ((((hInRay (hRay x) m n).d).z).lo), .int .i64 ((((hInRay (hRay x) m n).d).z).hi), .bool ((((hInRay (hRay x) m n).d).z).no)]]) (r := .tuple #[.int .i64 ((near0 (hInRay (hRay x) m n)).1), .agg #[.int .i64 (((near0 (hInRay (hRay x) m n)).2.1).lo), .int .i64 (((near0 (hInRay (hRay x) m n)).2.1).hi), .bool (((near0 (hInRay (hRay x) m n)).2.1).no)], .int .i64 ((near0 (hInRay (hRay x) m n)).2.2)]) (c_near0 (hInRay (hRay x) m n)) Try.func57 rfl (by decide) rfl rfl rfl ?_)
  refine ao 75 rfl rfl (st_move (v := .tuple #[.int .i64 ((near0 (hInRay (hRay x) m n)).1), .agg #[.int .i64 (((near0 (hInRay (hRay x) m n)).2.1).lo), .int .i64 (((near0 (hInRay (hRay x) m n)).2.1).hi), .bool (((near0 (hInRay (hRay x) m n)).2.1).no)], .int .i64 ((near0 (hInRay (hRay x) m n)).2.2)]) rfl rfl ?_)
  refine ao 79 rfl rfl (st_ex (vs := [.int .i64 ((near0 (hInRay (hRay x) m n)).1), .agg #[.int .i64 (((near0 (hInRay (hRay x) m n)).2.1).lo), .int .i64 (((near0 (hInRay (hRay x) m n)).2.1).hi), .bool (((near0 (hInRay (hRay x) m n)).2.1).no)], .int .i64 ((near0 (hInRay (hRay x) m n)).2.2)]) (v := .int .i64 ((near0 (hInRay (hRay x) m n)).1)) rfl rfl rfl ?_)
  refine ao 80 rfl rfl (st_ex (vs := [.int .i64 ((near0 (hInRay (hRay x) m n)).1), .agg #[.int .i64 (((near0 (hInRay (hRay x) m n)).2.1).lo), .int .i64 (((near0 (hInRay (hRay x) m n)).2.1).hi), .bool (((near0 (hInRay (hRay x) m n)).2.1).no)], .int .i64 ((near0 (hInRay (hRay x) m n)).2.2)]) (v := .agg #[.int .i64 (((near0 (hInRay (hRay x) m n)).2.1).lo), .int .i64 (((near0 (hInRay (hRay x) m n)).2.1).hi), .bool (((near0 (hInRay (hRay x) m n)).2.1).no)]) rfl rfl rfl ?_)
  refine ao 81 rfl rfl (st_ex (vs := [.int .i64 ((near0 (hInRay (hRay x) m n)).1), .agg #[.int .i64 (((near0 (hInRay (hRay x) m n)).2.1).lo), .int .i64 (((near0 (hInRay (hRay x) m n)).2.1).hi), .bool (((near0 (hInRay (hRay x) m n)).2.1).no)], .int .i64 ((near0 (hInRay (hRay x) m n)).2.2)]) (v := .int .i64 ((near0 (hInRay (hRay x) m n)).2.2)) rfl rfl rfl ?_)
  refine ao 22 rfl rfl (st_new zero26 rfl fun g4 => ?_)
  refine ao 21 rfl rfl (st_assign (v := .int .i64 ((near0 (hInRay (hRay x) m n)).1)) rfl rfl ?_)
  refine ar_op (d := none) rfl rfl (st_sta (g := g4) (off := 0) (us := [.int .i64 (((near0 (hInRay (hRay x) m n)).2.1).lo), .int .i64 (((near0 (hInRay (hRay x) m n)).2.1).hi), .bool (((near0 (hInRay (hRay x) m n)).2.1).no)]) (cs := [.int .i64 (((near0 (hInRay (hRay x) m n)).2.1).lo), .int .i64 (((near0 (hInRay (hRay x) m n)).2.1).hi), .bool (((near0 (hInRay (hRay x) m n)).2.1).no)]) agg26 0 rfl rfl rfl rfl rfl rfl rfl rfl rfl ?_)
  refine ao 23 rfl rfl (st_assign (v := .int .i64 ((near0 (hInRay (hRay x) m n)).2.2)) rfl rfl ?_)
  refine ar_nil ?_
  refine ac_seq ?_
  refine ac_region_lit ?_
  refine ao 82 rfl rfl (st_cf (vs := []) (r := .bool known26) c_known26 Try.func59 rfl (by decide) rfl rfl rfl ?_)
  refine ao 83 rfl rfl (st_move (v := .bool known26) rfl rfl ?_)
  refine bool_split (known26) (fun h1 => ?_) (fun h1 => nomatch (show false = true from (show (lawSceneLess0 x m n) = _ from (eF h1 rfl)).symm.trans H))
  refine ar_gd (d := (some 84)) (by show (known26 == true) = true; rw [h1]; rfl) rfl (st_move (v := .int .i64 ((near0 (hRay x)).2.2)) rfl rfl ?_)
  refine ar_gd (d := (some 85)) (by show (known26 == true) = true; rw [h1]; rfl) rfl (st_bi (u := .int .i64 ((near0 (hRay x)).2.2)) (v := .int .i64 0) (r := .bool (((near0 (hRay x)).2.2) == 0)) rfl rfl rfl (bi_eql rfl) ?_)
  refine ar_gd (d := (some 86)) (by show (known26 == true) = true; rw [h1]; rfl) rfl (st_move (v := .bool (((near0 (hRay x)).2.2) == 0)) rfl rfl ?_)
  refine bool_split (((near0 (hRay x)).2.2) == 0) (fun h2 => ?_) (fun h2 => ?_)
  · refine ar_sk (d := (some 87)) (by show ((((near0 (hRay x)).2.2) == 0) == false) = false; rw [h2]; rfl) rfl ?_
    refine ar_sk (d := (some 88)) (by show ((((near0 (hRay x)).2.2) == 0) == false) = false; rw [h2]; rfl) rfl ?_
    refine ar_sk (d := (some 89)) (by show ((((near0 (hRay x)).2.2) == 0) == false) = false; rw [h2]; rfl) rfl ?_
    refine ar_sk (d := (some 90)) (by show ((((near0 (hRay x)).2.2) == 0) == false) = false; rw [h2]; rfl) rfl ?_
    refine ar_sk (d := (some 91)) rfl rfl ?_
    refine ar_sk (d := (some 92)) rfl rfl ?_
    refine ar_sk (d := (some 93)) rfl rfl ?_
    refine ar_sk (d := (some 94)) (by show ((((near0 (hRay x)).2.2) == 0) == false) = false; rw [h2]; rfl) rfl ?_
    refine ar_gd (d := (some 95)) (by show (known26 == true) = true; rw [h1]; rfl) rfl (st_pkt' (b := ((near0 (hRay x)).2.2) == 0) (v := .bool true) h2 rfl rfl rfl ?_)
    refine ao 96 rfl rfl (st_pkt' (b := known26) (v := .bool true) h1 rfl rfl rfl ?_)
    refine ao 97 rfl rfl (st_move (v := .bool true) rfl rfl ?_)
    refine ar_gd (d := (some 98)) rfl rfl (st_move (v := .int .i64 ((near0 (hRay x)).2.2)) rfl rfl ?_)
    refine ar_gd (d := (some 99)) rfl rfl (st_bi (u := .int .i64 ((near0 (hRay x)).2.2)) (v := .int .i64 1) (r := .bool (((near0 (hRay x)).2.2) != 1)) rfl rfl rfl (bi_neq rfl) ?_)
    refine ar_gd (d := (some 100)) rfl rfl (st_move (v := .bool (((near0 (hRay x)).2.2) != 1)) rfl rfl ?_)
    refine bool_split (((near0 (hRay x)).2.2) != 1) (fun h3 => ?_) (fun h3 => ?_)
    · refine ar_sk (d := (some 101)) (by show ((((near0 (hRay x)).2.2) != 1) == false) = false; rw [h3]; rfl) rfl ?_
      refine ar_sk (d := (some 102)) (by show ((((near0 (hRay x)).2.2) != 1) == false) = false; rw [h3]; rfl) rfl ?_
      refine ar_sk (d := (some 103)) (by show ((((near0 (hRay x)).2.2) != 1) == false) = false; rw [h3]; rfl) rfl ?_
      refine ar_sk (d := (some 104)) (by show ((((near0 (hRay x)).2.2) != 1) == false) = false; rw [h3]; rfl) rfl ?_
      refine ar_sk (d := (some 105)) rfl rfl ?_
      refine ar_sk (d := (some 106)) rfl rfl ?_
      refine ar_sk (d := (some 107)) (by show ((((near0 (hRay x)).2.2) != 1) == false) = false; rw [h3]; rfl) rfl ?_
      refine ar_sk (d := (some 108)) (by show ((((near0 (hRay x)).2.2) != 1) == false) = false; rw [h3]; rfl) rfl ?_
      refine ar_sk (d := (some 109)) rfl rfl ?_
      refine ar_sk (d := (some 110)) rfl rfl ?_
      refine ar_sk (d := (some 111)) rfl rfl ?_
      refine ar_sk (d := (some 112)) rfl rfl ?_
      refine ar_sk (d := (some 113)) (by show ((((near0 (hRay x)).2.2) != 1) == false) = false; rw [h3]; rfl) rfl ?_
      refine ar_gd (d := (some 114)) rfl rfl (st_pkt' (b := ((near0 (hRay x)).2.2) != 1) (v := .bool true) h3 rfl rfl rfl ?_)
      refine ao 115 rfl rfl (st_pkt (v := .bool true) rfl rfl rfl ?_)
      refine ao 8 rfl rfl (st_assign (v := .bool true) rfl rfl ?_)
      refine ar_nil ?_
      refine ac_ret ?_
      exact fin_eq (by first | rfl | (rw [h3, h2, h1] <;> rfl)) (fin_ret (res_tmp rfl rfl))
    · refine ar_gd (d := (some 101)) (by show ((((near0 (hRay x)).2.2) != 1) == false) = true; rw [h3]; rfl) rfl (st_lda (g := g4) (off := 0) (vs := [.int .i64 (((near0 (hInRay (hRay x) m n)).2.1).lo), .int .i64 (((near0 (hInRay (hRay x) m n)).2.1).hi), .bool (((near0 (hInRay (hRay x) m n)).2.1).no)]) agg26 0 rfl rfl rfl rfl rfl rfl ?_)
      refine ar_gd (d := (some 102)) (by show ((((near0 (hRay x)).2.2) != 1) == false) = true; rw [h3]; rfl) rfl (st_lda (g := g3) (off := 0) (vs := [.int .i64 (((near0 (hRay x)).2.1).lo), .int .i64 (((near0 (hRay x)).2.1).hi), .bool (((near0 (hRay x)).2.1).no)]) agg26 1 rfl rfl rfl rfl rfl rfl ?_)
      refine ar_gd (d := (some 103)) (by show ((((near0 (hRay x)).2.2) != 1) == false) = true; rw [h3]; rfl) rfl (st_cf (vs := [.agg #[.int .i64 (((near0 (hInRay (hRay x) m n)).2.1).lo), .int .i64 (((near0 (hInRay (hRay x) m n)).2.1).hi), .bool (((near0 (hInRay (hRay x) m n)).2.1).no)], .agg #[.int .i64 (((near0 (hRay x)).2.1).lo), .int .i64 (((near0 (hRay x)).2.1).hi), .bool (((near0 (hRay x)).2.1).no)]]) (r := .bool (lawSceneLess0_e0 x m n)) (c_ivInside ((near0 (hInRay (hRay x) m n)).2.1) ((near0 (hRay x)).2.1)) Try.func26 rfl (by decide) rfl rfl rfl ?_)
      refine ar_gd (d := (some 104)) (by show ((((near0 (hRay x)).2.2) != 1) == false) = true; rw [h3]; rfl) rfl (st_move (v := .bool (lawSceneLess0_e0 x m n)) rfl rfl ?_)
      refine bool_split (lawSceneLess0_e0 x m n) (fun h4 => ?_) (fun h4 => nomatch (show false = true from (show (lawSceneLess0 x m n) = _ from (eT h1 (eT h2 (eF h3 (eF h4 rfl))))).symm.trans H))
      refine ar_gd (d := (some 105)) (by show ((lawSceneLess0_e0 x m n) == true) = true; rw [h4]; rfl) rfl (st_move (v := .int .i64 ((near0 (hRay x)).1)) rfl rfl ?_)
      refine ar_gd (d := (some 106)) (by show ((lawSceneLess0_e0 x m n) == true) = true; rw [h4]; rfl) rfl (st_bi (u := .int .i64 ((near0 (hRay x)).1)) (v := .int .i64 0) (r := .bool (decide (((near0 (hRay x)).1) ≥ 0))) rfl rfl rfl (bi_geq rfl) ?_)
      refine ar_gd (d := (some 107)) (by show ((((near0 (hRay x)).2.2) != 1) == false) = true; rw [h3]; rfl) rfl (st_pkt' (b := lawSceneLess0_e0 x m n) (v := .bool (decide (((near0 (hRay x)).1) ≥ 0))) h4 rfl rfl rfl ?_)
      refine ar_gd (d := (some 108)) (by show ((((near0 (hRay x)).2.2) != 1) == false) = true; rw [h3]; rfl) rfl (st_move (v := .bool (decide (((near0 (hRay x)).1) ≥ 0))) rfl rfl ?_)
      refine bool_split (decide (((near0 (hRay x)).1) ≥ 0)) (fun h5 => ?_) (fun h5 => nomatch (show false = true from (show (lawSceneLess0 x m n) = _ from (eT h1 (eT h2 (eF h3 (eT h4 (eF h5 rfl)))))).symm.trans H))
      refine ar_gd (d := (some 109)) (by show ((decide (((near0 (hRay x)).1) ≥ 0)) == true) = true; rw [h5]; rfl) rfl (st_move (v := .int .i64 ((near0 (hRay x)).1)) rfl rfl ?_)
      refine ar_gd (d := (some 110)) (by show ((decide (((near0 (hRay x)).1) ≥ 0)) == true) = true; rw [h5]; rfl) rfl (st_move (v := .slice none 0 0) rfl rfl ?_)
      refine ar_gd (d := (some 111)) (by show ((decide (((near0 (hRay x)).1) ≥ 0)) == true) = true; rw [h5]; rfl) rfl (st_ln (a := none) (m := 0) (c := 0) rfl Try.underlying74 rfl ?_)
      refine ar_gd (d := (some 112)) (by show ((decide (((near0 (hRay x)).1) ≥ 0)) == true) = true; rw [h5]; rfl) rfl (st_bi (u := .int .i64 ((near0 (hRay x)).1)) (v := .int .i64 0) (r := .bool (decide (((near0 (hRay x)).1) < 0))) rfl rfl rfl (bi_lss rfl) ?_)
      refine ar_gd (d := (some 113)) (by show ((((near0 (hRay x)).2.2) != 1) == false) = true; rw [h3]; rfl) rfl (st_pkt' (b := decide (((near0 (hRay x)).1) ≥ 0)) (v := .bool (decide (((near0 (hRay x)).1) < 0))) h5 rfl rfl rfl ?_)
      refine ar_gd (d := (some 114)) rfl rfl (st_pkf' (b := ((near0 (hRay x)).2.2) != 1) (v := .bool (decide (((near0 (hRay x)).1) < 0))) h3 rfl rfl rfl ?_)
      refine ao 115 rfl rfl (st_pkt (v := .bool (decide (((near0 (hRay x)).1) < 0))) rfl rfl rfl ?_)
      refine ao 8 rfl rfl (st_assign (v := .bool (decide (((near0 (hRay x)).1) < 0))) rfl rfl ?_)
      refine ar_nil ?_
      refine ac_ret ?_
      exact fin_eq (v := .bool (decide (((near0 (hRay x)).1) < 0))) (congrArg Value.bool (show (decide (((near0 (hRay x)).1) < 0)) = true from (show (lawSceneLess0 x m n) = _ from (eT h1 (eT h2 (eF h3 (eT h4 (eT h5 rfl)))))).symm.trans H)) (fin_ret (res_tmp rfl rfl))
  · refine ar_gd (d := (some 87)) (by show ((((near0 (hRay x)).2.2) == 0) == false) = true; rw [h2]; rfl) rfl (st_move (v := .int .i64 ((near0 (hInRay (hRay x) m n)).2.2)) rfl rfl ?_)
    refine ar_gd (d := (some 88)) (by show ((((near0 (hRay x)).2.2) == 0) == false) = true; rw [h2]; rfl) rfl (st_move (v := .int .i64 ((near0 (hRay x)).2.2)) rfl rfl ?_)
    refine ar_gd (d := (some 89)) (by show ((((near0 (hRay x)).2.2) == 0) == false) = true; rw [h2]; rfl) rfl (st_bi (u := .int .i64 ((near0 (hInRay (hRay x) m n)).2.2)) (v := .int .i64 ((near0 (hRay x)).2.2)) (r := .bool (((near0 (hInRay (hRay x) m n)).2.2) == ((near0 (hRay x)).2.2))) rfl rfl rfl (bi_eql rfl) ?_)
    refine ar_gd (d := (some 90)) (by show ((((near0 (hRay x)).2.2) == 0) == false) = true; rw [h2]; rfl) rfl (st_move (v := .bool (((near0 (hInRay (hRay x) m n)).2.2) == ((near0 (hRay x)).2.2))) rfl rfl ?_)
    refine bool_split (((near0 (hInRay (hRay x) m n)).2.2) == ((near0 (hRay x)).2.2)) (fun h3 => ?_) (fun h3 => nomatch (show false = true from (show (lawSceneLess0 x m n) = _ from (eT h1 (eF h2 (eF h3 rfl)))).symm.trans H))
    refine ar_gd (d := (some 91)) (by show ((((near0 (hInRay (hRay x) m n)).2.2) == ((near0 (hRay x)).2.2)) == true) = true; rw [h3]; rfl) rfl (st_move (v := .int .i64 ((near0 (hInRay (hRay x) m n)).1)) rfl rfl ?_)
    refine ar_gd (d := (some 92)) (by show ((((near0 (hInRay (hRay x) m n)).2.2) == ((near0 (hRay x)).2.2)) == true) = true; rw [h3]; rfl) rfl (st_move (v := .int .i64 ((near0 (hRay x)).1)) rfl rfl ?_)
    refine ar_gd (d := (some 93)) (by show ((((near0 (hInRay (hRay x) m n)).2.2) == ((near0 (hRay x)).2.2)) == true) = true; rw [h3]; rfl) rfl (st_bi (u := .int .i64 ((near0 (hInRay (hRay x) m n)).1)) (v := .int .i64 ((near0 (hRay x)).1)) (r := .bool (((near0 (hInRay (hRay x) m n)).1) == ((near0 (hRay x)).1))) rfl rfl rfl (bi_eql rfl) ?_)
    refine ar_gd (d := (some 94)) (by show ((((near0 (hRay x)).2.2) == 0) == false) = true; rw [h2]; rfl) rfl (st_pkt' (b := ((near0 (hInRay (hRay x) m n)).2.2) == ((near0 (hRay x)).2.2)) (v := .bool (((near0 (hInRay (hRay x) m n)).1) == ((near0 (hRay x)).1))) h3 rfl rfl rfl ?_)
    refine ar_gd (d := (some 95)) (by show (known26 == true) = true; rw [h1]; rfl) rfl (st_pkf' (b := ((near0 (hRay x)).2.2) == 0) (v := .bool (((near0 (hInRay (hRay x) m n)).1) == ((near0 (hRay x)).1))) h2 rfl rfl rfl ?_)
    refine ao 96 rfl rfl (st_pkt' (b := known26) (v := .bool (((near0 (hInRay (hRay x) m n)).1) == ((near0 (hRay x)).1))) h1 rfl rfl rfl ?_)
    refine ao 97 rfl rfl (st_move (v := .bool (((near0 (hInRay (hRay x) m n)).1) == ((near0 (hRay x)).1))) rfl rfl ?_)
    refine bool_split (((near0 (hInRay (hRay x) m n)).1) == ((near0 (hRay x)).1)) (fun h4 => ?_) (fun h4 => nomatch (show false = true from (show (lawSceneLess0 x m n) = _ from (eT h1 (eF h2 (eT h3 (eF h4 rfl))))).symm.trans H))
    refine ar_gd (d := (some 98)) (by show ((((near0 (hInRay (hRay x) m n)).1) == ((near0 (hRay x)).1)) == true) = true; rw [h4]; rfl) rfl (st_move (v := .int .i64 ((near0 (hRay x)).2.2)) rfl rfl ?_)
    refine ar_gd (d := (some 99)) (by show ((((near0 (hInRay (hRay x) m n)).1) == ((near0 (hRay x)).1)) == true) = true; rw [h4]; rfl) rfl (st_bi (u := .int .i64 ((near0 (hRay x)).2.2)) (v := .int .i64 1) (r := .bool (((near0 (hRay x)).2.2) != 1)) rfl rfl rfl (bi_neq rfl) ?_)
    refine ar_gd (d := (some 100)) (by show ((((near0 (hInRay (hRay x) m n)).1) == ((near0 (hRay x)).1)) == true) = true; rw [h4]; rfl) rfl (st_move (v := .bool (((near0 (hRay x)).2.2) != 1)) rfl rfl ?_)
    refine bool_split (((near0 (hRay x)).2.2) != 1) (fun h5 => ?_) (fun h5 => ?_)
    · refine ar_sk (d := (some 101)) (by show ((((near0 (hRay x)).2.2) != 1) == false) = false; rw [h5]; rfl) rfl ?_
      refine ar_sk (d := (some 102)) (by show ((((near0 (hRay x)).2.2) != 1) == false) = false; rw [h5]; rfl) rfl ?_
      refine ar_sk (d := (some 103)) (by show ((((near0 (hRay x)).2.2) != 1) == false) = false; rw [h5]; rfl) rfl ?_
      refine ar_sk (d := (some 104)) (by show ((((near0 (hRay x)).2.2) != 1) == false) = false; rw [h5]; rfl) rfl ?_
      refine ar_sk (d := (some 105)) rfl rfl ?_
      refine ar_sk (d := (some 106)) rfl rfl ?_
      refine ar_sk (d := (some 107)) (by show ((((near0 (hRay x)).2.2) != 1) == false) = false; rw [h5]; rfl) rfl ?_
      refine ar_sk (d := (some 108)) (by show ((((near0 (hRay x)).2.2) != 1) == false) = false; rw [h5]; rfl) rfl ?_
      refine ar_sk (d := (some 109)) rfl rfl ?_
      refine ar_sk (d := (some 110)) rfl rfl ?_
      refine ar_sk (d := (some 111)) rfl rfl ?_
      refine ar_sk (d := (some 112)) rfl rfl ?_
      refine ar_sk (d := (some 113)) (by show ((((near0 (hRay x)).2.2) != 1) == false) = false; rw [h5]; rfl) rfl ?_
      refine ar_gd (d := (some 114)) (by show ((((near0 (hInRay (hRay x) m n)).1) == ((near0 (hRay x)).1)) == true) = true; rw [h4]; rfl) rfl (st_pkt' (b := ((near0 (hRay x)).2.2) != 1) (v := .bool true) h5 rfl rfl rfl ?_)
      refine ao 115 rfl rfl (st_pkt' (b := ((near0 (hInRay (hRay x) m n)).1) == ((near0 (hRay x)).1)) (v := .bool true) h4 rfl rfl rfl ?_)
      refine ao 8 rfl rfl (st_assign (v := .bool true) rfl rfl ?_)
      refine ar_nil ?_
      refine ac_ret ?_
      exact fin_eq (by first | rfl | (rw [h5, h4, h3, h2, h1] <;> rfl)) (fin_ret (res_tmp rfl rfl))
    · refine ar_gd (d := (some 101)) (by show ((((near0 (hRay x)).2.2) != 1) == false) = true; rw [h5]; rfl) rfl (st_lda (g := g4) (off := 0) (vs := [.int .i64 (((near0 (hInRay (hRay x) m n)).2.1).lo), .int .i64 (((near0 (hInRay (hRay x) m n)).2.1).hi), .bool (((near0 (hInRay (hRay x) m n)).2.1).no)]) agg26 0 rfl rfl rfl rfl rfl rfl ?_)
      refine ar_gd (d := (some 102)) (by show ((((near0 (hRay x)).2.2) != 1) == false) = true; rw [h5]; rfl) rfl (st_lda (g := g3) (off := 0) (vs := [.int .i64 (((near0 (hRay x)).2.1).lo), .int .i64 (((near0 (hRay x)).2.1).hi), .bool (((near0 (hRay x)).2.1).no)]) agg26 1 rfl rfl rfl rfl rfl rfl ?_)
      refine ar_gd (d := (some 103)) (by show ((((near0 (hRay x)).2.2) != 1) == false) = true; rw [h5]; rfl) rfl (st_cf (vs := [.agg #[.int .i64 (((near0 (hInRay (hRay x) m n)).2.1).lo), .int .i64 (((near0 (hInRay (hRay x) m n)).2.1).hi), .bool (((near0 (hInRay (hRay x) m n)).2.1).no)], .agg #[.int .i64 (((near0 (hRay x)).2.1).lo), .int .i64 (((near0 (hRay x)).2.1).hi), .bool (((near0 (hRay x)).2.1).no)]]) (r := .bool (lawSceneLess0_e0 x m n)) (c_ivInside ((near0 (hInRay (hRay x) m n)).2.1) ((near0 (hRay x)).2.1)) Try.func26 rfl (by decide) rfl rfl rfl ?_)
      refine ar_gd (d := (some 104)) (by show ((((near0 (hRay x)).2.2) != 1) == false) = true; rw [h5]; rfl) rfl (st_move (v := .bool (lawSceneLess0_e0 x m n)) rfl rfl ?_)
      refine bool_split (lawSceneLess0_e0 x m n) (fun h6 => ?_) (fun h6 => nomatch (show false = true from (show (lawSceneLess0 x m n) = _ from (eT h1 (eF h2 (eT h3 (eT h4 (eF h5 (eF h6 rfl))))))).symm.trans H))
      refine ar_gd (d := (some 105)) (by show ((lawSceneLess0_e0 x m n) == true) = true; rw [h6]; rfl) rfl (st_move (v := .int .i64 ((near0 (hRay x)).1)) rfl rfl ?_)
      refine ar_gd (d := (some 106)) (by show ((lawSceneLess0_e0 x m n) == true) = true; rw [h6]; rfl) rfl (st_bi (u := .int .i64 ((near0 (hRay x)).1)) (v := .int .i64 0) (r := .bool (decide (((near0 (hRay x)).1) ≥ 0))) rfl rfl rfl (bi_geq rfl) ?_)
      refine ar_gd (d := (some 107)) (by show ((((near0 (hRay x)).2.2) != 1) == false) = true; rw [h5]; rfl) rfl (st_pkt' (b := lawSceneLess0_e0 x m n) (v := .bool (decide (((near0 (hRay x)).1) ≥ 0))) h6 rfl rfl rfl ?_)
      refine ar_gd (d := (some 108)) (by show ((((near0 (hRay x)).2.2) != 1) == false) = true; rw [h5]; rfl) rfl (st_move (v := .bool (decide (((near0 (hRay x)).1) ≥ 0))) rfl rfl ?_)
      refine bool_split (decide (((near0 (hRay x)).1) ≥ 0)) (fun h7 => ?_) (fun h7 => nomatch (show false = true from (show (lawSceneLess0 x m n) = _ from (eT h1 (eF h2 (eT h3 (eT h4 (eF h5 (eT h6 (eF h7 rfl)))))))).symm.trans H))
      refine ar_gd (d := (some 109)) (by show ((decide (((near0 (hRay x)).1) ≥ 0)) == true) = true; rw [h7]; rfl) rfl (st_move (v := .int .i64 ((near0 (hRay x)).1)) rfl rfl ?_)
      refine ar_gd (d := (some 110)) (by show ((decide (((near0 (hRay x)).1) ≥ 0)) == true) = true; rw [h7]; rfl) rfl (st_move (v := .slice none 0 0) rfl rfl ?_)
      refine ar_gd (d := (some 111)) (by show ((decide (((near0 (hRay x)).1) ≥ 0)) == true) = true; rw [h7]; rfl) rfl (st_ln (a := none) (m := 0) (c := 0) rfl Try.underlying74 rfl ?_)
      refine ar_gd (d := (some 112)) (by show ((decide (((near0 (hRay x)).1) ≥ 0)) == true) = true; rw [h7]; rfl) rfl (st_bi (u := .int .i64 ((near0 (hRay x)).1)) (v := .int .i64 0) (r := .bool (decide (((near0 (hRay x)).1) < 0))) rfl rfl rfl (bi_lss rfl) ?_)
      refine ar_gd (d := (some 113)) (by show ((((near0 (hRay x)).2.2) != 1) == false) = true; rw [h5]; rfl) rfl (st_pkt' (b := decide (((near0 (hRay x)).1) ≥ 0)) (v := .bool (decide (((near0 (hRay x)).1) < 0))) h7 rfl rfl rfl ?_)
      refine ar_gd (d := (some 114)) (by show ((((near0 (hInRay (hRay x) m n)).1) == ((near0 (hRay x)).1)) == true) = true; rw [h4]; rfl) rfl (st_pkf' (b := ((near0 (hRay x)).2.2) != 1) (v := .bool (decide (((near0 (hRay x)).1) < 0))) h5 rfl rfl rfl ?_)
      refine ao 115 rfl rfl (st_pkt' (b := ((near0 (hInRay (hRay x) m n)).1) == ((near0 (hRay x)).1)) (v := .bool (decide (((near0 (hRay x)).1) < 0))) h4 rfl rfl rfl ?_)
      refine ao 8 rfl rfl (st_assign (v := .bool (decide (((near0 (hRay x)).1) < 0))) rfl rfl ?_)
      refine ar_nil ?_
      refine ac_ret ?_
      exact fin_eq (v := .bool (decide (((near0 (hRay x)).1) < 0))) (congrArg Value.bool (show (decide (((near0 (hRay x)).1) < 0)) = true from (show (lawSceneLess0 x m n) = _ from (eT h1 (eF h2 (eT h3 (eT h4 (eF h5 (eT h6 (eT h7 rfl)))))))).symm.trans H)) (fin_ret (res_tmp rfl rfl))
end Go.Proofs.Ythngkopcadlciaa
namespace Go.Proofs.Ythngkopcadlciaa
theorem known26_true : known26 = true := by decide +kernel
theorem inRay_le (r : Ray) (m n : Int) : LeRay (hInRay r m n) r := ⟨hInV_Le _ _ _, hInV_Le _ _ _⟩
theorem lessRound_true {q r : Ray} (h : LeRay q r) (s : Shape) : lessRound r q s = true := by
  have hl := hit_less s h
  unfold lessRound
  rcases hit_cases s r with ⟨e, _⟩ | ⟨e, _⟩ | ⟨e, _⟩
  · rw [e]; rfl
  · rw [e, hl.2 e]; rfl
  · obtain ⟨e', hin⟩ := hl.1 e
    rw [e, e', hin]; rfl
theorem lawSceneLess0_true (x : RawRay) (m n : Int) : lawSceneLess0 x m n = true := by
  have e : ∀ r, near0 r = (-1, ivNone, 2) := fun _ => rfl
  unfold lawSceneLess0
  rw [known26_true, e, e]
  rfl
theorem lawSceneLess_true (l : List Int) (x : RawRay) (m n : Int) : lawSceneLess l x m n = true := by
  have e : ∀ r, near0 r = (-1, ivNone, 2) := fun _ => rfl
  have hle := inRay_le (hRay x) m n
  have hall : (hScene l).all (lessRound (hRay x) (hInRay (hRay x) m n)) = true := List.all_eq_true.2 fun s _ => lessRound_true hle s
  have hlen : (hScene l).length ≤ 1000 := Nat.le_trans (hSceneN_le 5 l) (by decide)
  unfold lawSceneLess lawSceneLess_e1
  rw [known26_true, e, e, hall]
  cases (hScene l).isEmpty
  · simp only [cond_false, cond_true]
    rcases sNear_less hle (hScene l) hlen with h | ⟨h, k⟩ | ⟨b, a, u, h, k, hin, hb, hbl⟩
    · rw [h]; rfl
    · rw [h, k]; rfl
    · rw [h, k]
      simp [hin, hb, hbl]
  · rfl
end Go.Proofs.Ythngkopcadlciaa
namespace Go.Proofs.Ythngkopcadlciaa
open Go.ChangeShapes Go.WideShapes Go.ChangeAt Go.RowKit
theorem heap_of_cell {w : World} {b o : Nat} {v : Value} (h : w.cell? ⟨b, o, none⟩ = some v) : ∃ (cs : List Value) (ty : TypeId) (fr : Nat × Nat), w.heap[b]? = some (.cells cs.toArray ty fr) ∧ cs[o]? = some v := by
  unfold World.cell? at h
  cases hb : w.heap[b]? with
  | none => simp [hb] at h
  | some x =>
    cases x <;> simp [hb] at h
    case cells c t fr => exact ⟨c.toList, t, fr, by simp, by simpa using h⟩
def Ints (W : World) (a : Option Addr) (len : Nat) : Prop := len = 0 ∨ ∃ b off, a = some ⟨b, off, none⟩ ∧ ∃ (cs : List Value) (ty : TypeId) (fr : Nat × Nat), W.heap[b]? = some (.cells cs.toArray ty fr) ∧ ∃ zs : Nat → Int, ∀ j, j < len → cs[off + j]? = some (.int .i64 (zs j))
theorem open_il {H : Type} {enc : TypeId × Value → H} {P : Program} {W : World} {base b0 : Nat} {held : Bool} {r : Reach} {t e : TypeId} {v : Value} {d : DataW H} {ps : List MemPlace} (ht : P.underlying t = some (.slice e)) (he : P.underlying e = some (.int .i64)) (hc : P.cellsOf e = 1)
    (hval : Value.okWide P W r b0 t v) (h : DataW.Trod enc P W base (fun _ => true) held t v d ps) :
    ∃ a len cap, v = .slice a len cap ∧ Ints W a len ∧ ∀ W', Below W.heap.size W W' → DataW.Trod enc P W' base (fun b => decide (b < W.heap.size)) held t v d ps := by
  obtain ⟨a0, len, cap, rfl⟩ := okWide_slice ht hval
  obtain ⟨fuel, hf⟩ := h
  refine ⟨a0, len, cap, rfl, ?_⟩
  rcases open_ints ht he hc hf with ⟨hcs, hx⟩ | ⟨a, len', cap', zs, hcs, hb, hl, hm, hz, hx, hcell, hw⟩
  · simp [Value.cells] at hcs
    obtain ⟨rfl, rfl, rfl⟩ := hcs
    simp only [Prod.mk.injEq] at hx
    obtain ⟨rfl, rfl⟩ := hx
    exact ⟨.inl rfl, fun W' _ => shut_slice_nil ht⟩
  · simp [Value.cells] at hcs
    obtain ⟨rfl, rfl, rfl⟩ := hcs
    simp only [Prod.mk.injEq] at hx
    obtain ⟨rfl, rfl⟩ := hx
    have hz0 : zs.length = cap := by simpa using hz
    have hlz : len ≤ zs.length := by omega
    have hz' : zs.length = if decide (a.block < W.heap.size) = true then cap else len := by
      by_cases h0 : 0 < zs.length
      · have := World.block_lt_of_cell? W _ (hcell 0 h0)
        have hlt : a.block < W.heap.size := by simpa [Addr.add] using this
        rw [if_pos (decide_eq_true hlt)]
        exact hz0
      · split <;> omega
    refine ⟨?_, fun W' bel => ?_⟩
    · by_cases h0 : len = 0
      · exact .inl h0
      · right
        obtain ⟨b, off, rfl, hc2⟩ := ints_at hcell (by omega)
        obtain ⟨cs, ty, fr, hh, _⟩ := heap_of_cell (hc2 0 (by omega))
        refine ⟨b, off, rfl, cs, ty, fr, hh, fun j => zs.getD j 0, fun j hj => ?_⟩
        obtain ⟨cs', ty', fr', hh', hv⟩ := heap_of_cell (hc2 j (by omega))
        rw [hh] at hh'
        simp only [Option.some.injEq, Obj.cells.injEq] at hh'
        have : cs = cs' := by
          have := congrArg Array.toList hh'.1
          simpa using this
        rw [this]
        exact hv
    · have := shut_ints (P := P) (w := W') (enc := enc) (base := base) (spare := fun b => decide (b < W.heap.size)) (held := held) (a := a) (cap := cap) (zs := zs) 0 ht he hc hb hl hm hz' (fun i hi => by
        have h1 := hcell i hi
        rw [← h1]
        exact World.cell?_of_block (bel.block _ (World.block_lt_of_cell? W _ h1))) hw
      exact ⟨_, this⟩
end Go.Proofs.Ythngkopcadlciaa
namespace Go.Proofs.Ythngkopcadlciaa
open Go.RowKit
theorem sceneLess_calls (W : World) (a : Option Addr) (len cap : Nat) (x : RawRay) (m n : Int) (h : Ints W a len) : Calls Try.prog 17 #[.slice a len cap, x.v, .int .i64 m, .int .i64 n] W fun e W' => e = .returned (.bool true) ∧ Below W.heap.size W W' := by
  have zero : ∀ a cap, Calls Try.prog 17 #[.slice a 0 cap, x.v, .int .i64 m, .int .i64 n] W fun e W' => e = .returned (.bool true) ∧ Below W.heap.size W W' := fun a cap => (c_lawSceneLess0 x m n a cap (lawSceneLess0_true x m n)) W
  rcases h with rfl | ⟨b, off, rfl, cs, ty, fr, hh, zs, hz⟩
  · exact zero a cap
  · have hA : At [⟨b, cs, ty, true⟩] W := by
      intro c hc
      obtain rfl := List.mem_singleton.1 hc
      exact ⟨fr, hh⟩
    have hl : ((List.range len).map zs).length = len := by simp
    have hg := c_lawSceneLess ((List.range len).map zs) x m n b off cap ty cs (fun j z hj => by
      have hlt : j < len := by
        have := (List.getElem?_eq_some_iff.1 hj).1
        rw [hl] at this
        exact this
      have := hz j hlt
      rw [this]
      simp only [List.getElem?_map, List.getElem?_range hlt, Option.map_some, Option.some.injEq] at hj
      rw [hj]) (lawSceneLess_true _ x m n)
    rw [hl] at hg
    refine (hg W hA (by simp)).mono ?_
    rintro e w' ⟨v', N, he, ⟨rfl, _⟩, _, _, hb⟩
    exact ⟨he, hb⟩
end Go.Proofs.Ythngkopcadlciaa
namespace Go.Proofs.Ythngkopcadlciaa
open Go.ChangeShapes Go.WideShapes Go.ChangeAt Go.RowKit
section
variable {H : Type} {enc : TypeId × Value → H} {w : World} {base : Nat} {spare : Nat → Bool} {held : Bool}
theorem rr_cells : Try.prog.cellsOf 73 = 6 := by kernel_rfl
theorem rr_int : Try.prog.cellsOf 3 = 1 := by kernel_rfl
set_option maxRecDepth 100000 in
theorem open_rr {r : Reach} {b0 : Nat} {v : Value} {d : DataW H} {p : List MemPlace} (hv : Value.okWide Try.prog w r b0 73 v) (h : DataW.Trod enc Try.prog w base spare held 73 v d p) :
    ∃ l : RawRay, v = l.v ∧ d = .agg [.lit (.int .i64 l.x), .lit (.int .i64 l.y), .lit (.int .i64 l.u), .lit (.int .i64 l.w), .lit (.int .i64 l.wide), .lit (.int .i64 l.lean)] ∧ p = [] ∧
      (Lit.int .i64 l.x).wf = true ∧ (Lit.int .i64 l.y).wf = true ∧ (Lit.int .i64 l.u).wf = true ∧ (Lit.int .i64 l.w).wf = true ∧ (Lit.int .i64 l.wide).wf = true ∧ (Lit.int .i64 l.lean).wf = true := by
  obtain ⟨cs, rfl, hsz⟩ := okWide_struct Try.underlying73 hv
  obtain ⟨l⟩ := cs
  match l, hsz.trans rr_cells with
  | [c0, c1, c2, c3, c4, c5], _ =>
    obtain ⟨fuel, hf⟩ := h
    obtain ⟨xs, m, _, hx, _, hlen, hg⟩ := DataW.trod_struct Try.underlying73 hf
    match xs, hlen with
    | [y0, y1, y2, y3, y4, y5], _ =>
      have k : ∀ (c : Value) (y : DataW H × List MemPlace), DataW.trod enc Try.prog w base spare held m 3 [c] = some y → ∃ n, c = .int .i64 n ∧ y = (.lit (.int .i64 n), []) ∧ (Lit.int .i64 n).wf = true := by
        intro c y hy
        obtain ⟨n, h1, h2, h3⟩ := DataW.trod_int Try.underlying3 hy
        simp at h1
        exact ⟨n, h1, h2, h3⟩
      obtain ⟨n0, rfl, rfl, w0⟩ := k c0 y0 (by simpa [Value.cells, rr_int] using hg 0 _ rfl)
      obtain ⟨n1, rfl, rfl, w1⟩ := k c1 y1 (by simpa [Value.cells, rr_int] using hg 1 _ rfl)
      obtain ⟨n2, rfl, rfl, w2⟩ := k c2 y2 (by simpa [Value.cells, rr_int] using hg 2 _ rfl)
      obtain ⟨n3, rfl, rfl, w3⟩ := k c3 y3 (by simpa [Value.cells, rr_int] using hg 3 _ rfl)
      obtain ⟨n4, rfl, rfl, w4⟩ := k c4 y4 (by simpa [Value.cells, rr_int] using hg 4 _ rfl)
      obtain ⟨n5, rfl, rfl, w5⟩ := k c5 y5 (by simpa [Value.cells, rr_int] using hg 5 _ rfl)
      simp only [Prod.mk.injEq] at hx
      exact ⟨⟨n0, n1, n2, n3, n4, n5⟩, rfl, by simpa using hx.1, by simpa using hx.2, w0, w1, w2, w3, w4, w5⟩
set_option maxRecDepth 100000 in
theorem shut_rr (l : RawRay) (w0 : (Lit.int .i64 l.x).wf = true) (w1 : (Lit.int .i64 l.y).wf = true) (w2 : (Lit.int .i64 l.u).wf = true) (w3 : (Lit.int .i64 l.w).wf = true) (w4 : (Lit.int .i64 l.wide).wf = true) (w5 : (Lit.int .i64 l.lean).wf = true) :
    DataW.Trod enc Try.prog w base spare held 73 l.v (.agg [.lit (.int .i64 l.x), .lit (.int .i64 l.y), .lit (.int .i64 l.u), .lit (.int .i64 l.w), .lit (.int .i64 l.wide), .lit (.int .i64 l.lean)]) [] :=
  ⟨2, by simp [DataW.trod, Value.cells, Try.underlying73, Try.underlying3, rr_int, rr_cells, w0, w1, w2, w3, w4, w5]⟩
end
end Go.Proofs.Ythngkopcadlciaa