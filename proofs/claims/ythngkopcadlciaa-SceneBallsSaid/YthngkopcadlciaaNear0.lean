import Derived.Test.YthngkopcadlciaaScene
import Derived.Test.YthngkopcadlciaaAny
set_option linter.unusedVariables false
set_option linter.unusedSimpArgs false
namespace Go.Proofs.Ythngkopcadlciaa
open Go.RowKit

attribute [local irreducible] AC AR DWalk
def near0 (r : Ray) : Int × Iv × Int := ((-1), ivNone, 2)
set_option maxRecDepth 100000 in
theorem c_near0 (r : Ray) : Gets Try.prog 57 #[.slice none 0 0, .agg #[.int .i64 r.o.x.lo, .int .i64 r.o.x.hi, .bool r.o.x.no, .int .i64 r.o.y.lo, .int .i64 r.o.y.hi, .bool r.o.y.no, .int .i64 r.o.z.lo, .int .i64 r.o.z.hi, .bool r.o.z.no, .int .i64 r.d.x.lo, .int .i64 r.d.x.hi, .bool r.d.x.no, .int .i64 r.d.y.lo, .int .i64 r.d.y.hi, .bool r.d.y.no, .int .i64 r.d.z.lo, .int .i64 r.d.z.hi, .bool r.d.z.no]] ((fun (r : Int × Iv × Int) => (.tuple #[.int .i64 r.1, .agg #[.int .i64 r.2.1.lo, .int .i64 r.2.1.hi, .bool r.2.1.no], .int .i64 r.2.2] : Value)) (near0 r)) := by
  refine gets_fin Try.func57 rfl rfl rfl ?_
  refine ac_seq ?_
  refine ac_region_lit ?_
  refine ao 3 rfl rfl (st_box (v := .agg #[.int .i64 r.o.x.lo, .int .i64 r.o.x.hi, .bool r.o.x.no, .int .i64 r.o.y.lo, .int .i64 r.o.y.hi, .bool r.o.y.no, .int .i64 r.o.z.lo, .int .i64 r.o.z.hi, .bool r.o.z.no, .int .i64 r.d.x.lo, .int .i64 r.d.x.hi, .bool r.d.x.no, .int .i64 r.d.y.lo, .int .i64 r.d.y.hi, .bool r.d.y.no, .int .i64 r.d.z.lo, .int .i64 r.d.z.hi, .bool r.d.z.no]) (cs := [.int .i64 r.o.x.lo, .int .i64 r.o.x.hi, .bool r.o.x.no, .int .i64 r.o.y.lo, .int .i64 r.o.y.hi, .bool r.o.y.no, .int .i64 r.o.z.lo, .int .i64 r.o.z.hi, .bool r.o.z.no, .int .i64 r.d.x.lo, .int .i64 r.d.x.hi, .bool r.d.x.no, .int .i64 r.d.y.lo, .int .i64 r.d.y.hi, .bool r.d.y.no, .int .i64 r.d.z.lo, .int .i64 r.d.z.hi, .bool r.d.z.no]) rfl rfl rfl fun g0 => ?_)
  refine ao 4 rfl rfl (st_assign (v := .int .i64 0) rfl rfl ?_)
  refine ao 5 rfl rfl (st_new zero26 rfl fun g1 => ?_)
  refine ao 6 rfl rfl (st_assign (v := .int .i64 0) rfl rfl ?_)
  refine ar_nil ?_
  refine ac_seq ?_
  refine ac_region_lit ?_
  refine ao 17 rfl rfl (st_cf (vs := []) (r := .agg #[.int .i64 ivNone.lo, .int .i64 ivNone.hi, .bool ivNone.no]) c_ivNone Try.func28 rfl (by decide) rfl rfl rfl ?_)
  refine ao 8 rfl rfl (st_new zero26 rfl fun g2 => ?_)
  refine ao 7 rfl rfl (st_assign (v := .int .i64 (-1)) rfl rfl ?_)
  refine ar_op (d := none) rfl rfl (st_sta (g := g2) (off := 0) (us := [.int .i64 ivNone.lo, .int .i64 ivNone.hi, .bool ivNone.no]) (cs := [.int .i64 ivNone.lo, .int .i64 ivNone.hi, .bool ivNone.no]) agg26 0 rfl rfl rfl rfl rfl rfl rfl rfl rfl ?_)
  refine ar_nil ?_
  refine ac_seq ?_
  refine ac_region_lit ?_
  refine ao 9 rfl rfl (st_assign (v := .slice none 0 0) rfl rfl ?_)
  refine ar_nil ?_
  refine ac_seq ?_
  refine ac_seq ?_
  refine ac_region_lit ?_
  refine ao 18 rfl rfl (st_move (v := .slice none 0 0) rfl rfl ?_)
  refine ao 19 rfl rfl (st_ln (a := none) (m := 0) (c := 0) rfl Try.underlying74 rfl ?_)
  refine ao 20 rfl rfl (st_move (v := .int .i64 0) rfl rfl ?_)
  refine ar_nil ?_
  refine ac_block ?_
  refine ac_rounds 61 ?_
  refine ar_round ?_
  refine ac_seq ?_
  refine ac_region_lit ?_
  refine ao 21 rfl rfl (st_bi (u := .int .i64 0) (v := .int .i64 0) (r := .bool false) rfl rfl rfl (bi_lss (by decide)) ?_)
  refine ar_nil ?_
  refine ac_seq ?_
  refine ac_else rfl ?_
  refine ac_exit ?_
  refine ac_seq ?_
  refine ac_seq ?_
  refine ac_region_lit ?_
  refine ao 55 rfl rfl (st_move (v := .int .i64 (-1)) rfl rfl ?_)
  refine ao 56 rfl rfl (st_bi (u := .int .i64 (-1)) (v := .int .i64 0) (r := .bool true) rfl rfl rfl (bi_lss (by decide)) ?_)
  refine ar_nil ?_
  refine ac_then rfl ?_
  refine ac_seq ?_
  refine ac_region_lit ?_
  refine ao 57 rfl rfl (st_cf (vs := []) (r := .agg #[.int .i64 ivNone.lo, .int .i64 ivNone.hi, .bool ivNone.no]) c_ivNone Try.func28 rfl (by decide) rfl rfl rfl ?_)
  refine ao 4 rfl rfl (st_assign (v := .int .i64 (-1)) rfl rfl ?_)
  refine ar_op (d := none) rfl rfl (st_sta (g := g1) (off := 0) (us := [.int .i64 ivNone.lo, .int .i64 ivNone.hi, .bool ivNone.no]) (cs := [.int .i64 ivNone.lo, .int .i64 ivNone.hi, .bool ivNone.no]) agg26 1 rfl rfl rfl rfl rfl rfl rfl rfl rfl ?_)
  refine ao 6 rfl rfl (st_assign (v := .int .i64 2) rfl rfl ?_)
  refine ar_nil ?_
  refine ac_ret ?_
  exact fin_eq (v := .tuple #[.int .i64 (-1), .agg #[.int .i64 ivNone.lo, .int .i64 ivNone.hi, .bool ivNone.no], .int .i64 2]) rfl (fin_ret (res_tct (vs := [.int .i64 ivNone.lo, .int .i64 ivNone.hi, .bool ivNone.no]) agg26 1 rfl rfl rfl rfl rfl rfl rfl rfl))
end Go.Proofs.Ythngkopcadlciaa
