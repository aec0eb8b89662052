import Derived.Test.YthngkopcadlciaaPDec
import Derived.Test.YthngkopcadlciaaIv
set_option linter.unusedVariables false
set_option linter.unusedSimpArgs false
namespace Go.Proofs.Ythngkopcadlciaa
open Go.RowKit

attribute [local irreducible] AC AR DWalk
def decOf_e0 (d : Dec) : Int := (numFloor (w64 (0 - (w64 (d.c * 65536)))) (decPower d.scale))
def decOf_e1 (d : Dec) : Iv := (ivOf (numFloor (w64 (d.c * 65536)) (decPower d.scale)) (w64 (0 - (decOf_e0 d))))
def decOf (d : Dec) : Iv := (bif decRight d then (decOf_e1 d) else ivNone)
set_option maxRecDepth 100000 in
theorem c_decOf (d : Dec) : Gets Try.prog 118 #[.agg #[.int .i64 d.c, .int .i64 d.scale]] (Iv.v (decOf d)) := by
  refine gets_fin Try.func118 rfl rfl rfl ?_
  refine ac_seq ?_
  refine ac_region_lit ?_
  refine ao 1 rfl rfl (st_box (v := .agg #[.int .i64 d.c, .int .i64 d.scale]) (cs := [.int .i64 d.c, .int .i64 d.scale]) rfl rfl rfl fun g0 => ?_)
  refine ao 2 rfl rfl (st_new zero26 rfl fun g1 => ?_)
  refine ar_nil ?_
  refine ac_seq ?_
  refine ac_seq ?_
  refine ac_region_lit ?_
  refine ao 5 rfl rfl (st_lda (g := g0) (off := 0) (vs := [.int .i64 d.c, .int .i64 d.scale]) agg83 1 rfl rfl rfl rfl rfl rfl ?_)
  refine ao 6 rfl rfl (st_cf (vs := [.agg #[.int .i64 d.c, .int .i64 d.scale]]) (r := .bool (decRight d)) (c_decRight d) Try.func133 rfl (by decide) rfl rfl rfl ?_)
  refine ao 7 rfl rfl (st_un (u := .bool (decRight d)) (v := .bool (!(decRight d))) rfl rfl (un_not rfl) ?_)
  refine ar_nil ?_
  refine bool_split (decRight d) (fun h1 => ?_) (fun h1 => ?_)
  · refine ac_else' (b := !(decRight d)) (by rw [h1]; rfl) rfl ?_
    refine ac_skip ?_
    refine ac_seq ?_
    refine ac_draw0 (id := 3) [0, 1, 2, 3, 4, 5, 6, 7] [] _ (by kernel_rfl) follows rfl  ?_
    refine dw_op (d := (some 9)) (.pointer (some ⟨g0, 0, none⟩)) rfl rfl rfl (st_fa (g := g0) (off := 0) rfl fa83_0 rfl ⟨rfl, rfl⟩) ?_
    refine dw_op (d := (some 10)) (.int .i64 d.c) rfl rfl rfl (st_ldc (g := g0) (off := 0) (v := .int .i64 d.c) cell3 1 rfl rfl rfl rfl rfl ⟨rfl, rfl⟩) ?_
    refine dw_op (d := (some 11)) (.int .i64 (w64 (d.c * 65536))) rfl rfl rfl (st_bi (u := .int .i64 d.c) (v := .int .i64 65536) (r := .int .i64 (w64 (d.c * 65536))) rfl rfl rfl (bi_mul rfl) ⟨rfl, rfl⟩) ?_
    refine dw_op (d := (some 12)) (.pointer (some ⟨g0, 1, none⟩)) rfl rfl rfl (st_fa (g := g0) (off := 0) rfl fa83_1 rfl ⟨rfl, rfl⟩) ?_
    refine dw_op (d := (some 13)) (.int .i64 d.scale) rfl rfl rfl (st_ldc (g := g0) (off := 1) (v := .int .i64 d.scale) cell3 1 rfl rfl rfl rfl rfl ⟨rfl, rfl⟩) ?_
    refine dw_op (d := (some 14)) (.int .i64 (decPower d.scale)) rfl rfl rfl (st_cf (vs := [.int .i64 d.scale]) (r := .int .i64 (decPower d.scale)) (c_decPower d.scale (pow_ok d h1)) Try.func134 rfl (by decide) rfl rfl rfl ⟨rfl, rfl⟩) ?_
    refine dw_op (d := (some 3)) (.int .i64 (w64 (d.c * 65536))) rfl rfl rfl (st_assign (v := .int .i64 (w64 (d.c * 65536))) rfl rfl ⟨rfl, rfl⟩) ?_
    refine dw_op (d := (some 4)) (.int .i64 (decPower d.scale)) rfl rfl rfl (st_assign (v := .int .i64 (decPower d.scale)) rfl rfl ⟨rfl, rfl⟩) ?_
    refine dw_nil ?_
    refine ar_nil ?_
    refine ac_seq ?_
    refine ac_region_lit ?_
    refine ao 15 rfl rfl (st_move (v := .int .i64 (w64 (d.c * 65536))) rfl rfl ?_)
    refine ao 16 rfl rfl (st_move (v := .int .i64 (decPower d.scale)) rfl rfl ?_)
    refine ao 17 rfl rfl (st_cf (vs := [.int .i64 (w64 (d.c * 65536)), .int .i64 (decPower d.scale)]) (r := .int .i64 (numFloor (w64 (d.c * 65536)) (decPower d.scale))) (c_numFloor (w64 (d.c * 65536)) (decPower d.scale)) Try.func121 rfl (by decide) rfl rfl rfl ?_)
    refine ao 18 rfl rfl (st_move (v := .int .i64 (w64 (d.c * 65536))) rfl rfl ?_)
    refine ao 19 rfl rfl (st_un (u := .int .i64 (w64 (d.c * 65536))) (v := .int .i64 (w64 (0 - (w64 (d.c * 65536))))) rfl rfl (un_neg rfl) ?_)
    refine ao 20 rfl rfl (st_move (v := .int .i64 (decPower d.scale)) rfl rfl ?_)
    refine ao 21 rfl rfl (st_cf (vs := [.int .i64 (w64 (0 - (w64 (d.c * 65536)))), .int .i64 (decPower d.scale)]) (r := .int .i64 (decOf_e0 d)) (c_numFloor (w64 (0 - (w64 (d.c * 65536)))) (decPower d.scale)) Try.func121 rfl (by decide) rfl rfl rfl ?_)
    refine ao 22 rfl rfl (st_un (u := .int .i64 (decOf_e0 d)) (v := .int .i64 (w64 (0 - (decOf_e0 d)))) rfl rfl (un_neg rfl) ?_)
    refine ao 23 rfl rfl (st_cf (vs := [.int .i64 (numFloor (w64 (d.c * 65536)) (decPower d.scale)), .int .i64 (w64 (0 - (decOf_e0 d)))]) (r := .agg #[.int .i64 ((decOf_e1 d).lo), .int .i64 ((decOf_e1 d).hi), .bool ((decOf_e1 d).no)]) (c_ivOf (numFloor (w64 (d.c * 65536)) (decPower d.scale)) (w64 (0 - (decOf_e0 d)))) Try.func70 rfl (by decide) rfl rfl rfl ?_)
    refine ar_op (d := none) rfl rfl (st_sta (g := g1) (off := 0) (us := [.int .i64 ((decOf_e1 d).lo), .int .i64 ((decOf_e1 d).hi), .bool ((decOf_e1 d).no)]) (cs := [.int .i64 ((decOf_e1 d).lo), .int .i64 ((decOf_e1 d).hi), .bool ((decOf_e1 d).no)]) agg26 0 rfl rfl rfl rfl rfl rfl rfl rfl rfl ?_)
    refine ar_nil ?_
    refine ac_ret ?_
    exact fin_eq (v := .agg #[.int .i64 ((decOf_e1 d).lo), .int .i64 ((decOf_e1 d).hi), .bool ((decOf_e1 d).no)]) (by show _ = Iv.v (decOf d); rw [decOf, h1] <;> rfl) (fin_ret (res_c (vs := [.int .i64 ((decOf_e1 d).lo), .int .i64 ((decOf_e1 d).hi), .bool ((decOf_e1 d).no)]) agg26 0 rfl rfl rfl rfl rfl rfl))
  · refine ac_then' (b := !(decRight d)) (by rw [h1]; rfl) rfl ?_
    refine ac_seq ?_
    refine ac_region_lit ?_
    refine ao 8 rfl rfl (st_cf (vs := []) (r := .agg #[.int .i64 ivNone.lo, .int .i64 ivNone.hi, .bool ivNone.no]) c_ivNone Try.func28 rfl (by decide) rfl rfl rfl ?_)
    refine ar_op (d := none) rfl rfl (st_sta (g := g1) (off := 0) (us := [.int .i64 ivNone.lo, .int .i64 ivNone.hi, .bool ivNone.no]) (cs := [.int .i64 ivNone.lo, .int .i64 ivNone.hi, .bool ivNone.no]) agg26 0 rfl rfl rfl rfl rfl rfl rfl rfl rfl ?_)
    refine ar_nil ?_
    refine ac_ret ?_
    exact fin_eq (v := .agg #[.int .i64 ivNone.lo, .int .i64 ivNone.hi, .bool ivNone.no]) (by show _ = Iv.v (decOf d); rw [decOf, h1] <;> rfl) (fin_ret (res_c (vs := [.int .i64 ivNone.lo, .int .i64 ivNone.hi, .bool ivNone.no]) agg26 0 rfl rfl rfl rfl rfl rfl))
end Go.Proofs.Ythngkopcadlciaa
