import Derived.Test.YthngkopcadlciaaDec2
import Derived.Test.YthngkopcadlciaaVec
import Derived.Test.YthngkopcadlciaaQuad
set_option linter.unusedVariables false
set_option linter.unusedSimpArgs false
namespace Go.Proofs.Ythngkopcadlciaa
open Go.RowKit

attribute [local irreducible] AC AR DWalk
def sceneMeet_e0 (s : Shape) (r : Ray) : Iv := (vecDot (vecSub r.o (vecOf (decOf s.x) (decOf s.y) (decOf s.z))) r.d)
def sceneMeet_e1 (s : Shape) (r : Ray) : Iv := (vecLen2 (vecSub r.o (vecOf (decOf s.x) (decOf s.y) (decOf s.z))))
def sceneMeet_e2 (s : Shape) (r : Ray) : Iv × Int := (quadNear (vecLen2 r.d) (sceneMeet_e0 s r) (ivSub (sceneMeet_e1 s r) (ivSqr (decOf s.r))))
def sceneMeet (s : Shape) (r : Ray) : Iv × Int := (bif s.kind == 1 then (((sceneMeet_e2 s r).1), (sceneMeet_e2 s r).2) else (bif s.kind == 2 then (bif (ivDiv (ivSub (decOf s.z) r.o.z) r.d.z).no then (ivNone, 0) else ((⟨(ivDiv (ivSub (decOf s.z) r.o.z) r.d.z).lo, (ivDiv (ivSub (decOf s.z) r.o.z) r.d.z).hi, false⟩ : Iv), 1)) else (ivNone, 0)))
set_option maxRecDepth 100000 in
theorem c_sceneMeet (s : Shape) (r : Ray) : Gets Try.prog 98 #[.agg #[.int .i64 s.kind, .int .i64 s.x.c, .int .i64 s.x.scale, .int .i64 s.y.c, .int .i64 s.y.scale, .int .i64 s.z.c, .int .i64 s.z.scale, .int .i64 s.r.c, .int .i64 s.r.scale, .int .i64 s.glow.a0, .int .i64 s.glow.a1, .int .i64 s.glow.a2], .agg #[.int .i64 r.o.x.lo, .int .i64 r.o.x.hi, .bool r.o.x.no, .int .i64 r.o.y.lo, .int .i64 r.o.y.hi, .bool r.o.y.no, .int .i64 r.o.z.lo, .int .i64 r.o.z.hi, .bool r.o.z.no, .int .i64 r.d.x.lo, .int .i64 r.d.x.hi, .bool r.d.x.no, .int .i64 r.d.y.lo, .int .i64 r.d.y.hi, .bool r.d.y.no, .int .i64 r.d.z.lo, .int .i64 r.d.z.hi, .bool r.d.z.no]] ((fun (r : Iv × Int) => (.tuple #[.agg #[.int .i64 r.1.lo, .int .i64 r.1.hi, .bool r.1.no], .int .i64 r.2] : Value)) (sceneMeet s r)) := by
  refine gets_fin Try.func98 rfl rfl rfl ?_
  refine ac_seq ?_
  refine ac_region_lit ?_
  refine ao 2 rfl rfl (st_box (v := .agg #[.int .i64 s.kind, .int .i64 s.x.c, .int .i64 s.x.scale, .int .i64 s.y.c, .int .i64 s.y.scale, .int .i64 s.z.c, .int .i64 s.z.scale, .int .i64 s.r.c, .int .i64 s.r.scale, .int .i64 s.glow.a0, .int .i64 s.glow.a1, .int .i64 s.glow.a2]) (cs := [.int .i64 s.kind, .int .i64 s.x.c, .int .i64 s.x.scale, .int .i64 s.y.c, .int .i64 s.y.scale, .int .i64 s.z.c, .int .i64 s.z.scale, .int .i64 s.r.c, .int .i64 s.r.scale, .int .i64 s.glow.a0, .int .i64 s.glow.a1, .int .i64 s.glow.a2]) rfl rfl rfl fun g0 => ?_)
  refine ao 3 rfl rfl (st_box (v := .agg #[.int .i64 r.o.x.lo, .int .i64 r.o.x.hi, .bool r.o.x.no, .int .i64 r.o.y.lo, .int .i64 r.o.y.hi, .bool r.o.y.no, .int .i64 r.o.z.lo, .int .i64 r.o.z.hi, .bool r.o.z.no, .int .i64 r.d.x.lo, .int .i64 r.d.x.hi, .bool r.d.x.no, .int .i64 r.d.y.lo, .int .i64 r.d.y.hi, .bool r.d.y.no, .int .i64 r.d.z.lo, .int .i64 r.d.z.hi, .bool r.d.z.no]) (cs := [.int .i64 r.o.x.lo, .int .i64 r.o.x.hi, .bool r.o.x.no, .int .i64 r.o.y.lo, .int .i64 r.o.y.hi, .bool r.o.y.no, .int .i64 r.o.z.lo, .int .i64 r.o.z.hi, .bool r.o.z.no, .int .i64 r.d.x.lo, .int .i64 r.d.x.hi, .bool r.d.x.no, .int .i64 r.d.y.lo, .int .i64 r.d.y.hi, .bool r.d.y.no, .int .i64 r.d.z.lo, .int .i64 r.d.z.hi, .bool r.d.z.no]) rfl rfl rfl fun g1 => ?_)
  refine ao 4 rfl rfl (st_new zero26 rfl fun g2 => ?_)
  refine ao 5 rfl rfl (st_assign (v := .int .i64 0) rfl rfl ?_)
  refine ar_nil ?_
  refine ac_seq ?_
  refine ac_seq ?_
  refine ac_region_lit ?_
  refine ao 8 rfl rfl (st_fa (g := g0) (off := 0) rfl fa86_0 rfl ?_)
  refine ao 9 rfl rfl (st_ldc (g := g0) (off := 0) (v := .int .i64 s.kind) cell3 2 rfl rfl rfl rfl rfl ?_)
  refine ar_nil ?_
  refine ac_block ?_
  refine ac_seq ?_
  refine ac_region_lit ?_
  refine ao 11 rfl rfl (st_bi (u := .int .i64 s.kind) (v := .int .i64 1) (r := .bool (s.kind == 1)) rfl rfl rfl (bi_eql rfl) ?_)
  refine ao 10 rfl rfl (st_assign (v := .bool (s.kind == 1)) rfl rfl ?_)
  refine ar_nil ?_
  refine bool_split (s.kind == 1) (fun h1 => ?_) (fun h1 => ?_)
  · refine ac_then' (b := s.kind == 1) h1 rfl ?_
    refine ac_seq ?_
    refine ac_draw1 (id := 3) [0, 1, 2, 3, 4, 5, 6, 7, 8, 9, 10, 11, 12] [14] 13 6 57 _ _ (by kernel_rfl) follows rfl zero57 ⟨_, rfl, rfl, rfl, rfl⟩ ?_
    refine dw_op (d := (some 12)) (.pointer (some ⟨g1, 0, none⟩)) rfl rfl rfl (st_fa (g := g1) (off := 0) rfl fa77_0 rfl ⟨rfl, rfl⟩) ?_
    refine dw_op (d := (some 13)) (.agg #[.int .i64 r.o.x.lo, .int .i64 r.o.x.hi, .bool r.o.x.no, .int .i64 r.o.y.lo, .int .i64 r.o.y.hi, .bool r.o.y.no, .int .i64 r.o.z.lo, .int .i64 r.o.z.hi, .bool r.o.z.no]) rfl rfl rfl (st_lda (g := g1) (off := 0) (vs := [.int .i64 r.o.x.lo, .int .i64 r.o.x.hi, .bool r.o.x.no, .int .i64 r.o.y.lo, .int .i64 r.o.y.hi, .bool r.o.y.no, .int .i64 r.o.z.lo, .int .i64 r.o.z.hi, .bool r.o.z.no]) agg57 1 rfl rfl rfl rfl rfl rfl ⟨rfl, rfl⟩) ?_
    refine dw_op (d := (some 14)) (.pointer (some ⟨g0, 1, none⟩)) rfl rfl rfl (st_fa (g := g0) (off := 0) rfl fa86_1 rfl ⟨rfl, rfl⟩) ?_
    refine dw_op (d := (some 15)) (.agg #[.int .i64 s.x.c, .int .i64 s.x.scale]) rfl rfl rfl (st_lda (g := g0) (off := 1) (vs := [.int .i64 s.x.c, .int .i64 s.x.scale]) agg83 2 rfl rfl rfl rfl rfl rfl ⟨rfl, rfl⟩) ?_
    refine dw_op (d := (some 16)) (.agg #[.int .i64 ((decOf s.x).lo), .int .i64 ((decOf s.x).hi), .bool ((decOf s.x).no)]) rfl rfl rfl (st_cf (vs := [.agg #[.int .i64 s.x.c, .int .i64 s.x.scale]]) (r := .agg #[.int .i64 ((decOf s.x).lo), .int .i64 ((decOf s.x).hi), .bool ((decOf s.x).no)]) (c_decOf s.x) Try.func118 rfl (by decide) rfl rfl rfl ⟨rfl, rfl⟩) ?_
    refine dw_op (d := (some 17)) (.pointer (some ⟨g0, 3, none⟩)) rfl rfl rfl (st_fa (g := g0) (off := 0) rfl fa86_2 rfl ⟨rfl, rfl⟩) ?_
    refine dw_op (d := (some 18)) (.agg #[.int .i64 s.y.c, .int .i64 s.y.scale]) rfl rfl rfl (st_lda (g := g0) (off := 3) (vs := [.int .i64 s.y.c, .int .i64 s.y.scale]) agg83 2 rfl rfl rfl rfl rfl rfl ⟨rfl, rfl⟩) ?_
    refine dw_op (d := (some 19)) (.agg #[.int .i64 ((decOf s.y).lo), .int .i64 ((decOf s.y).hi), .bool ((decOf s.y).no)]) rfl rfl rfl (st_cf (vs := [.agg #[.int .i64 s.y.c, .int .i64 s.y.scale]]) (r := .agg #[.int .i64 ((decOf s.y).lo), .int .i64 ((decOf s.y).hi), .bool ((decOf s.y).no)]) (c_decOf s.y) Try.func118 rfl (by decide) rfl rfl rfl ⟨rfl, rfl⟩) ?_
    refine dw_op (d := (some 20)) (.pointer (some ⟨g0, 5, none⟩)) rfl rfl rfl (st_fa (g := g0) (off := 0) rfl fa86_3 rfl ⟨rfl, rfl⟩) ?_
    refine dw_op (d := (some 21)) (.agg #[.int .i64 s.z.c, .int .i64 s.z.scale]) rfl rfl rfl (st_lda (g := g0) (off := 5) (vs := [.int .i64 s.z.c, .int .i64 s.z.scale]) agg83 2 rfl rfl rfl rfl rfl rfl ⟨rfl, rfl⟩) ?_
    refine dw_op (d := (some 22)) (.agg #[.int .i64 ((decOf s.z).lo), .int .i64 ((decOf s.z).hi), .bool ((decOf s.z).no)]) rfl rfl rfl (st_cf (vs := [.agg #[.int .i64 s.z.c, .int .i64 s.z.scale]]) (r := .agg #[.int .i64 ((decOf s.z).lo), .int .i64 ((decOf s.z).hi), .bool ((decOf s.z).no)]) (c_decOf s.z) Try.func118 rfl (by decide) rfl rfl rfl ⟨rfl, rfl⟩) ?_
    refine dw_op (d := (some 23)) (.agg #[.int .i64 (((vecOf (decOf s.x) (decOf s.y) (decOf s.z)).x).lo), .int .i64 (((vecOf (decOf s.x) (decOf s.y) (decOf s.z)).x).hi), .bool (((vecOf (decOf s.x) (decOf s.y) (decOf s.z)).x).no), .int .i64 (((vecOf (decOf s.x) (decOf s.y) (decOf s.z)).y).lo), .int .i64 (((vecOf (decOf s.x) (decOf s.y) (decOf s.z)).y).hi), .bool (((vecOf (decOf s.x) (decOf s.y) (decOf s.z)).y).no), .int .i64 (((vecOf (decOf s.x) (decOf s.y) (decOf s.z)).z).lo), .int .i64 (((vecOf (decOf s.x) (decOf s.y) (decOf s.z)).z).hi), .bool (((vecOf (decOf s.x) (decOf s.y) (decOf s.z)).z).no)]) rfl rfl rfl (st_cf (vs := [.agg #[.int .i64 ((decOf s.x).lo), .int .i64 ((decOf s.x).hi), .bool ((decOf s.x).no)], .agg #[.int .i64 ((decOf s.y).lo), .int .i64 ((decOf s.y).hi), .bool ((decOf s.y).no)], .agg #[.int .i64 ((decOf s.z).lo), .int .i64 ((decOf s.z).hi), .bool ((decOf s.z).no)]]) (r := .agg #[.int .i64 (((vecOf (decOf s.x) (decOf s.y) (decOf s.z)).x).lo), .int .i64 (((vecOf (decOf s.x) (decOf s.y) (decOf s.z)).x).hi), .bool (((vecOf (decOf s.x) (decOf s.y) (decOf s.z)).x).no), .int .i64 (((vecOf (decOf s.x) (decOf s.y) (decOf s.z)).y).lo), .int .i64 (((vecOf (decOf s.x) (decOf s.y) (decOf s.z)).y).hi), .bool (((vecOf (decOf s.x) (decOf s.y) (decOf s.z)).y).no), .int .i64 (((vecOf (decOf s.x) (decOf s.y) (decOf s.z)).z).lo), .int .i64 (((vecOf (decOf s.x) (decOf s.y) (decOf s.z)).z).hi), .bool (((vecOf (decOf s.x) (decOf s.y) (decOf s.z)).z).no)]) (c_vecOf (decOf s.x) (decOf s.y) (decOf s.z)) Try.func44 rfl (by decide) rfl rfl rfl ⟨rfl, rfl⟩) ?_
    refine dw_op (d := (some 24)) (.agg #[.int .i64 (((vecSub r.o (vecOf (decOf s.x) (decOf s.y) (decOf s.z))).x).lo), .int .i64 (((vecSub r.o (vecOf (decOf s.x) (decOf s.y) (decOf s.z))).x).hi), .bool (((vecSub r.o (vecOf (decOf s.x) (decOf s.y) (decOf s.z))).x).no), .int .i64 (((vecSub r.o (vecOf (decOf s.x) (decOf s.y) (decOf s.z))).y).lo), .int .i64 (((vecSub r.o (vecOf (decOf s.x) (decOf s.y) (decOf s.z))).y).hi), .bool (((vecSub r.o (vecOf (decOf s.x) (decOf s.y) (decOf s.z))).y).no), .int .i64 (((vecSub r.o (vecOf (decOf s.x) (decOf s.y) (decOf s.z))).z).lo), .int .i64 (((vecSub r.o (vecOf (decOf s.x) (decOf s.y) (decOf s.z))).z).hi), .bool (((vecSub r.o (vecOf (decOf s.x) (decOf s.y) (decOf s.z))).z).no)]) rfl rfl rfl (st_cf (vs := [.agg #[.int .i64 r.o.x.lo, .int .i64 r.o.x.hi, .bool r.o.x.no, .int .i64 r.o.y.lo, .int .i64 r.o.y.hi, .bool r.o.y.no, .int .i64 r.o.z.lo, .int .i64 r.o.z.hi, .bool r.o.z.no], .agg #[.int .i64 (((vecOf (decOf s.x) (decOf s.y) (decOf s.z)).x).lo), .int .i64 (((vecOf (decOf s.x) (decOf s.y) (decOf s.z)).x).hi), .bool (((vecOf (decOf s.x) (decOf s.y) (decOf s.z)).x).no), .int .i64 (((vecOf (decOf s.x) (decOf s.y) (decOf s.z)).y).lo), .int .i64 (((vecOf (decOf s.x) (decOf s.y) (decOf s.z)).y).hi), .bool (((vecOf (decOf s.x) (decOf s.y) (decOf s.z)).y).no), .int .i64 (((vecOf (decOf s.x) (decOf s.y) (decOf s.z)).z).lo), .int .i64 (((vecOf (decOf s.x) (decOf s.y) (decOf s.z)).z).hi), .bool (((vecOf (decOf s.x) (decOf s.y) (decOf s.z)).z).no)]]) (r := .agg #[.int .i64 (((vecSub r.o (vecOf (decOf s.x) (decOf s.y) (decOf s.z))).x).lo), .int .i64 (((vecSub r.o (vecOf (decOf s.x) (decOf s.y) (decOf s.z))).x).hi), .bool (((vecSub r.o (vecOf (decOf s.x) (decOf s.y) (decOf s.z))).x).no), .int .i64 (((vecSub r.o (vecOf (decOf s.x) (decOf s.y) (decOf s.z))).y).lo), .int .i64 (((vecSub r.o (vecOf (decOf s.x) (decOf s.y) (decOf s.z))).y).hi), .bool (((vecSub r.o (vecOf (decOf s.x) (decOf s.y) (decOf s.z))).y).no), .int .i64 (((vecSub r.o (vecOf (decOf s.x) (decOf s.y) (decOf s.z))).z).lo), .int .i64 (((vecSub r.o (vecOf (decOf s.x) (decOf s.y) (decOf s.z))).z).hi), .bool (((vecSub r.o (vecOf (decOf s.x) (decOf s.y) (decOf s.z))).z).no)]) (c_vecSub r.o (vecOf (decOf s.x) (decOf s.y) (decOf s.z))) Try.func117 rfl (by decide) rfl rfl rfl ⟨rfl, rfl⟩) ?_
    refine dw_nil ?_
    intro g3
    refine ar_op (d := none) rfl rfl (st_sta (g := g3) (off := 0) (us := [.int .i64 (((vecSub r.o (vecOf (decOf s.x) (decOf s.y) (decOf s.z))).x).lo), .int .i64 (((vecSub r.o (vecOf (decOf s.x) (decOf s.y) (decOf s.z))).x).hi), .bool (((vecSub r.o (vecOf (decOf s.x) (decOf s.y) (decOf s.z))).x).no), .int .i64 (((vecSub r.o (vecOf (decOf s.x) (decOf s.y) (decOf s.z))).y).lo), .int .i64 (((vecSub r.o (vecOf (decOf s.x) (decOf s.y) (decOf s.z))).y).hi), .bool (((vecSub r.o (vecOf (decOf s.x) (decOf s.y) (decOf s.z))).y).no), .int .i64 (((vecSub r.o (vecOf (decOf s.x) (decOf s.y) (decOf s.z))).z).lo), .int .i64 (((vecSub r.o (vecOf (decOf s.x) (decOf s.y) (decOf s.z))).z).hi), .bool (((vecSub r.o (vecOf (decOf s.x) (decOf s.y) (decOf s.z))).z).no)]) (cs := [.int .i64 (((vecSub r.o (vecOf (decOf s.x) (decOf s.y) (decOf s.z))).x).lo), .int .i64 (((vecSub r.o (vecOf (decOf s.x) (decOf s.y) (decOf s.z))).x).hi), .bool (((vecSub r.o (vecOf (decOf s.x) (decOf s.y) (decOf s.z))).x).no), .int .i64 (((vecSub r.o (vecOf (decOf s.x) (decOf s.y) (decOf s.z))).y).lo), .int .i64 (((vecSub r.o (vecOf (decOf s.x) (decOf s.y) (decOf s.z))).y).hi), .bool (((vecSub r.o (vecOf (decOf s.x) (decOf s.y) (decOf s.z))).y).no), .int .i64 (((vecSub r.o (vecOf (decOf s.x) (decOf s.y) (decOf s.z))).z).lo), .int .i64 (((vecSub r.o (vecOf (decOf s.x) (decOf s.y) (decOf s.z))).z).hi), .bool (((vecSub r.o (vecOf (decOf s.x) (decOf s.y) (decOf s.z))).z).no)]) agg57 0 rfl rfl rfl rfl rfl rfl rfl rfl rfl ?_)
    refine ar_nil ?_
    refine ac_seq ?_
    refine ac_draw0 (id := 4) [0, 1, 2, 3, 4, 5, 6, 7, 8, 9, 10, 11, 12, 13, 14, 15, 16] [17, 18] _ (by kernel_rfl) follows rfl  ?_
    refine dw_op (d := (some 25)) (.pointer (some ⟨g1, 9, none⟩)) rfl rfl rfl (st_fa (g := g1) (off := 0) rfl fa77_1 rfl ⟨rfl, rfl⟩) ?_
    refine dw_op (d := (some 26)) (.agg #[.int .i64 r.d.x.lo, .int .i64 r.d.x.hi, .bool r.d.x.no, .int .i64 r.d.y.lo, .int .i64 r.d.y.hi, .bool r.d.y.no, .int .i64 r.d.z.lo, .int .i64 r.d.z.hi, .bool r.d.z.no]) rfl rfl rfl (st_lda (g := g1) (off := 9) (vs := [.int .i64 r.d.x.lo, .int .i64 r.d.x.hi, .bool r.d.x.no, .int .i64 r.d.y.lo, .int .i64 r.d.y.hi, .bool r.d.y.no, .int .i64 r.d.z.lo, .int .i64 r.d.z.hi, .bool r.d.z.no]) agg57 2 rfl rfl rfl rfl rfl rfl ⟨rfl, rfl⟩) ?_
    refine dw_op (d := (some 27)) (.agg #[.int .i64 ((vecLen2 r.d).lo), .int .i64 ((vecLen2 r.d).hi), .bool ((vecLen2 r.d).no)]) rfl rfl rfl (st_cf (vs := [.agg #[.int .i64 r.d.x.lo, .int .i64 r.d.x.hi, .bool r.d.x.no, .int .i64 r.d.y.lo, .int .i64 r.d.y.hi, .bool r.d.y.no, .int .i64 r.d.z.lo, .int .i64 r.d.z.hi, .bool r.d.z.no]]) (r := .agg #[.int .i64 ((vecLen2 r.d).lo), .int .i64 ((vecLen2 r.d).hi), .bool ((vecLen2 r.d).no)]) (c_vecLen2 r.d) Try.func52 rfl (by decide) rfl rfl rfl ⟨rfl, rfl⟩) ?_
    refine dw_op (d := (some 28)) (.agg #[.int .i64 (((vecSub r.o (vecOf (decOf s.x) (decOf s.y) (decOf s.z))).x).lo), .int .i64 (((vecSub r.o (vecOf (decOf s.x) (decOf s.y) (decOf s.z))).x).hi), .bool (((vecSub r.o (vecOf (decOf s.x) (decOf s.y) (decOf s.z))).x).no), .int .i64 (((vecSub r.o (vecOf (decOf s.x) (decOf s.y) (decOf s.z))).y).lo), .int .i64 (((vecSub r.o (vecOf (decOf s.x) (decOf s.y) (decOf s.z))).y).hi), .bool (((vecSub r.o (vecOf (decOf s.x) (decOf s.y) (decOf s.z))).y).no), .int .i64 (((vecSub r.o (vecOf (decOf s.x) (decOf s.y) (decOf s.z))).z).lo), .int .i64 (((vecSub r.o (vecOf (decOf s.x) (decOf s.y) (decOf s.z))).z).hi), .bool (((vecSub r.o (vecOf (decOf s.x) (decOf s.y) (decOf s.z))).z).no)]) rfl rfl rfl (st_lda (g := g3) (off := 0) (vs := [.int .i64 (((vecSub r.o (vecOf (decOf s.x) (decOf s.y) (decOf s.z))).x).lo), .int .i64 (((vecSub r.o (vecOf (decOf s.x) (decOf s.y) (decOf s.z))).x).hi), .bool (((vecSub r.o (vecOf (decOf s.x) (decOf s.y) (decOf s.z))).x).no), .int .i64 (((vecSub r.o (vecOf (decOf s.x) (decOf s.y) (decOf s.z))).y).lo), .int .i64 (((vecSub r.o (vecOf (decOf s.x) (decOf s.y) (decOf s.z))).y).hi), .bool (((vecSub r.o (vecOf (decOf s.x) (decOf s.y) (decOf s.z))).y).no), .int .i64 (((vecSub r.o (vecOf (decOf s.x) (decOf s.y) (decOf s.z))).z).lo), .int .i64 (((vecSub r.o (vecOf (decOf s.x) (decOf s.y) (decOf s.z))).z).hi), .bool (((vecSub r.o (vecOf (decOf s.x) (decOf s.y) (decOf s.z))).z).no)]) agg57 0 rfl rfl rfl rfl rfl rfl ⟨rfl, rfl⟩) ?_
    refine dw_op (d := (some 29)) (.pointer (some ⟨g1, 9, none⟩)) rfl rfl rfl (st_fa (g := g1) (off := 0) rfl fa77_1 rfl ⟨rfl, rfl⟩) ?_
    refine dw_op (d := (some 30)) (.agg #[.int .i64 r.d.x.lo, .int .i64 r.d.x.hi, .bool r.d.x.no, .int .i64 r.d.y.lo, .int .i64 r.d.y.hi, .bool r.d.y.no, .int .i64 r.d.z.lo, .int .i64 r.d.z.hi, .bool r.d.z.no]) rfl rfl rfl (st_lda (g := g1) (off := 9) (vs := [.int .i64 r.d.x.lo, .int .i64 r.d.x.hi, .bool r.d.x.no, .int .i64 r.d.y.lo, .int .i64 r.d.y.hi, .bool r.d.y.no, .int .i64 r.d.z.lo, .int .i64 r.d.z.hi, .bool r.d.z.no]) agg57 2 rfl rfl rfl rfl rfl rfl ⟨rfl, rfl⟩) ?_
    refine dw_op (d := (some 31)) (.agg #[.int .i64 ((sceneMeet_e0 s r).lo), .int .i64 ((sceneMeet_e0 s r).hi), .bool ((sceneMeet_e0 s r).no)]) rfl rfl rfl (st_cf (vs := [.agg #[.int .i64 (((vecSub r.o (vecOf (decOf s.x) (decOf s.y) (decOf s.z))).x).lo), .int .i64 (((vecSub r.o (vecOf (decOf s.x) (decOf s.y) (decOf s.z))).x).hi), .bool (((vecSub r.o (vecOf (decOf s.x) (decOf s.y) (decOf s.z))).x).no), .int .i64 (((vecSub r.o (vecOf (decOf s.x) (decOf s.y) (decOf s.z))).y).lo), .int .i64 (((vecSub r.o (vecOf (decOf s.x) (decOf s.y) (decOf s.z))).y).hi), .bool (((vecSub r.o (vecOf (decOf s.x) (decOf s.y) (decOf s.z))).y).no), .int .i64 (((vecSub r.o (vecOf (decOf s.x) (decOf s.y) (decOf s.z))).z).lo), .int .i64 (((vecSub r.o (vecOf (decOf s.x) (decOf s.y) (decOf s.z))).z).hi), .bool (((vecSub r.o (vecOf (decOf s.x) (decOf s.y) (decOf s.z))).z).no)], .agg #[.int .i64 r.d.x.lo, .int .i64 r.d.x.hi, .bool r.d.x.no, .int .i64 r.d.y.lo, .int .i64 r.d.y.hi, .bool r.d.y.no, .int .i64 r.d.z.lo, .int .i64 r.d.z.hi, .bool r.d.z.no]]) (r := .agg #[.int .i64 ((sceneMeet_e0 s r).lo), .int .i64 ((sceneMeet_e0 s r).hi), .bool ((sceneMeet_e0 s r).no)]) (c_vecDot (vecSub r.o (vecOf (decOf s.x) (decOf s.y) (decOf s.z))) r.d) Try.func120 rfl (by decide) rfl rfl rfl ⟨rfl, rfl⟩) ?_
    refine dw_op (d := (some 32)) (.agg #[.int .i64 (((vecSub r.o (vecOf (decOf s.x) (decOf s.y) (decOf s.z))).x).lo), .int .i64 (((vecSub r.o (vecOf (decOf s.x) (decOf s.y) (decOf s.z))).x).hi), .bool (((vecSub r.o (vecOf (decOf s.x) (decOf s.y) (decOf s.z))).x).no), .int .i64 (((vecSub r.o (vecOf (decOf s.x) (decOf s.y) (decOf s.z))).y).lo), .int .i64 (((vecSub r.o (vecOf (decOf s.x) (decOf s.y) (decOf s.z))).y).hi), .bool (((vecSub r.o (vecOf (decOf s.x) (decOf s.y) (decOf s.z))).y).no), .int .i64 (((vecSub r.o (vecOf (decOf s.x) (decOf s.y) (decOf s.z))).z).lo), .int .i64 (((vecSub r.o (vecOf (decOf s.x) (decOf s.y) (decOf s.z))).z).hi), .bool (((vecSub r.o (vecOf (decOf s.x) (decOf s.y) (decOf s.z))).z).no)]) rfl rfl rfl (st_lda (g := g3) (off := 0) (vs := [.int .i64 (((vecSub r.o (vecOf (decOf s.x) (decOf s.y) (decOf s.z))).x).lo), .int .i64 (((vecSub r.o (vecOf (decOf s.x) (decOf s.y) (decOf s.z))).x).hi), .bool (((vecSub r.o (vecOf (decOf s.x) (decOf s.y) (decOf s.z))).x).no), .int .i64 (((vecSub r.o (vecOf (decOf s.x) (decOf s.y) (decOf s.z))).y).lo), .int .i64 (((vecSub r.o (vecOf (decOf s.x) (decOf s.y) (decOf s.z))).y).hi), .bool (((vecSub r.o (vecOf (decOf s.x) (decOf s.y) (decOf s.z))).y).no), .int .i64 (((vecSub r.o (vecOf (decOf s.x) (decOf s.y) (decOf s.z))).z).lo), .int .i64 (((vecSub r.o (vecOf (decOf s.x) (decOf s.y) (decOf s.z))).z).hi), .bool (((vecSub r.o (vecOf (decOf s.x) (decOf s.y) (decOf s.z))).z).no)]) agg57 0 rfl rfl rfl rfl rfl rfl ⟨rfl, rfl⟩) ?_
    refine dw_op (d := (some 33)) (.agg #[.int .i64 ((sceneMeet_e1 s r).lo), .int .i64 ((sceneMeet_e1 s r).hi), .bool ((sceneMeet_e1 s r).no)]) rfl rfl rfl (st_cf (vs := [.agg #[.int .i64 (((vecSub r.o (vecOf (decOf s.x) (decOf s.y) (decOf s.z))).x).lo), .int .i64 (((vecSub r.o (vecOf (decOf s.x) (decOf s.y) (decOf s.z))).x).hi), .bool (((vecSub r.o (vecOf (decOf s.x) (decOf s.y) (decOf s.z))).x).no), .int .i64 (((vecSub r.o (vecOf (decOf s.x) (decOf s.y) (decOf s.z))).y).lo), .int .i64 (((vecSub r.o (vecOf (decOf s.x) (decOf s.y) (decOf s.z))).y).hi), .bool (((vecSub r.o (vecOf (decOf s.x) (decOf s.y) (decOf s.z))).y).no), .int .i64 (((vecSub r.o (vecOf (decOf s.x) (decOf s.y) (decOf s.z))).z).lo), .int .i64 (((vecSub r.o (vecOf (decOf s.x) (decOf s.y) (decOf s.z))).z).hi), .bool (((vecSub r.o (vecOf (decOf s.x) (decOf s.y) (decOf s.z))).z).no)]]) (r := .agg #[.int .i64 ((sceneMeet_e1 s r).lo), .int .i64 ((sceneMeet_e1 s r).hi), .bool ((sceneMeet_e1 s r).no)]) (c_vecLen2 (vecSub r.o (vecOf (decOf s.x) (decOf s.y) (decOf s.z)))) Try.func52 rfl (by decide) rfl rfl rfl ⟨rfl, rfl⟩) ?_
    refine dw_op (d := (some 34)) (.pointer (some ⟨g0, 7, none⟩)) rfl rfl rfl (st_fa (g := g0) (off := 0) rfl fa86_4 rfl ⟨rfl, rfl⟩) ?_
    refine dw_op (d := (some 35)) (.agg #[.int .i64 s.r.c, .int .i64 s.r.scale]) rfl rfl rfl (st_lda (g := g0) (off := 7) (vs := [.int .i64 s.r.c, .int .i64 s.r.scale]) agg83 3 rfl rfl rfl rfl rfl rfl ⟨rfl, rfl⟩) ?_
    refine dw_op (d := (some 36)) (.agg #[.int .i64 ((decOf s.r).lo), .int .i64 ((decOf s.r).hi), .bool ((decOf s.r).no)]) rfl rfl rfl (st_cf (vs := [.agg #[.int .i64 s.r.c, .int .i64 s.r.scale]]) (r := .agg #[.int .i64 ((decOf s.r).lo), .int .i64 ((decOf s.r).hi), .bool ((decOf s.r).no)]) (c_decOf s.r) Try.func118 rfl (by decide) rfl rfl rfl ⟨rfl, rfl⟩) ?_
    refine dw_op (d := (some 37)) (.agg #[.int .i64 ((ivSqr (decOf s.r)).lo), .int .i64 ((ivSqr (decOf s.r)).hi), .bool ((ivSqr (decOf s.r)).no)]) rfl rfl rfl (st_cf (vs := [.agg #[.int .i64 ((decOf s.r).lo), .int .i64 ((decOf s.r).hi), .bool ((decOf s.r).no)]]) (r := .agg #[.int .i64 ((ivSqr (decOf s.r)).lo), .int .i64 ((ivSqr (decOf s.r)).hi), .bool ((ivSqr (decOf s.r)).no)]) (c_ivSqr (decOf s.r)) Try.func94 rfl (by decide) rfl rfl rfl ⟨rfl, rfl⟩) ?_
    refine dw_op (d := (some 38)) (.agg #[.int .i64 ((ivSub (sceneMeet_e1 s r) (ivSqr (decOf s.r))).lo), .int .i64 ((ivSub (sceneMeet_e1 s r) (ivSqr (decOf s.r))).hi), .bool ((ivSub (sceneMeet_e1 s r) (ivSqr (decOf s.r))).no)]) rfl rfl rfl (st_cf (vs := [.agg #[.int .i64 ((sceneMeet_e1 s r).lo), .int .i64 ((sceneMeet_e1 s r).hi), .bool ((sceneMeet_e1 s r).no)], .agg #[.int .i64 ((ivSqr (decOf s.r)).lo), .int .i64 ((ivSqr (decOf s.r)).hi), .bool ((ivSqr (decOf s.r)).no)]]) (r := .agg #[.int .i64 ((ivSub (sceneMeet_e1 s r) (ivSqr (decOf s.r))).lo), .int .i64 ((ivSub (sceneMeet_e1 s r) (ivSqr (decOf s.r))).hi), .bool ((ivSub (sceneMeet_e1 s r) (ivSqr (decOf s.r))).no)]) (c_ivSub (sceneMeet_e1 s r) (ivSqr (decOf s.r))) Try.func30 rfl (by decide) rfl rfl rfl ⟨rfl, rfl⟩) ?_
    refine dw_op (d := (some 39)) (.tuple #[.agg #[.int .i64 (((sceneMeet_e2 s r).1).lo), .int .i64 (((sceneMeet_e2 s r).1).hi), .bool (((sceneMeet_e2 s r).1).no)], .int .i64 ((sceneMeet_e2 s r).2)]) rfl rfl rfl (st_cf (vs := [.agg #[.int .i64 ((vecLen2 r.d).lo), .int .i64 ((vecLen2 r.d).hi), .bool ((vecLen2 r.d).no)], .agg #[.int .i64 ((sceneMeet_e0 s r).lo), .int .i64 ((sceneMeet_e0 s r).hi), .bool ((sceneMeet_e0 s r).no)], .agg #[.int .i64 ((ivSub (sceneMeet_e1 s r) (ivSqr (decOf s.r))).lo), .int .i64 ((ivSub (sceneMeet_e1 s r) (ivSqr (decOf s.r))).hi), .bool ((ivSub (sceneMeet_e1 s r) (ivSqr (decOf s.r))).no)]]) (r := .tuple #[.agg #[.int .i64 (((sceneMeet_e2 s r).1).lo), .int .i64 (((sceneMeet_e2 s r).1).hi), .bool (((sceneMeet_e2 s r).1).no)], .int .i64 ((sceneMeet_e2 s r).2)]) (c_quadNear (vecLen2 r.d) (sceneMeet_e0 s r) (ivSub (sceneMeet_e1 s r) (ivSqr (decOf s.r)))) Try.func119 rfl (by decide) rfl rfl rfl ⟨rfl, rfl⟩) ?_
    refine dw_op (d := (some 40)) (.agg #[.int .i64 (((sceneMeet_e2 s r).1).lo), .int .i64 (((sceneMeet_e2 s r).1).hi), .bool (((sceneMeet_e2 s r).1).no)]) rfl rfl rfl (st_ex (vs := [.agg #[.int .i64 (((sceneMeet_e2 s r).1).lo), .int .i64 (((sceneMeet_e2 s r).1).hi), .bool (((sceneMeet_e2 s r).1).no)], .int .i64 ((sceneMeet_e2 s r).2)]) (v := .agg #[.int .i64 (((sceneMeet_e2 s r).1).lo), .int .i64 (((sceneMeet_e2 s r).1).hi), .bool (((sceneMeet_e2 s r).1).no)]) rfl rfl rfl ⟨rfl, rfl⟩) ?_
    refine dw_op (d := (some 41)) (.int .i64 ((sceneMeet_e2 s r).2)) rfl rfl rfl (st_ex (vs := [.agg #[.int .i64 (((sceneMeet_e2 s r).1).lo), .int .i64 (((sceneMeet_e2 s r).1).hi), .bool (((sceneMeet_e2 s r).1).no)], .int .i64 ((sceneMeet_e2 s r).2)]) (v := .int .i64 ((sceneMeet_e2 s r).2)) rfl rfl rfl ⟨rfl, rfl⟩) ?_
    refine dw_nil ?_
    refine ar_op (d := none) rfl rfl (st_sta (g := g2) (off := 0) (us := [.int .i64 (((sceneMeet_e2 s r).1).lo), .int .i64 (((sceneMeet_e2 s r).1).hi), .bool (((sceneMeet_e2 s r).1).no)]) (cs := [.int .i64 (((sceneMeet_e2 s r).1).lo), .int .i64 (((sceneMeet_e2 s r).1).hi), .bool (((sceneMeet_e2 s r).1).no)]) agg26 1 rfl rfl rfl rfl rfl rfl rfl rfl rfl ?_)
    refine ao 5 rfl rfl (st_assign (v := .int .i64 ((sceneMeet_e2 s r).2)) rfl rfl ?_)
    refine ar_nil ?_
    refine ac_ret ?_
    exact fin_eq (v := .tuple #[.agg #[.int .i64 (((sceneMeet_e2 s r).1).lo), .int .i64 (((sceneMeet_e2 s r).1).hi), .bool (((sceneMeet_e2 s r).1).no)], .int .i64 ((sceneMeet_e2 s r).2)]) (by show _ = (fun (r : Iv × Int) => (.tuple #[.agg #[.int .i64 r.1.lo, .int .i64 r.1.hi, .bool r.1.no], .int .i64 r.2] : Value)) (sceneMeet s r); rw [sceneMeet, h1] <;> rfl) (fin_ret (res_ct (vs := [.int .i64 (((sceneMeet_e2 s r).1).lo), .int .i64 (((sceneMeet_e2 s r).1).hi), .bool (((sceneMeet_e2 s r).1).no)]) agg26 1 rfl rfl rfl rfl rfl rfl rfl))
  · refine ac_else' (b := s.kind == 1) h1 rfl ?_
    refine ac_seq ?_
    refine ac_region_lit ?_
    refine ao 43 rfl rfl (st_bi (u := .int .i64 s.kind) (v := .int .i64 2) (r := .bool (s.kind == 2)) rfl rfl rfl (bi_eql rfl) ?_)
    refine ao 42 rfl rfl (st_assign (v := .bool (s.kind == 2)) rfl rfl ?_)
    refine ar_nil ?_
    refine bool_split (s.kind == 2) (fun h2 => ?_) (fun h2 => ?_)
    · refine ac_then' (b := s.kind == 2) h2 rfl ?_
      refine ac_seq ?_
      refine ac_draw1 (id := 6) [0, 1, 2, 3, 4, 5, 6, 7, 8, 9, 10] [12] 11 7 26 _ _ (by kernel_rfl) follows rfl zero26 ⟨_, rfl, rfl, rfl, rfl⟩ ?_
      refine dw_op (d := (some 44)) (.pointer (some ⟨g0, 5, none⟩)) rfl rfl rfl (st_fa (g := g0) (off := 0) rfl fa86_3 rfl ⟨rfl, rfl⟩) ?_
      refine dw_op (d := (some 45)) (.agg #[.int .i64 s.z.c, .int .i64 s.z.scale]) rfl rfl rfl (st_lda (g := g0) (off := 5) (vs := [.int .i64 s.z.c, .int .i64 s.z.scale]) agg83 2 rfl rfl rfl rfl rfl rfl ⟨rfl, rfl⟩) ?_
      refine dw_op (d := (some 46)) (.agg #[.int .i64 ((decOf s.z).lo), .int .i64 ((decOf s.z).hi), .bool ((decOf s.z).no)]) rfl rfl rfl (st_cf (vs := [.agg #[.int .i64 s.z.c, .int .i64 s.z.scale]]) (r := .agg #[.int .i64 ((decOf s.z).lo), .int .i64 ((decOf s.z).hi), .bool ((decOf s.z).no)]) (c_decOf s.z) Try.func118 rfl (by decide) rfl rfl rfl ⟨rfl, rfl⟩) ?_
      refine dw_op (d := (some 47)) (.pointer (some ⟨g1, 0, none⟩)) rfl rfl rfl (st_fa (g := g1) (off := 0) rfl fa77_0 rfl ⟨rfl, rfl⟩) ?_
      refine dw_op (d := (some 48)) (.pointer (some ⟨g1, 6, none⟩)) rfl rfl rfl (st_fa (g := g1) (off := 0) rfl fa57_2 rfl ⟨rfl, rfl⟩) ?_
      refine dw_op (d := (some 49)) (.agg #[.int .i64 r.o.z.lo, .int .i64 r.o.z.hi, .bool r.o.z.no]) rfl rfl rfl (st_lda (g := g1) (off := 6) (vs := [.int .i64 r.o.z.lo, .int .i64 r.o.z.hi, .bool r.o.z.no]) agg26 1 rfl rfl rfl rfl rfl rfl ⟨rfl, rfl⟩) ?_
      refine dw_op (d := (some 50)) (.agg #[.int .i64 ((ivSub (decOf s.z) r.o.z).lo), .int .i64 ((ivSub (decOf s.z) r.o.z).hi), .bool ((ivSub (decOf s.z) r.o.z).no)]) rfl rfl rfl (st_cf (vs := [.agg #[.int .i64 ((decOf s.z).lo), .int .i64 ((decOf s.z).hi), .bool ((decOf s.z).no)], .agg #[.int .i64 r.o.z.lo, .int .i64 r.o.z.hi, .bool r.o.z.no]]) (r := .agg #[.int .i64 ((ivSub (decOf s.z) r.o.z).lo), .int .i64 ((ivSub (decOf s.z) r.o.z).hi), .bool ((ivSub (decOf s.z) r.o.z).no)]) (c_ivSub (decOf s.z) r.o.z) Try.func30 rfl (by decide) rfl rfl rfl ⟨rfl, rfl⟩) ?_
      refine dw_op (d := (some 51)) (.pointer (some ⟨g1, 9, none⟩)) rfl rfl rfl (st_fa (g := g1) (off := 0) rfl fa77_1 rfl ⟨rfl, rfl⟩) ?_
      refine dw_op (d := (some 52)) (.pointer (some ⟨g1, 15, none⟩)) rfl rfl rfl (st_fa (g := g1) (off := 9) rfl fa57_2 rfl ⟨rfl, rfl⟩) ?_
      refine dw_op (d := (some 53)) (.agg #[.int .i64 r.d.z.lo, .int .i64 r.d.z.hi, .bool r.d.z.no]) rfl rfl rfl (st_lda (g := g1) (off := 15) (vs := [.int .i64 r.d.z.lo, .int .i64 r.d.z.hi, .bool r.d.z.no]) agg26 1 rfl rfl rfl rfl rfl rfl ⟨rfl, rfl⟩) ?_
      refine dw_op (d := (some 54)) (.agg #[.int .i64 ((ivDiv (ivSub (decOf s.z) r.o.z) r.d.z).lo), .int .i64 ((ivDiv (ivSub (decOf s.z) r.o.z) r.d.z).hi), .bool ((ivDiv (ivSub (decOf s.z) r.o.z) r.d.z).no)]) rfl rfl rfl (st_cf (vs := [.agg #[.int .i64 ((ivSub (decOf s.z) r.o.z).lo), .int .i64 ((ivSub (decOf s.z) r.o.z).hi), .bool ((ivSub (decOf s.z) r.o.z).no)], .agg #[.int .i64 r.d.z.lo, .int .i64 r.d.z.hi, .bool r.d.z.no]]) (r := .agg #[.int .i64 ((ivDiv (ivSub (decOf s.z) r.o.z) r.d.z).lo), .int .i64 ((ivDiv (ivSub (decOf s.z) r.o.z) r.d.z).hi), .bool ((ivDiv (ivSub (decOf s.z) r.o.z) r.d.z).no)]) (c_ivDiv (ivSub (decOf s.z) r.o.z) r.d.z) Try.func33 rfl (by decide) rfl rfl rfl ⟨rfl, rfl⟩) ?_
      refine dw_nil ?_
      intro g3
      refine ar_op (d := none) rfl rfl (st_sta (g := g3) (off := 0) (us := [.int .i64 ((ivDiv (ivSub (decOf s.z) r.o.z) r.d.z).lo), .int .i64 ((ivDiv (ivSub (decOf s.z) r.o.z) r.d.z).hi), .bool ((ivDiv (ivSub (decOf s.z) r.o.z) r.d.z).no)]) (cs := [.int .i64 ((ivDiv (ivSub (decOf s.z) r.o.z) r.d.z).lo), .int .i64 ((ivDiv (ivSub (decOf s.z) r.o.z) r.d.z).hi), .bool ((ivDiv (ivSub (decOf s.z) r.o.z) r.d.z).no)]) agg26 0 rfl rfl rfl rfl rfl rfl rfl rfl rfl ?_)
      refine ar_nil ?_
      refine ac_seq ?_
      refine ac_region_lit ?_
      refine ao 55 rfl rfl (st_fa (g := g3) (off := 0) rfl fa26_2 rfl ?_)
      refine ao 56 rfl rfl (st_ldc (g := g3) (off := 2) (v := .bool ((ivDiv (ivSub (decOf s.z) r.o.z) r.d.z).no)) cell4 0 rfl rfl rfl rfl rfl ?_)
      refine ao 57 rfl rfl (st_un (u := .bool ((ivDiv (ivSub (decOf s.z) r.o.z) r.d.z).no)) (v := .bool (!((ivDiv (ivSub (decOf s.z) r.o.z) r.d.z).no))) rfl rfl (un_not rfl) ?_)
      refine ar_nil ?_
      refine bool_split ((ivDiv (ivSub (decOf s.z) r.o.z) r.d.z).no) (fun h3 => ?_) (fun h3 => ?_)
      · refine ac_else' (b := !((ivDiv (ivSub (decOf s.z) r.o.z) r.d.z).no)) (by rw [h3]; rfl) rfl ?_
        refine ac_skip ?_
        refine ac_seq ?_
        refine ac_region_lit ?_
        refine ao 59 rfl rfl (st_cf (vs := []) (r := .agg #[.int .i64 ivNone.lo, .int .i64 ivNone.hi, .bool ivNone.no]) c_ivNone Try.func28 rfl (by decide) rfl rfl rfl ?_)
        refine ar_op (d := none) rfl rfl (st_sta (g := g2) (off := 0) (us := [.int .i64 ivNone.lo, .int .i64 ivNone.hi, .bool ivNone.no]) (cs := [.int .i64 ivNone.lo, .int .i64 ivNone.hi, .bool ivNone.no]) agg26 1 rfl rfl rfl rfl rfl rfl rfl rfl rfl ?_)
        refine ao 5 rfl rfl (st_assign (v := .int .i64 0) rfl rfl ?_)
        refine ar_nil ?_
        refine ac_ret ?_
        exact fin_eq (v := .tuple #[.agg #[.int .i64 ivNone.lo, .int .i64 ivNone.hi, .bool ivNone.no], .int .i64 0]) (by show _ = (fun (r : Iv × Int) => (.tuple #[.agg #[.int .i64 r.1.lo, .int .i64 r.1.hi, .bool r.1.no], .int .i64 r.2] : Value)) (sceneMeet s r); rw [sceneMeet, h3, h2, h1] <;> rfl) (fin_ret (res_ct (vs := [.int .i64 ivNone.lo, .int .i64 ivNone.hi, .bool ivNone.no]) agg26 1 rfl rfl rfl rfl rfl rfl rfl))
      · refine ac_then' (b := !((ivDiv (ivSub (decOf s.z) r.o.z) r.d.z).no)) (by rw [h3]; rfl) rfl ?_
        refine ac_seq ?_
        refine ac_region_lit ?_
        refine ao 58 rfl rfl (st_lda (g := g3) (off := 0) (vs := [.int .i64 ((ivDiv (ivSub (decOf s.z) r.o.z) r.d.z).lo), .int .i64 ((ivDiv (ivSub (decOf s.z) r.o.z) r.d.z).hi), .bool ((ivDiv (ivSub (decOf s.z) r.o.z) r.d.z).no)]) agg26 0 rfl rfl rfl rfl rfl rfl ?_)
        refine ar_op (d := none) rfl rfl (st_sta (g := g2) (off := 0) (us := [.int .i64 ((ivDiv (ivSub (decOf s.z) r.o.z) r.d.z).lo), .int .i64 ((ivDiv (ivSub (decOf s.z) r.o.z) r.d.z).hi), .bool ((ivDiv (ivSub (decOf s.z) r.o.z) r.d.z).no)]) (cs := [.int .i64 ((ivDiv (ivSub (decOf s.z) r.o.z) r.d.z).lo), .int .i64 ((ivDiv (ivSub (decOf s.z) r.o.z) r.d.z).hi), .bool ((ivDiv (ivSub (decOf s.z) r.o.z) r.d.z).no)]) agg26 1 rfl rfl rfl rfl rfl rfl rfl rfl rfl ?_)
        refine ao 5 rfl rfl (st_assign (v := .int .i64 1) rfl rfl ?_)
        refine ar_nil ?_
        refine ac_ret ?_
        exact fin_eq (v := .tuple #[.agg #[.int .i64 ((ivDiv (ivSub (decOf s.z) r.o.z) r.d.z).lo), .int .i64 ((ivDiv (ivSub (decOf s.z) r.o.z) r.d.z).hi), .bool ((ivDiv (ivSub (decOf s.z) r.o.z) r.d.z).no)], .int .i64 1]) (by show _ = (fun (r : Iv × Int) => (.tuple #[.agg #[.int .i64 r.1.lo, .int .i64 r.1.hi, .bool r.1.no], .int .i64 r.2] : Value)) (sceneMeet s r); rw [sceneMeet, h3, h2, h1] <;> rfl) (fin_ret (res_ct (vs := [.int .i64 ((ivDiv (ivSub (decOf s.z) r.o.z) r.d.z).lo), .int .i64 ((ivDiv (ivSub (decOf s.z) r.o.z) r.d.z).hi), .bool ((ivDiv (ivSub (decOf s.z) r.o.z) r.d.z).no)]) agg26 1 rfl rfl rfl rfl rfl rfl rfl))
    · refine ac_else' (b := s.kind == 2) h2 rfl ?_
      refine ac_skip ?_
      refine ac_seq ?_
      refine ac_region_lit ?_
      refine ao 59 rfl rfl (st_cf (vs := []) (r := .agg #[.int .i64 ivNone.lo, .int .i64 ivNone.hi, .bool ivNone.no]) c_ivNone Try.func28 rfl (by decide) rfl rfl rfl ?_)
      refine ar_op (d := none) rfl rfl (st_sta (g := g2) (off := 0) (us := [.int .i64 ivNone.lo, .int .i64 ivNone.hi, .bool ivNone.no]) (cs := [.int .i64 ivNone.lo, .int .i64 ivNone.hi, .bool ivNone.no]) agg26 0 rfl rfl rfl rfl rfl rfl rfl rfl rfl ?_)
      refine ao 5 rfl rfl (st_assign (v := .int .i64 0) rfl rfl ?_)
      refine ar_nil ?_
      refine ac_ret ?_
      exact fin_eq (v := .tuple #[.agg #[.int .i64 ivNone.lo, .int .i64 ivNone.hi, .bool ivNone.no], .int .i64 0]) (by show _ = (fun (r : Iv × Int) => (.tuple #[.agg #[.int .i64 r.1.lo, .int .i64 r.1.hi, .bool r.1.no], .int .i64 r.2] : Value)) (sceneMeet s r); rw [sceneMeet, h2, h1] <;> rfl) (fin_ret (res_ct (vs := [.int .i64 ivNone.lo, .int .i64 ivNone.hi, .bool ivNone.no]) agg26 0 rfl rfl rfl rfl rfl rfl rfl))
def sceneHit (s : Shape) (r : Ray) : Iv × Int := (bif ((sceneMeet s r).2) != 1 then (ivNone, (sceneMeet s r).2) else (bif decide ((((sceneMeet s r).1).hi) ≤ 0) then (ivNone, 2) else (bif decide ((((sceneMeet s r).1).lo) ≤ 0) then (ivNone, 0) else (((sceneMeet s r).1), 1))))
set_option maxRecDepth 100000 in
theorem c_sceneHit (s : Shape) (r : Ray) : Gets Try.prog 58 #[.agg #[.int .i64 s.kind, .int .i64 s.x.c, .int .i64 s.x.scale, .int .i64 s.y.c, .int .i64 s.y.scale, .int .i64 s.z.c, .int .i64 s.z.scale, .int .i64 s.r.c, .int .i64 s.r.scale, .int .i64 s.glow.a0, .int .i64 s.glow.a1, .int .i64 s.glow.a2], .agg #[.int .i64 r.o.x.lo, .int .i64 r.o.x.hi, .bool r.o.x.no, .int .i64 r.o.y.lo, .int .i64 r.o.y.hi, .bool r.o.y.no, .int .i64 r.o.z.lo, .int .i64 r.o.z.hi, .bool r.o.z.no, .int .i64 r.d.x.lo, .int .i64 r.d.x.hi, .bool r.d.x.no, .int .i64 r.d.y.lo, .int .i64 r.d.y.hi, .bool r.d.y.no, .int .i64 r.d.z.lo, .int .i64 r.d.z.hi, .bool r.d.z.no]] ((fun (r : Iv × Int) => (.tuple #[.agg #[.int .i64 r.1.lo, .int .i64 r.1.hi, .bool r.1.no], .int .i64 r.2] : Value)) (sceneHit s r)) := by
  refine gets_fin Try.func58 rfl rfl rfl ?_
  refine ac_seq ?_
  refine ac_region_lit ?_
  refine ao 2 rfl rfl (st_box (v := .agg #[.int .i64 s.kind, .int .i64 s.x.c, .int .i64 s.x.scale, .int .i64 s.y.c, .int .i64 s.y.scale, .int .i64 s.z.c, .int .i64 s.z.scale, .int .i64 s.r.c, .int .i64 s.r.scale, .int .i64 s.glow.a0, .int .i64 s.glow.a1, .int .i64 s.glow.a2]) (cs := [.int .i64 s.kind, .int .i64 s.x.c, .int .i64 s.x.scale, .int .i64 s.y.c, .int .i64 s.y.scale, .int .i64 s.z.c, .int .i64 s.z.scale, .int .i64 s.r.c, .int .i64 s.r.scale, .int .i64 s.glow.a0, .int .i64 s.glow.a1, .int .i64 s.glow.a2]) rfl rfl rfl fun g0 => ?_)
  refine ao 3 rfl rfl (st_box (v := .agg #[.int .i64 r.o.x.lo, .int .i64 r.o.x.hi, .bool r.o.x.no, .int .i64 r.o.y.lo, .int .i64 r.o.y.hi, .bool r.o.y.no, .int .i64 r.o.z.lo, .int .i64 r.o.z.hi, .bool r.o.z.no, .int .i64 r.d.x.lo, .int .i64 r.d.x.hi, .bool r.d.x.no, .int .i64 r.d.y.lo, .int .i64 r.d.y.hi, .bool r.d.y.no, .int .i64 r.d.z.lo, .int .i64 r.d.z.hi, .bool r.d.z.no]) (cs := [.int .i64 r.o.x.lo, .int .i64 r.o.x.hi, .bool r.o.x.no, .int .i64 r.o.y.lo, .int .i64 r.o.y.hi, .bool r.o.y.no, .int .i64 r.o.z.lo, .int .i64 r.o.z.hi, .bool r.o.z.no, .int .i64 r.d.x.lo, .int .i64 r.d.x.hi, .bool r.d.x.no, .int .i64 r.d.y.lo, .int .i64 r.d.y.hi, .bool r.d.y.no, .int .i64 r.d.z.lo, .int .i64 r.d.z.hi, .bool r.d.z.no]) rfl rfl rfl fun g1 => ?_)
  refine ao 4 rfl rfl (st_new zero26 rfl fun g2 => ?_)
  refine ao 5 rfl rfl (st_assign (v := .int .i64 0) rfl rfl ?_)
  refine ar_nil ?_
  refine ac_seq ?_
  refine ac_region_lit ?_
  refine ao 9 rfl rfl (st_lda (g := g0) (off := 0) (vs := [.int .i64 s.kind, .int .i64 s.x.c, .int .i64 s.x.scale, .int .i64 s.y.c, .int .i64 s.y.scale, .int .i64 s.z.c, .int .i64 s.z.scale, .int .i64 s.r.c, .int .i64 s.r.scale, .int .i64 s.glow.a0, .int .i64 s.glow.a1, .int .i64 s.glow.a2]) agg86 2 rfl rfl rfl rfl rfl rfl ?_)
  refine ao 10 rfl rfl (st_lda (g := g1) (off := 0) (vs := [.int .i64 r.o.x.lo, .int .i64 r.o.x.hi, .bool r.o.x.no, .int .i64 r.o.y.lo, .int .i64 r.o.y.hi, .bool r.o.y.no, .int .i64 r.o.z.lo, .int .i64 r.o.z.hi, .bool r.o.z.no, .int .i64 r.d.x.lo, .int .i64 r.d.x.hi, .bool r.d.x.no, .int .i64 r.d.y.lo, .int .i64 r.d.y.hi, .bool r.d.y.no, .int .i64 r.d.z.lo, .int .i64 r.d.z.hi, .bool r.d.z.no]) agg77 1 rfl rfl rfl rfl rfl rfl ?_)
  refine ao 11 rfl rfl (st_cf (vs := [.agg #[.int .i64 s.kind, .int .i64 s.x.c, .int .i64 s.x.scale, .int .i64 s.y.c, .int .i64 s.y.scale, .int .i64 s.z.c, .int .i64 s.z.scale, .int .i64 s.r.c, .int .i64 s.r.scale, .int .i64 s.glow.a0, .int .i64 s.glow.a1, .int .i64 s.glow.a2], .agg #[.int .i64 r.o.x.lo, .int .i64 r.o.x.hi, .bool r.o.x.no, .int .i64 r.o.y.lo, .int .i64 r.o.y.hi, .bool r.o.y.no, .int .i64 r.o.z.lo, .int .i64 r.o.z.hi, .bool r.o.z.no, .int .i64 r.d.x.lo, .int .i64 r.d.x.hi, .bool r.d.x.no, .int .i64 r.d.y.lo, .int .i64 r.d.y.hi, .bool r.d.y.no, .int .i64 r.d.z.lo, .int .i64 r.d.z.hi, .bool r.d.z.no]]) (r := .tuple #[.agg #[.int .i64 (((sceneMeet s r).1).lo), .int .i64 (((sceneMeet s r).1).hi), .bool (((sceneMeet s r).1).no)], .int .i64 ((sceneMeet s r).2)]) (c_sceneMeet s r) Try.func98 rfl (by decide) rfl rfl rfl ?_)
  refine ao 8 rfl rfl (st_move (v := .tuple #[.agg #[.int .i64 (((sceneMeet s r).1).lo), .int .i64 (((sceneMeet s r).1).hi), .bool (((sceneMeet s r).1).no)], .int .i64 ((sceneMeet s r).2)]) rfl rfl ?_)
  refine ao 12 rfl rfl (st_ex (vs := [.agg #[.int .i64 (((sceneMeet s r).1).lo), .int .i64 (((sceneMeet s r).1).hi), .bool (((sceneMeet s r).1).no)], .int .i64 ((sceneMeet s r).2)]) (v := .agg #[.int .i64 (((sceneMeet s r).1).lo), .int .i64 (((sceneMeet s r).1).hi), .bool (((sceneMeet s r).1).no)]) rfl rfl rfl ?_)
  refine ao 13 rfl rfl (st_ex (vs := [.agg #[.int .i64 (((sceneMeet s r).1).lo), .int .i64 (((sceneMeet s r).1).hi), .bool (((sceneMeet s r).1).no)], .int .i64 ((sceneMeet s r).2)]) (v := .int .i64 ((sceneMeet s r).2)) rfl rfl rfl ?_)
  refine ao 6 rfl rfl (st_new zero26 rfl fun g3 => ?_)
  refine ar_op (d := none) rfl rfl (st_sta (g := g3) (off := 0) (us := [.int .i64 (((sceneMeet s r).1).lo), .int .i64 (((sceneMeet s r).1).hi), .bool (((sceneMeet s r).1).no)]) (cs := [.int .i64 (((sceneMeet s r).1).lo), .int .i64 (((sceneMeet s r).1).hi), .bool (((sceneMeet s r).1).no)]) agg26 0 rfl rfl rfl rfl rfl rfl rfl rfl rfl ?_)
  refine ao 7 rfl rfl (st_assign (v := .int .i64 ((sceneMeet s r).2)) rfl rfl ?_)
  refine ar_nil ?_
  refine ac_seq ?_
  refine ac_block ?_
  refine ac_seq ?_
  refine ac_region_lit ?_
  refine ao 15 rfl rfl (st_move (v := .int .i64 ((sceneMeet s r).2)) rfl rfl ?_)
  refine ao 16 rfl rfl (st_bi (u := .int .i64 ((sceneMeet s r).2)) (v := .int .i64 1) (r := .bool (((sceneMeet s r).2) != 1)) rfl rfl rfl (bi_neq rfl) ?_)
  refine ao 14 rfl rfl (st_assign (v := .bool (((sceneMeet s r).2) != 1)) rfl rfl ?_)
  refine ar_nil ?_
  refine bool_split (((sceneMeet s r).2) != 1) (fun h1 => ?_) (fun h1 => ?_)
  · refine ac_then' (b := ((sceneMeet s r).2) != 1) h1 rfl ?_
    refine ac_seq ?_
    refine ac_region_lit ?_
    refine ao 17 rfl rfl (st_cf (vs := []) (r := .agg #[.int .i64 ivNone.lo, .int .i64 ivNone.hi, .bool ivNone.no]) c_ivNone Try.func28 rfl (by decide) rfl rfl rfl ?_)
    refine ao 18 rfl rfl (st_move (v := .int .i64 ((sceneMeet s r).2)) rfl rfl ?_)
    refine ar_op (d := none) rfl rfl (st_sta (g := g2) (off := 0) (us := [.int .i64 ivNone.lo, .int .i64 ivNone.hi, .bool ivNone.no]) (cs := [.int .i64 ivNone.lo, .int .i64 ivNone.hi, .bool ivNone.no]) agg26 1 rfl rfl rfl rfl rfl rfl rfl rfl rfl ?_)
    refine ao 5 rfl rfl (st_assign (v := .int .i64 ((sceneMeet s r).2)) rfl rfl ?_)
    refine ar_nil ?_
    refine ac_ret ?_
    exact fin_eq (v := .tuple #[.agg #[.int .i64 ivNone.lo, .int .i64 ivNone.hi, .bool ivNone.no], .int .i64 ((sceneMeet s r).2)]) (by show _ = (fun (r : Iv × Int) => (.tuple #[.agg #[.int .i64 r.1.lo, .int .i64 r.1.hi, .bool r.1.no], .int .i64 r.2] : Value)) (sceneHit s r); rw [sceneHit, h1] <;> rfl) (fin_ret (res_ct (vs := [.int .i64 ivNone.lo, .int .i64 ivNone.hi, .bool ivNone.no]) agg26 1 rfl rfl rfl rfl rfl rfl rfl))
  · refine ac_else' (b := ((sceneMeet s r).2) != 1) h1 rfl ?_
    refine ac_seq ?_
    refine ac_region_lit ?_
    refine ao 20 rfl rfl (st_fa (g := g3) (off := 0) rfl fa26_1 rfl ?_)
    refine ao 21 rfl rfl (st_ldc (g := g3) (off := 1) (v := .int .i64 (((sceneMeet s r).1).hi)) cell3 0 rfl rfl rfl rfl rfl ?_)
    refine ao 22 rfl rfl (st_bi (u := .int .i64 (((sceneMeet s r).1).hi)) (v := .int .i64 0) (r := .bool (decide ((((sceneMeet s r).1).hi) ≤ 0))) rfl rfl rfl (bi_leq rfl) ?_)
    refine ao 19 rfl rfl (st_assign (v := .bool (decide ((((sceneMeet s r).1).hi) ≤ 0))) rfl rfl ?_)
    refine ar_nil ?_
    refine bool_split (decide ((((sceneMeet s r).1).hi) ≤ 0)) (fun h2 => ?_) (fun h2 => ?_)
    · refine ac_then' (b := decide ((((sceneMeet s r).1).hi) ≤ 0)) h2 rfl ?_
      refine ac_seq ?_
      refine ac_region_lit ?_
      refine ao 23 rfl rfl (st_cf (vs := []) (r := .agg #[.int .i64 ivNone.lo, .int .i64 ivNone.hi, .bool ivNone.no]) c_ivNone Try.func28 rfl (by decide) rfl rfl rfl ?_)
      refine ar_op (d := none) rfl rfl (st_sta (g := g2) (off := 0) (us := [.int .i64 ivNone.lo, .int .i64 ivNone.hi, .bool ivNone.no]) (cs := [.int .i64 ivNone.lo, .int .i64 ivNone.hi, .bool ivNone.no]) agg26 1 rfl rfl rfl rfl rfl rfl rfl rfl rfl ?_)
      refine ao 5 rfl rfl (st_assign (v := .int .i64 2) rfl rfl ?_)
      refine ar_nil ?_
      refine ac_ret ?_
      exact fin_eq (v := .tuple #[.agg #[.int .i64 ivNone.lo, .int .i64 ivNone.hi, .bool ivNone.no], .int .i64 2]) (by show _ = (fun (r : Iv × Int) => (.tuple #[.agg #[.int .i64 r.1.lo, .int .i64 r.1.hi, .bool r.1.no], .int .i64 r.2] : Value)) (sceneHit s r); rw [sceneHit, h2, h1] <;> rfl) (fin_ret (res_ct (vs := [.int .i64 ivNone.lo, .int .i64 ivNone.hi, .bool ivNone.no]) agg26 1 rfl rfl rfl rfl rfl rfl rfl))
    · refine ac_else' (b := decide ((((sceneMeet s r).1).hi) ≤ 0)) h2 rfl ?_
      refine ac_seq ?_
      refine ac_region_lit ?_
      refine ao 25 rfl rfl (st_fa (g := g3) (off := 0) rfl fa26_0 rfl ?_)
      refine ao 26 rfl rfl (st_ldc (g := g3) (off := 0) (v := .int .i64 (((sceneMeet s r).1).lo)) cell3 0 rfl rfl rfl rfl rfl ?_)
      refine ao 27 rfl rfl (st_bi (u := .int .i64 (((sceneMeet s r).1).lo)) (v := .int .i64 0) (r := .bool (decide ((((sceneMeet s r).1).lo) ≤ 0))) rfl rfl rfl (bi_leq rfl) ?_)
      refine ao 24 rfl rfl (st_assign (v := .bool (decide ((((sceneMeet s r).1).lo) ≤ 0))) rfl rfl ?_)
      refine ar_nil ?_
      refine bool_split (decide ((((sceneMeet s r).1).lo) ≤ 0)) (fun h3 => ?_) (fun h3 => ?_)
      · refine ac_then' (b := decide ((((sceneMeet s r).1).lo) ≤ 0)) h3 rfl ?_
        refine ac_seq ?_
        refine ac_region_lit ?_
        refine ao 28 rfl rfl (st_cf (vs := []) (r := .agg #[.int .i64 ivNone.lo, .int .i64 ivNone.hi, .bool ivNone.no]) c_ivNone Try.func28 rfl (by decide) rfl rfl rfl ?_)
        refine ar_op (d := none) rfl rfl (st_sta (g := g2) (off := 0) (us := [.int .i64 ivNone.lo, .int .i64 ivNone.hi, .bool ivNone.no]) (cs := [.int .i64 ivNone.lo, .int .i64 ivNone.hi, .bool ivNone.no]) agg26 1 rfl rfl rfl rfl rfl rfl rfl rfl rfl ?_)
        refine ao 5 rfl rfl (st_assign (v := .int .i64 0) rfl rfl ?_)
        refine ar_nil ?_
        refine ac_ret ?_
        exact fin_eq (v := .tuple #[.agg #[.int .i64 ivNone.lo, .int .i64 ivNone.hi, .bool ivNone.no], .int .i64 0]) (by show _ = (fun (r : Iv × Int) => (.tuple #[.agg #[.int .i64 r.1.lo, .int .i64 r.1.hi, .bool r.1.no], .int .i64 r.2] : Value)) (sceneHit s r); rw [sceneHit, h3, h2, h1] <;> rfl) (fin_ret (res_ct (vs := [.int .i64 ivNone.lo, .int .i64 ivNone.hi, .bool ivNone.no]) agg26 1 rfl rfl rfl rfl rfl rfl rfl))
      · refine ac_else' (b := decide ((((sceneMeet s r).1).lo) ≤ 0)) h3 rfl ?_
        refine ac_skip ?_
        refine ac_seq ?_
        refine ac_region_lit ?_
        refine ao 29 rfl rfl (st_lda (g := g3) (off := 0) (vs := [.int .i64 (((sceneMeet s r).1).lo), .int .i64 (((sceneMeet s r).1).hi), .bool (((sceneMeet s r).1).no)]) agg26 0 rfl rfl rfl rfl rfl rfl ?_)
        refine ar_op (d := none) rfl rfl (st_sta (g := g2) (off := 0) (us := [.int .i64 (((sceneMeet s r).1).lo), .int .i64 (((sceneMeet s r).1).hi), .bool (((sceneMeet s r).1).no)]) (cs := [.int .i64 (((sceneMeet s r).1).lo), .int .i64 (((sceneMeet s r).1).hi), .bool (((sceneMeet s r).1).no)]) agg26 1 rfl rfl rfl rfl rfl rfl rfl rfl rfl ?_)
        refine ao 5 rfl rfl (st_assign (v := .int .i64 1) rfl rfl ?_)
        refine ar_nil ?_
        refine ac_ret ?_
        exact fin_eq (v := .tuple #[.agg #[.int .i64 (((sceneMeet s r).1).lo), .int .i64 (((sceneMeet s r).1).hi), .bool (((sceneMeet s r).1).no)], .int .i64 1]) (by show _ = (fun (r : Iv × Int) => (.tuple #[.agg #[.int .i64 r.1.lo, .int .i64 r.1.hi, .bool r.1.no], .int .i64 r.2] : Value)) (sceneHit s r); rw [sceneHit, h3, h2, h1] <;> rfl) (fin_ret (res_ct (vs := [.int .i64 (((sceneMeet s r).1).lo), .int .i64 (((sceneMeet s r).1).hi), .bool (((sceneMeet s r).1).no)]) agg26 1 rfl rfl rfl rfl rfl rfl rfl))
end Go.Proofs.Ythngkopcadlciaa
