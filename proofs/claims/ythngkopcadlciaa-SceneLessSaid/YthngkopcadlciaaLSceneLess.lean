import Derived.Test.YthngkopcadlciaaMSceneLess10
import Derived.Test.YthngkopcadlciaaMSceneLess12
set_option linter.unusedVariables false
set_option linter.unusedSimpArgs false
namespace Go.Proofs.Ythngkopcadlciaa
open Go.RowKit
attribute [local irreducible] AC AR DWalk
def lawSceneLess_e0 (l : List Int) (x : RawRay) (m : Int) (n : Int) : Bool := (ivInside ((near0 (hInRay (hRay x) m n)).2.1) ((near0 (hRay x)).2.1))
def lawSceneLess_e1 (l : List Int) (x : RawRay) (m : Int) (n : Int) : Bool := (ivInside ((sNear (hScene l) (hInRay (hRay x) m n)).2.1) ((sNear (hScene l) (hRay x)).2.1))
def lawSceneLess (l : List Int) (x : RawRay) (m : Int) (n : Int) : Bool := (bif (hScene l).isEmpty then (bif known26 then (bif ((near0 (hRay x)).2.2) == 0 then (bif ((near0 (hRay x)).2.2) != 1 then true else (bif lawSceneLess_e0 l x m n then (bif decide (((near0 (hRay x)).1) ≥ 0) then decide (((near0 (hRay x)).1) < 0) else false) else false)) else (bif ((near0 (hInRay (hRay x) m n)).2.2) == ((near0 (hRay x)).2.2) then (bif ((near0 (hInRay (hRay x) m n)).1) == ((near0 (hRay x)).1) then (bif ((near0 (hRay x)).2.2) != 1 then true else (bif lawSceneLess_e0 l x m n then (bif decide (((near0 (hRay x)).1) ≥ 0) then decide (((near0 (hRay x)).1) < 0) else false) else false)) else false) else false)) else false) else (bif (hScene l).all (lessRound (hRay x) (hInRay (hRay x) m n)) then (bif known26 then (bif ((sNear (hScene l) (hRay x)).2.2) == 0 then (bif ((sNear (hScene l) (hRay x)).2.2) != 1 then true else (bif lawSceneLess_e1 l x m n then (bif decide (((sNear (hScene l) (hRay x)).1) ≥ 0) then decide (((sNear (hScene l) (hRay x)).1) < ((hScene l).length : Int)) else false) else false)) else (bif ((sNear (hScene l) (hInRay (hRay x) m n)).2.2) == ((sNear (hScene l) (hRay x)).2.2) then (bif ((sNear (hScene l) (hInRay (hRay x) m n)).1) == ((sNear (hScene l) (hRay x)).1) then (bif ((sNear (hScene l) (hRay x)).2.2) != 1 then true else (bif lawSceneLess_e1 l x m n then (bif decide (((sNear (hScene l) (hRay x)).1) ≥ 0) then decide (((sNear (hScene l) (hRay x)).1) < ((hScene l).length : Int)) else false) else false)) else false) else false)) else false) else false))
set_option maxRecDepth 100000 in
set_option maxHeartbeats 4000000 in
theorem c_lawSceneLess (l : List Int) (x : RawRay) (m : Int) (n : Int) (b off cap ty : Nat) (cs : List Value) (hcs : ∀ j z, l[j]? = some z → cs[off + j]? = some (.int .i64 z)) (H : (lawSceneLess l x m n) = true) : Gives Try.prog 17 #[.slice (some ⟨b, off, none⟩) l.length cap, .agg #[.int .i64 x.x, .int .i64 x.y, .int .i64 x.u, .int .i64 x.w, .int .i64 x.wide, .int .i64 x.lean], .int .i64 m, .int .i64 n] [⟨b, cs, ty, true⟩] (fun u N => u = .bool true ∧ N = []) := by
  refine gives_fin Try.func17 rfl rfl rfl rfl (AC.mono ?_ (fun e E H h => fing_v h rfl))
  refine ac_seq ?_
  refine ac_region_lit ?_
  refine ao 5 rfl rfl (st_box (v := .agg #[.int .i64 x.x, .int .i64 x.y, .int .i64 x.u, .int .i64 x.w, .int .i64 x.wide, .int .i64 x.lean]) (cs := [.int .i64 x.x, .int .i64 x.y, .int .i64 x.u, .int .i64 x.w, .int .i64 x.wide, .int .i64 x.lean]) rfl rfl rfl fun g0 => ?_)
  refine ao 8 rfl rfl (st_assign (v := .bool false) rfl rfl ?_)
  refine ar_nil ?_
  refine ac_seq ?_
  refine ac_region_lit ?_
  refine ao 24 rfl rfl (st_move (v := .slice (some ⟨b, off, none⟩) l.length cap) rfl rfl ?_)
  refine bool_split ((hScene l).isEmpty) (fun h1 => ?_) (fun h1 => ?_)
  · refine ao 25 rfl rfl (st_gr (vs := [.slice (some ⟨b, off, none⟩) l.length cap]) (R := [⟨b, cs, ty, true⟩]) (r := .slice none 0 0) (c_hSceneE l b off cap ty cs hcs h1) Try.func55 rfl (by decide) rfl rfl rfl (has_cons 1 _ rfl rfl rfl rfl has_nil) (by simp) ?_)
    refine ao 9 rfl rfl (st_assign (v := .slice none 0 0) rfl rfl ?_)
    refine ar_nil ?_
    refine ac_seq ?_
    refine ac_region_lit ?_
    refine ao 26 rfl rfl (st_lda (g := g0) (off := 0) (vs := [.int .i64 x.x, .int .i64 x.y, .int .i64 x.u, .int .i64 x.w, .int .i64 x.wide, .int .i64 x.lean]) agg73 0 rfl rfl rfl rfl rfl rfl ?_)
    refine ao 27 rfl rfl (st_cf (vs := [.agg #[.int .i64 x.x, .int .i64 x.y, .int .i64 x.u, .int .i64 x.w, .int .i64 x.wide, .int .i64 x.lean]]) (r := .agg #[.int .i64 ((((hRay x).o).x).lo), .int .i64 ((((hRay x).o).x).hi), .bool ((((hRay x).o).x).no), .int .i64 ((((hRay x).o).y).lo), .int .i64 ((((hRay x).o).y).hi), .bool ((((hRay x).o).y).no), .int .i64 ((((hRay x).o).z).lo), .int .i64 ((((hRay x).o).z).hi), .bool ((((hRay x).o).z).no), .int .i64 ((((hRay x).d).x).lo), .int .i64 ((((hRay x).d).x).hi), .bool ((((hRay x).d).x).no), .int .i64 ((((hRay x).d).y).lo), .int .i64 ((((hRay x).d).y).hi), .bool ((((hRay x).d).y).no), .int .i64 ((((hRay x).d).z).lo), .int .i64 ((((hRay x).d).z).hi), .bool ((((hRay x).d).z).no)]) (c_hRay x) Try.func56 rfl (by decide) rfl rfl rfl ?_)
    refine ao 10 rfl rfl (st_new zero77 rfl fun g1 => ?_)
    refine ar_op (d := none) rfl rfl (st_sta (g := g1) (off := 0) (us := [.int .i64 ((((hRay x).o).x).lo), .int .i64 ((((hRay x).o).x).hi), .bool ((((hRay x).o).x).no), .int .i64 ((((hRay x).o).y).lo), .int .i64 ((((hRay x).o).y).hi), .bool ((((hRay x).o).y).no), .int .i64 ((((hRay x).o).z).lo), .int .i64 ((((hRay x).o).z).hi), .bool ((((hRay x).o).z).no), .int .i64 ((((hRay x).d).x).lo), .int .i64 ((((hRay x).d).x).hi), .bool ((((hRay x).d).x).no), .int .i64 ((((hRay x).d).y).lo), .int .i64 ((((hRay x).d).y).hi), .bool ((((hRay x).d).y).no), .int .i64 ((((hRay x).d).z).lo), .int .i64 ((((hRay x).d).z).hi), .bool ((((hRay x).d).z).no)]) (cs := [.int .i64 ((((hRay x).o).x).lo), .int .i64 ((((hRay x).o).x).hi), .bool ((((hRay x).o).x).no), .int .i64 ((((hRay x).o).y).lo), .int .i64 ((((hRay x).o).y).hi), .bool ((((hRay x).o).y).no), .int .i64 ((((hRay x).o).z).lo), .int .i64 ((((hRay x).o).z).hi), .bool ((((hRay x).o).z).no), .int .i64 ((((hRay x).d).x).lo), .int .i64 ((((hRay x).d).x).hi), .bool ((((hRay x).d).x).no), .int .i64 ((((hRay x).d).y).lo), .int .i64 ((((hRay x).d).y).hi), .bool ((((hRay x).d).y).no), .int .i64 ((((hRay x).d).z).lo), .int .i64 ((((hRay x).d).z).hi), .bool ((((hRay x).d).z).no)]) agg77 0 rfl rfl rfl rfl rfl rfl rfl rfl rfl ?_)
    refine ar_nil ?_
    refine ac_seq ?_
    refine ac_region_lit ?_
    refine ao 28 rfl rfl (st_lda (g := g1) (off := 0) (vs := [.int .i64 ((((hRay x).o).x).lo), .int .i64 ((((hRay x).o).x).hi), .bool ((((hRay x).o).x).no), .int .i64 ((((hRay x).o).y).lo), .int .i64 ((((hRay x).o).y).hi), .bool ((((hRay x).o).y).no), .int .i64 ((((hRay x).o).z).lo), .int .i64 ((((hRay x).o).z).hi), .bool ((((hRay x).o).z).no), .int .i64 ((((hRay x).d).x).lo), .int .i64 ((((hRay x).d).x).hi), .bool ((((hRay x).d).x).no), .int .i64 ((((hRay x).d).y).lo), .int .i64 ((((hRay x).d).y).hi), .bool ((((hRay x).d).y).no), .int .i64 ((((hRay x).d).z).lo), .int .i64 ((((hRay x).d).z).hi), .bool ((((hRay x).d).z).no)]) agg77 0 rfl rfl rfl rfl rfl rfl ?_)
    refine ao 29 rfl rfl (st_move (v := .int .i64 m) rfl rfl ?_)
    refine ao 30 rfl rfl (st_move (v := .int .i64 n) rfl rfl ?_)
    refine ao 31 rfl rfl (st_cf (vs := [.agg #[.int .i64 ((((hRay x).o).x).lo), .int .i64 ((((hRay x).o).x).hi), .bool ((((hRay x).o).x).no), .int .i64 ((((hRay x).o).y).lo), .int .i64 ((((hRay x).o).y).hi), .bool ((((hRay x).o).y).no), .int .i64 ((((hRay x).o).z).lo), .int .i64 ((((hRay x).o).z).hi), .bool ((((hRay x).o).z).no), .int .i64 ((((hRay x).d).x).lo), .int .i64 ((((hRay x).d).x).hi), .bool ((((hRay x).d).x).no), .int .i64 ((((hRay x).d).y).lo), .int .i64 ((((hRay x).d).y).hi), .bool ((((hRay x).d).y).no), .int .i64 ((((hRay x).d).z).lo), .int .i64 ((((hRay x).d).z).hi), .bool ((((hRay x).d).z).no)], .int .i64 m, .int .i64 n]) (r := .agg #[.int .i64 ((((hInRay (hRay x) m n).o).x).lo), .int .i64 ((((hInRay (hRay x) m n).o).x).hi), .bool ((((hInRay (hRay x) m n).o).x).no), .int .i64 ((((hInRay (hRay x) m n).o).y).lo), .int .i64 ((((hInRay (hRay x) m n).o).y).hi), .bool ((((hInRay (hRay x) m n).o).y).no), .int .i64 ((((hInRay (hRay x) m n).o).z).lo), .int .i64 ((((hInRay (hRay x) m n).o).z).hi), .bool ((((hInRay (hRay x) m n).o).z).no), .int .i64 ((((hInRay (hRay x) m n).d).x).lo), .int .i64 ((((hInRay (hRay x) m n).d).x).hi), .bool ((((hInRay (hRay x) m n).d).x).no), .int .i64 ((((hInRay (hRay x) m n).d).y).lo), .int .i64 ((((hInRay (hRay x) m n).d).y).hi), .bool ((((hInRay (hRay x) m n).d).y).no), .int .i64 ((((hInRay (hRay x) m n).d).z).lo), .int .i64 ((((hInRay (hRay x) m n).d).z).hi), .bool ((((hInRay (hRay x) m n).d).z).no)]) (c_hInRay (hRay x) m n) Try.func62 rfl (by decide) rfl rfl rfl ?_)
    refine ao 11 rfl rfl (st_new zero77 rfl fun g2 => ?_)
    refine ar_op (d := none) rfl rfl (st_sta (g := g2) (off := 0) (us := [.int .i64 ((((hInRay (hRay x) m n).o).x).lo), .int .i64 ((((hInRay (hRay x) m n).o).x).hi), .bool ((((hInRay (hRay x) m n).o).x).no), .int .i64 ((((hInRay (hRay x) m n).o).y).lo), .int .i64 ((((hInRay (hRay x) m n).o).y).hi), .bool ((((hInRay (hRay x) m n).o).y).no), .int .i64 ((((hInRay (hRay x) m n).o).z).lo), .int .i64 ((((hInRay (hRay x) m n).o).z).hi), .bool ((((hInRay (hRay x) m n).o).z).no), .int .i64 ((((hInRay (hRay x) m n).d).x).lo), .int .i64 ((((hInRay (hRay x) m n).d).x).hi), .bool ((((hInRay (hRay x) m n).d).x).no), .int .i64 ((((hInRay (hRay x) m n).d).y).lo), .int .i64 ((((hInRay (hRay x) m n).d).y).hi), .bool ((((hInRay (hRay x) m n).d).y).no), .int .i64 ((((hInRay (hRay x) m n).d).z).lo), .int .i64 ((((hInRay (hRay x) m n).d).z).hi), .bool ((((hInRay (hRay x) m n).d).z).no)]) (cs := [.int .i64 ((((hInRay (hRay x) m n).o).x).lo), .int .i64 ((((hInRay (hRay x) m n).o).x).hi), .bool ((((hInRay (hRay x) m n).o).x).no), .int .i64 ((((hInRay (hRay x) m n).o).y).lo), .int .i64 ((((hInRay (hRay x) m n).o).y).hi), .bool ((((hInRay (hRay x) m n).o).y).no), .int .i64 ((((hInRay (hRay x) m n).o).z).lo), .int .i64 ((((hInRay (hRay x) m n).o).z).hi), .bool ((((hInRay (hRay x) m n).o).z).no), .int .i64 ((((hInRay (hRay x) m n).d).x).lo), .int .i64 ((((hInRay (hRay x) m n).d).x).hi), .bool ((((hInRay (hRay x) m n).d).x).no), .int .i64 ((((hInRay (hRay x) m n).d).y).lo), .int .i64 ((((hInRay (hRay x) m n).d).y).hi), .bool ((((hInRay (hRay x) m n).d).y).no), .int .i64 ((((hInRay (hRay x) m n).d).z).lo), .int .i64 ((((hInRay (hRay x) m n).d).z).hi), .bool ((((hInRay (hRay x) m n).d).z).no)]) agg77 0 rfl rfl rfl rfl rfl rfl rfl rfl rfl ?_)
    refine ar_nil ?_
    refine ac_seq ?_
    refine ac_seq ?_
    refine ac_region_lit ?_
    refine ao 32 rfl rfl (st_move (v := .slice none 0 0) rfl rfl ?_)
    refine ao 33 rfl rfl (st_ln (a := none) (m := 0) (c := 0) rfl Try.underlying74 rfl ?_)
    refine ao 34 rfl rfl (st_move (v := .int .i64 0) rfl rfl ?_)
    refine ar_nil ?_
    refine ac_block ?_
    refine ac_rounds 61 ?_
    refine ar_round ?_
    refine ac_seq ?_
    refine ac_region_lit ?_
    refine ao 35 rfl rfl (st_bi (u := .int .i64 0) (v := .int .i64 0) (r := .bool false) rfl rfl rfl (bi_lss (by decide)) ?_)
    refine ar_nil ?_
    refine ac_seq ?_
    refine ac_else rfl ?_
    refine ac_exit ?_
    refine ac_seq ?_
    refine ac_region_lit ?_
    refine ao 69 rfl rfl (st_move (v := .slice none 0 0) rfl rfl ?_)
    refine ao 70 rfl rfl (st_lda (g := g1) (off := 0) (vs := [.int .i64 ((((hRay x).o).x).lo), .int .i64 ((((hRay x).o).x).hi), .bool ((((hRay x).o).x).no), .int .i64 ((((hRay x).o).y).lo), .int .i64 ((((hRay x).o).y).hi), .bool ((((hRay x).o).y).no), .int .i64 ((((hRay x).o).z).lo), .int .i64 ((((hRay x).o).z).hi), .bool ((((hRay x).o).z).no), .int .i64 ((((hRay x).d).x).lo), .int .i64 ((((hRay x).d).x).hi), .bool ((((hRay x).d).x).no), .int .i64 ((((hRay x).d).y).lo), .int .i64 ((((hRay x).d).y).hi), .bool ((((hRay x).d).y).no), .int .i64 ((((hRay x).d).z).lo), .int .i64 ((((hRay x).d).z).hi), .bool ((((hRay x).d).z).no)]) agg77 1 rfl rfl rfl rfl rfl rfl ?_)
    refine ao 71 rfl rfl (st_cf (vs := [.slice none 0 0, .agg #[.int .i64 ((((hRay x).o).x).lo), .int .i64 ((((hRay x).o).x).hi), .bool ((((hRay x).o).x).no), .int .i64 ((((hRay x).o).y).lo), .int .i64 ((((hRay x).o).y).hi), .bool ((((hRay x).o).y).no), .int .i64 ((((hRay x).o).z).lo), .int .i64 ((((hRay x).o).z).hi), .bool ((((hRay x).o).z).no), .int .i64 ((((hRay x).d).x).lo), .int .i64 ((((hRay x).d).x).hi), .bool ((((hRay x).d).x).no), .int .i64 ((((hRay x).d).y).lo), .int .i64 ((((hRay x).d).y).hi), .bool ((((hRay x).d).y).no), .int .i64 ((((hRay x).d).z).lo), .int .i64 ((((hRay x).d).z).hi), .bool ((((hRay x).d).z).no)]]) (r := .tuple #[.int .i64 ((near0 (hRay x)).1), .agg #[.int .i64 (((near0 (hRay x)).2.1).lo), .int .i64 (((near0 (hRay x)).2.1).hi), .bool (((near0 (hRay x)).2.1).no)], .int .i64 ((near0 (hRay x)).2.2)]) (c_near0 (hRay x)) Try.func57 rfl (by decide) rfl rfl rfl ?_)
    refine ao 68 rfl rfl (st_move (v := .tuple #[.int .i64 ((near0 (hRay x)).1), .agg #[.int .i64 (((near0 (hRay x)).2.1).lo), .int .i64 (((near0 (hRay x)).2.1).hi), .bool (((near0 (hRay x)).2.1).no)], .int .i64 ((near0 (hRay x)).2.2)]) rfl rfl ?_)
    refine ao 72 rfl rfl (st_ex (vs := [.int .i64 ((near0 (hRay x)).1), .agg #[.int .i64 (((near0 (hRay x)).2.1).lo), .int .i64 (((near0 (hRay x)).2.1).hi), .bool (((near0 (hRay x)).2.1).no)], .int .i64 ((near0 (hRay x)).2.2)]) (v := .int .i64 ((near0 (hRay x)).1)) rfl rfl rfl ?_)
    refine ao 73 rfl rfl (st_ex (vs := [.int .i64 ((near0 (hRay x)).1), .agg #[.int .i64 (((near0 (hRay x)).2.1).lo), .int .i64 (((near0 (hRay x)).2.1).hi), .bool (((near0 (hRay x)).2.1).no)], .int .i64 ((near0 (hRay x)).2.2)]) (v := .agg #[.int .i64 (((near0 (hRay x)).2.1).lo), .int .i64 (((near0 (hRay x)).2.1).hi), .bool (((near0 (hRay x)).2.1).no)]) rfl rfl rfl ?_)
    refine ao 74 rfl rfl (st_ex (vs := [.int .i64 ((near0 (hRay x)).1), .agg #[.int .i64 (((near0 (hRay x)).2.1).lo), .int .i64 (((near0 (hRay x)).2.1).hi), .bool (((near0 (hRay x)).2.1).no)], .int .i64 ((near0 (hRay x)).2.2)]) (v := .int .i64 ((near0 (hRay x)).2.2)) rfl rfl rfl ?_)
    refine ao 19 rfl rfl (st_new zero26 rfl fun g3 => ?_)
    refine ao 18 rfl rfl (st_assign (v := .int .i64 ((near0 (hRay x)).1)) rfl rfl ?_)
    refine ar_op (d := none) rfl rfl (st_sta (g := g3) (off := 0) (us := [.int .i64 (((near0 (hRay x)).2.1).lo), .int .i64 (((near0 (hRay x)).2.1).hi), .bool (((near0 (hRay x)).2.1).no)]) (cs := [.int .i64 (((near0 (hRay x)).2.1).lo), .int .i64 (((near0 (hRay x)).2.1).hi), .bool (((near0 (hRay x)).2.1).no)]) agg26 0 rfl rfl rfl rfl rfl rfl rfl rfl rfl ?_)
    refine ao 20 rfl rfl (st_assign (v := .int .i64 ((near0 (hRay x)).2.2)) rfl rfl ?_)
    refine ar_nil ?_
    refine ac_seq ?_
    refine ac_region_lit ?_
    refine ao 76 rfl rfl (st_move (v := .slice none 0 0) rfl rfl ?_)
    refine ao 77 rfl rfl (st_lda (g := g2) (off := 0) (vs := [.int .i64 ((((hInRay (hRay x) m n).o).x).lo), .int .i64 ((((hInRay (hRay x) m n).o).x).hi), .bool ((((hInRay (hRay x) m n).o).x).no), .int .i64 ((((hInRay (hRay x) m n).o).y).lo), .int .i64 ((((hInRay (hRay x) m n).o).y).hi), .bool ((((hInRay (hRay x) m n).o).y).no), .int .i64 ((((hInRay (hRay x) m n).o).z).lo), .int .i64 ((((hInRay (hRay x) m n).o).z).hi), .bool ((((hInRay (hRay x) m n).o).z).no), .int .i64 ((((hInRay (hRay x) m n).d).x).lo), .int .i64 ((((hInRay (hRay x) m n).d).x).hi), .bool ((((hInRay (hRay x) m n).d).x).no), .int .i64 ((((hInRay (hRay x) m n).d).y).lo), .int .i64 ((((hInRay (hRay x) m n).d).y).hi), .bool ((((hInRay (hRay x) m n).d).y).no), .int .i64 ((((hInRay (hRay x) m n).d).z).lo), .int .i64 ((((hInRay (hRay x) m n).d).z).hi), .bool ((((hInRay (hRay x) m n).d).z).no)]) agg77 1 rfl rfl rfl rfl rfl rfl ?_)
    refine ao 78 rfl rfl (st_cf (vs := [.slice none 0 0, .agg #[.int .i64 ((((hInRay (hRay x) m n).o).x).lo), .int .i64 ((((hInRay (hRay x) m n).o).x).hi), .bool ((((hInRay (hRay x) m n).o).x).no), .int .i64 ((((hInRay (hRay x) m n).o).y).lo), .int .i64 ((((hInRay (hRay x) m n).o).y).hi), .bool ((((hInRay (hRay x) m n).o).y).no), .int .i64 ((((hInRay (hRay x) m n).o).z).lo), .int .i64 ((((hInRay (hRay x) m n).o).z).hi), .bool ((((hInRay (hRay x) m n).o).z).no), .int .i64 ((((hInRay (hRay x) m n).d).x).lo), .int .i64 ((((hInRay (hRay x) m n).d).x).hi), .bool ((((hInRay (hRay x) m n).d).x).no), .int .i64 ((((hInRay (hRay x) m n).d).y).lo), .int .i64 ((((hInRay (hRay x) m n).d).y).hi), .bool ((((hInRay (hRay x) m n).d).y).no), .int .i64 ((((hInRay (hRay x) m n).d).z).lo), .int .i64 ((((hInRay (hRay x) m n).d).z).hi), .bool ((((hInRay (hRay x) m n).d).z).no)]]) (r := .tuple #[.int .i64 ((near0 (hInRay (hRay x) m n)).1), .agg #[.int .i64 (((near0 (hInRay (hRay x) m n)).2.1).lo), .int .i64 (((near0 (hInRay (hRay x) m n)).2.1).hi), .bool (((near0 (hInRay (hRay x) m n)).2.1).no)], .int .i64 ((near0 (hInRay (hRay x) m n)).2.2)]) (c_near0 (hInRay (hRay x) m n)) Try.func57 rfl (by decide) rfl rfl rfl ?_)
    refine ao 75 rfl rfl (st_move (v := .tuple #[.int .i64 ((near0 (hInRay (hRay x) m n)).1), .agg #[.int .i64 (((near0 (hInRay (hRay x) m n)).2.1).lo), .int .i64 (((near0 (hInRay (hRay x) m n)).2.1).hi), .bool (((near0 (hInRay (hRay x) m n)).2.1).no)], .int .i64 ((near0 (hInRay (hRay x) m n)).2.2)]) rfl rfl ?_)
    refine ao 79 rfl rfl (st_ex (vs := [.int .i64 ((near0 (hInRay (hRay x) m n)).1), .agg #[.int .i64 (((near0 (hInRay (hRay x) m n)).2.1).lo), .int .i64 (((near0 (hInRay (hRay x) m n)).2.1).hi), .bool (((near0 (hInRay (hRay x) m n)).2.1).no)], .int .i64 ((near0 (hInRay (hRay x) m n)).2.2)]) (v := .int .i64 ((near0 (hInRay (hRay x) m n)).1)) rfl rfl rfl ?_)
    refine ao 80 rfl rfl (st_ex (vs := [.int .i64 ((near0 (hInRay (hRay x) m n)).1), .agg #[.int .i64 (((near0 (hInRay (hRay x) m n)).2.1).lo), .int .i64 (((near0 (hInRay (hRay x) m n)).2.1).hi), .bool (((near0 (hInRay (hRay x) m n)).2.1).no)], .int .i64 ((near0 (hInRay (hRay x) m n)).2.2)]) (v := .agg #[.int .i64 (((near0 (hInRay (hRay x) m n)).2.1).lo), .int .i64 (((near0 (hInRay (hRay x) m n)).2.1).hi), .bool (((near0 (hInRay (hRay x) m n)).2.1).no)]) rfl rfl rfl ?_)
    refine ao 81 rfl rfl (st_ex (vs := [.int .i64 ((near0 (hInRay (hRay x) m n)).1), .agg #[.int .i64 (((near0 (hInRay (hRay x) m n)).2.1).lo), .int .i64 (((near0 (hInRay (hRay x) m n)).2.1).hi), .bool (((near0 (hInRay (hRay x) m n)).2.1).no)], .int .i64 ((near0 (hInRay (hRay x) m n)).2.2)]) (v := .int .i64 ((near0 (hInRay (hRay x) m n)).2.2)) rfl rfl rfl ?_)
    refine ao 22 rfl rfl (st_new zero26 rfl fun g4 => ?_)
    refine ao 21 rfl rfl (st_assign (v := .int .i64 ((near0 (hInRay (hRay x) m n)).1)) rfl rfl ?_)
    refine ar_op (d := none) rfl rfl (st_sta (g := g4) (off := 0) (us := [.int .i64 (((near0 (hInRay (hRay x) m n)).2.1).lo), .int .i64 (((near0 (hInRay (hRay x) m n)).2.1).hi), .bool (((near0 (hInRay (hRay x) m n)).2.1).no)]) (cs := [.int .i64 (((near0 (hInRay (hRay x) m n)).2.1).lo), .int .i64 (((near0 (hInRay (hRay x) m n)).2.1).hi), .bool (((near0 (hInRay (hRay x) m n)).2.1).no)]) agg26 0 rfl rfl rfl rfl rfl rfl rfl rfl rfl ?_)
    refine ao 23 rfl rfl (st_assign (v := .int .i64 ((near0 (hInRay (hRay x) m n)).2.2)) rfl rfl ?_)
    refine ar_nil ?_
    refine ac_seq ?_
    refine ac_region_lit ?_
    refine ao 82 rfl rfl (st_cf (vs := []) (r := .bool known26) c_known26 Try.func59 rfl (by decide) rfl rfl rfl ?_)
    refine ao 83 rfl rfl (st_move (v := .bool known26) rfl rfl ?_)
    refine bool_split (known26) (fun h2 => ?_) (fun h2 => nomatch (show false = true from (show (lawSceneLess l x m n) = _ from (eT h1 (eF h2 rfl))).symm.trans H))
    refine ar_gd (d := (some 84)) (by show (known26 == true) = true; rw [h2]; rfl) rfl (st_move (v := .int .i64 ((near0 (hRay x)).2.2)) rfl rfl ?_)
    refine ar_gd (d := (some 85)) (by show (known26 == true) = true; rw [h2]; rfl) rfl (st_bi (u := .int .i64 ((near0 (hRay x)).2.2)) (v := .int .i64 0) (r := .bool (((near0 (hRay x)).2.2) == 0)) rfl rfl rfl (bi_eql rfl) ?_)
    refine ar_gd (d := (some 86)) (by show (known26 == true) = true; rw [h2]; rfl) rfl (st_move (v := .bool (((near0 (hRay x)).2.2) == 0)) rfl rfl ?_)
    refine bool_split (((near0 (hRay x)).2.2) == 0) (fun h3 => ?_) (fun h3 => ?_)
    · refine ar_sk (d := (some 87)) (by show ((((near0 (hRay x)).2.2) == 0) == false) = false; rw [h3]; rfl) rfl ?_
      refine ar_sk (d := (some 88)) (by show ((((near0 (hRay x)).2.2) == 0) == false) = false; rw [h3]; rfl) rfl ?_
      refine ar_sk (d := (some 89)) (by show ((((near0 (hRay x)).2.2) == 0) == false) = false; rw [h3]; rfl) rfl ?_
      refine ar_sk (d := (some 90)) (by show ((((near0 (hRay x)).2.2) == 0) == false) = false; rw [h3]; rfl) rfl ?_
      refine ar_sk (d := (some 91)) rfl rfl ?_
      refine ar_sk (d := (some 92)) rfl rfl ?_
      refine ar_sk (d := (some 93)) rfl rfl ?_
      refine ar_sk (d := (some 94)) (by show ((((near0 (hRay x)).2.2) == 0) == false) = false; rw [h3]; rfl) rfl ?_
      refine ar_gd (d := (some 95)) (by show (known26 == true) = true; rw [h2]; rfl) rfl (st_pkt' (b := ((near0 (hRay x)).2.2) == 0) (v := .bool true) h3 rfl rfl rfl ?_)
      refine ao 96 rfl rfl (st_pkt' (b := known26) (v := .bool true) h2 rfl rfl rfl ?_)
      refine ao 97 rfl rfl (st_move (v := .bool true) rfl rfl ?_)
      refine ar_gd (d := (some 98)) rfl rfl (st_move (v := .int .i64 ((near0 (hRay x)).2.2)) rfl rfl ?_)
      refine ar_gd (d := (some 99)) rfl rfl (st_bi (u := .int .i64 ((near0 (hRay x)).2.2)) (v := .int .i64 1) (r := .bool (((near0 (hRay x)).2.2) != 1)) rfl rfl rfl (bi_neq rfl) ?_)
      refine ar_gd (d := (some 100)) rfl rfl (st_move (v := .bool (((near0 (hRay x)).2.2) != 1)) rfl rfl ?_)
      refine bool_split (((near0 (hRay x)).2.2) != 1) (fun h4 => ?_) (fun h4 => ?_)
      · refine ar_sk (d := (some 101)) (by show ((((near0 (hRay x)).2.2) != 1) == false) = false; rw [h4]; rfl) rfl ?_
        refine ar_sk (d := (some 102)) (by show ((((near0 (hRay x)).2.2) != 1) == false) = false; rw [h4]; rfl) rfl ?_
        refine ar_sk (d := (some 103)) (by show ((((near0 (hRay x)).2.2) != 1) == false) = false; rw [h4]; rfl) rfl ?_
        refine ar_sk (d := (some 104)) (by show ((((near0 (hRay x)).2.2) != 1) == false) = false; rw [h4]; rfl) rfl ?_
        refine ar_sk (d := (some 105)) rfl rfl ?_
        refine ar_sk (d := (some 106)) rfl rfl ?_
        refine ar_sk (d := (some 107)) (by show ((((near0 (hRay x)).2.2) != 1) == false) = false; rw [h4]; rfl) rfl ?_
        refine ar_sk (d := (some 108)) (by show ((((near0 (hRay x)).2.2) != 1) == false) = false; rw [h4]; rfl) rfl ?_
        refine ar_sk (d := (some 109)) rfl rfl ?_
        refine ar_sk (d := (some 110)) rfl rfl ?_
        refine ar_sk (d := (some 111)) rfl rfl ?_
        refine ar_sk (d := (some 112)) rfl rfl ?_
        refine ar_sk (d := (some 113)) (by show ((((near0 (hRay x)).2.2) != 1) == false) = false; rw [h4]; rfl) rfl ?_
        refine ar_gd (d := (some 114)) rfl rfl (st_pkt' (b := ((near0 (hRay x)).2.2) != 1) (v := .bool true) h4 rfl rfl rfl ?_)
        refine ao 115 rfl rfl (st_pkt (v := .bool true) rfl rfl rfl ?_)
        refine ao 8 rfl rfl (st_assign (v := .bool true) rfl rfl ?_)
        refine ar_nil ?_
        refine ac_ret ?_
        exact fin_eq (by first | rfl | (rw [h4, h3, h2, h1] <;> rfl)) (fin_ret (res_tmp rfl rfl))
      · refine ar_gd (d := (some 101)) (by show ((((near0 (hRay x)).2.2) != 1) == false) = true; rw [h4]; rfl) rfl (st_lda (g := g4) (off := 0) (vs := [.int .i64 (((near0 (hInRay (hRay x) m n)).2.1).lo), .int .i64 (((near0 (hInRay (hRay x) m n)).2.1).hi), .bool (((near0 (hInRay (hRay x) m n)).2.1).no)]) agg26 0 rfl rfl rfl rfl rfl rfl ?_)
        refine ar_gd (d := (some 102)) (by show ((((near0 (hRay x)).2.2) != 1) == false) = true; rw [h4]; rfl) rfl (st_lda (g := g3) (off := 0) (vs := [.int .i64 (((near0 (hRay x)).2.1).lo), .int .i64 (((near0 (hRay x)).2.1).hi), .bool (((near0 (hRay x)).2.1).no)]) agg26 1 rfl rfl rfl rfl rfl rfl ?_)
        refine ar_gd (d := (some 103)) (by show ((((near0 (hRay x)).2.2) != 1) == false) = true; rw [h4]; rfl) rfl (st_cf (vs := [.agg #[.int .i64 (((near0 (hInRay (hRay x) m n)).2.1).lo), .int .i64 (((near0 (hInRay (hRay x) m n)).2.1).hi), .bool (((near0 (hInRay (hRay x) m n)).2.1).no)], .agg #[.int .i64 (((near0 (hRay x)).2.1).lo), .int .i64 (((near0 (hRay x)).2.1).hi), .bool (((near0 (hRay x)).2.1).no)]]) (r := .bool (lawSceneLess_e0 l x m n)) (c_ivInside ((near0 (hInRay (hRay x) m n)).2.1) ((near0 (hRay x)).2.1)) Try.func26 rfl (by decide) rfl rfl rfl ?_)
        refine ar_gd (d := (some 104)) (by show ((((near0 (hRay x)).2.2) != 1) == false) = true; rw [h4]; rfl) rfl (st_move (v := .bool (lawSceneLess_e0 l x m n)) rfl rfl ?_)
        refine bool_split (lawSceneLess_e0 l x m n) (fun h5 => ?_) (fun h5 => nomatch (show false = true from (show (lawSceneLess l x m n) = _ from (eT h1 (eT h2 (eT h3 (eF h4 (eF h5 rfl)))))).symm.trans H))
        refine ar_gd (d := (some 105)) (by show ((lawSceneLess_e0 l x m n) == true) = true; rw [h5]; rfl) rfl (st_move (v := .int .i64 ((near0 (hRay x)).1)) rfl rfl ?_)
        refine ar_gd (d := (some 106)) (by show ((lawSceneLess_e0 l x m n) == true) = true; rw [h5]; rfl) rfl (st_bi (u := .int .i64 ((near0 (hRay x)).1)) (v := .int .i64 0) (r := .bool (decide (((near0 (hRay x)).1) ≥ 0))) rfl rfl rfl (bi_geq rfl) ?_)
        refine ar_gd (d := (some 107)) (by show ((((near0 (hRay x)).2.2) != 1) == false) = true; rw [h4]; rfl) rfl (st_pkt' (b := lawSceneLess_e0 l x m n) (v := .bool (decide (((near0 (hRay x)).1) ≥ 0))) h5 rfl rfl rfl ?_)
        refine ar_gd (d := (some 108)) (by show ((((near0 (hRay x)).2.2) != 1) == false) = true; rw [h4]; rfl) rfl (st_move (v := .bool (decide (((near0 (hRay x)).1) ≥ 0))) rfl rfl ?_)
        refine bool_split (decide (((near0 (hRay x)).1) ≥ 0)) (fun h6 => ?_) (fun h6 => nomatch (show false = true from (show (lawSceneLess l x m n) = _ from (eT h1 (eT h2 (eT h3 (eF h4 (eT h5 (eF h6 rfl))))))).symm.trans H))
        refine ar_gd (d := (some 109)) (by show ((decide (((near0 (hRay x)).1) ≥ 0)) == true) = true; rw [h6]; rfl) rfl (st_move (v := .int .i64 ((near0 (hRay x)).1)) rfl rfl ?_)
        refine ar_gd (d := (some 110)) (by show ((decide (((near0 (hRay x)).1) ≥ 0)) == true) = true; rw [h6]; rfl) rfl (st_move (v := .slice none 0 0) rfl rfl ?_)
        refine ar_gd (d := (some 111)) (by show ((decide (((near0 (hRay x)).1) ≥ 0)) == true) = true; rw [h6]; rfl) rfl (st_ln (a := none) (m := 0) (c := 0) rfl Try.underlying74 rfl ?_)
        refine ar_gd (d := (some 112)) (by show ((decide (((near0 (hRay x)).1) ≥ 0)) == true) = true; rw [h6]; rfl) rfl (st_bi (u := .int .i64 ((near0 (hRay x)).1)) (v := .int .i64 0) (r := .bool (decide (((near0 (hRay x)).1) < 0))) rfl rfl rfl (bi_lss rfl) ?_)
        refine ar_gd (d := (some 113)) (by show ((((near0 (hRay x)).2.2) != 1) == false) = true; rw [h4]; rfl) rfl (st_pkt' (b := decide (((near0 (hRay x)).1) ≥ 0)) (v := .bool (decide (((near0 (hRay x)).1) < 0))) h6 rfl rfl rfl ?_)
        refine ar_gd (d := (some 114)) rfl rfl (st_pkf' (b := ((near0 (hRay x)).2.2) != 1) (v := .bool (decide (((near0 (hRay x)).1) < 0))) h4 rfl rfl rfl ?_)
        refine ao 115 rfl rfl (st_pkt (v := .bool (decide (((near0 (hRay x)).1) < 0))) rfl rfl rfl ?_)
        refine ao 8 rfl rfl (st_assign (v := .bool (decide (((near0 (hRay x)).1) < 0))) rfl rfl ?_)
        refine ar_nil ?_
        refine ac_ret ?_
        exact fin_eq (v := .bool (decide (((near0 (hRay x)).1) < 0))) (congrArg Value.bool (show (decide (((near0 (hRay x)).1) < 0)) = true from (show (lawSceneLess l x m n) = _ from (eT h1 (eT h2 (eT h3 (eF h4 (eT h5 (eT h6 rfl))))))).symm.trans H)) (fin_ret (res_tmp rfl rfl))
    · refine ar_gd (d := (some 87)) (by show ((((near0 (hRay x)).2.2) == 0) == false) = true; rw [h3]; rfl) rfl (st_move (v := .int .i64 ((near0 (hInRay (hRay x) m n)).2.2)) rfl rfl ?_)
      refine ar_gd (d := (some 88)) (by show ((((near0 (hRay x)).2.2) == 0) == false) = true; rw [h3]; rfl) rfl (st_move (v := .int .i64 ((near0 (hRay x)).2.2)) rfl rfl ?_)
      refine ar_gd (d := (some 89)) (by show ((((near0 (hRay x)).2.2) == 0) == false) = true; rw [h3]; rfl) rfl (st_bi (u := .int .i64 ((near0 (hInRay (hRay x) m n)).2.2)) (v := .int .i64 ((near0 (hRay x)).2.2)) (r := .bool (((near0 (hInRay (hRay x) m n)).2.2) == ((near0 (hRay x)).2.2))) rfl rfl rfl (bi_eql rfl) ?_)
      refine ar_gd (d := (some 90)) (by show ((((near0 (hRay x)).2.2) == 0) == false) = true; rw [h3]; rfl) rfl (st_move (v := .bool (((near0 (hInRay (hRay x) m n)).2.2) == ((near0 (hRay x)).2.2))) rfl rfl ?_)
      refine bool_split (((near0 (hInRay (hRay x) m n)).2.2) == ((near0 (hRay x)).2.2)) (fun h4 => ?_) (fun h4 => nomatch (show false = true from (show (lawSceneLess l x m n) = _ from (eT h1 (eT h2 (eF h3 (eF h4 rfl))))).symm.trans H))
      refine ar_gd (d := (some 91)) (by show ((((near0 (hInRay (hRay x) m n)).2.2) == ((near0 (hRay x)).2.2)) == true) = true; rw [h4]; rfl) rfl (st_move (v := .int .i64 ((near0 (hInRay (hRay x) m n)).1)) rfl rfl ?_)
      refine ar_gd (d := (some 92)) (by show ((((near0 (hInRay (hRay x) m n)).2.2) == ((near0 (hRay x)).2.2)) == true) = true; rw [h4]; rfl) rfl (st_move (v := .int .i64 ((near0 (hRay x)).1)) rfl rfl ?_)
      refine ar_gd (d := (some 93)) (by show ((((near0 (hInRay (hRay x) m n)).2.2) == ((near0 (hRay x)).2.2)) == true) = true; rw [h4]; rfl) rfl (st_bi (u := .int .i64 ((near0 (hInRay (hRay x) m n)).1)) (v := .int .i64 ((near0 (hRay x)).1)) (r := .bool (((near0 (hInRay (hRay x) m n)).1) == ((near0 (hRay x)).1))) rfl rfl rfl (bi_eql rfl) ?_)
      refine ar_gd (d := (some 94)) (by show ((((near0 (hRay x)).2.2) == 0) == false) = true; rw [h3]; rfl) rfl (st_pkt' (b := ((near0 (hInRay (hRay x) m n)).2.2) == ((near0 (hRay x)).2.2)) (v := .bool (((near0 (hInRay (hRay x) m n)).1) == ((near0 (hRay x)).1))) h4 rfl rfl rfl ?_)
      refine ar_gd (d := (some 95)) (by show (known26 == true) = true; rw [h2]; rfl) rfl (st_pkf' (b := ((near0 (hRay x)).2.2) == 0) (v := .bool (((near0 (hInRay (hRay x) m n)).1) == ((near0 (hRay x)).1))) h3 rfl rfl rfl ?_)
      refine ao 96 rfl rfl (st_pkt' (b := known26) (v := .bool (((near0 (hInRay (hRay x) m n)).1) == ((near0 (hRay x)).1))) h2 rfl rfl rfl ?_)
      refine ao 97 rfl rfl (st_move (v := .bool (((near0 (hInRay (hRay x) m n)).1) == ((near0 (hRay x)).1))) rfl rfl ?_)
      refine bool_split (((near0 (hInRay (hRay x) m n)).1) == ((near0 (hRay x)).1)) (fun h5 => ?_) (fun h5 => nomatch (show false = true from (show (lawSceneLess l x m n) = _ from (eT h1 (eT h2 (eF h3 (eT h4 (eF h5 rfl)))))).symm.trans H))
      refine ar_gd (d := (some 98)) (by show ((((near0 (hInRay (hRay x) m n)).1) == ((near0 (hRay x)).1)) == true) = true; rw [h5]; rfl) rfl (st_move (v := .int .i64 ((near0 (hRay x)).2.2)) rfl rfl ?_)
      refine ar_gd (d := (some 99)) (by show ((((near0 (hInRay (hRay x) m n)).1) == ((near0 (hRay x)).1)) == true) = true; rw [h5]; rfl) rfl (st_bi (u := .int .i64 ((near0 (hRay x)).2.2)) (v := .int .i64 1) (r := .bool (((near0 (hRay x)).2.2) != 1)) rfl rfl rfl (bi_neq rfl) ?_)
      refine ar_gd (d := (some 100)) (by show ((((near0 (hInRay (hRay x) m n)).1) == ((near0 (hRay x)).1)) == true) = true; rw [h5]; rfl) rfl (st_move (v := .bool (((near0 (hRay x)).2.2) != 1)) rfl rfl ?_)
      refine bool_split (((near0 (hRay x)).2.2) != 1) (fun h6 => ?_) (fun h6 => ?_)
      · refine ar_sk (d := (some 101)) (by show ((((near0 (hRay x)).2.2) != 1) == false) = false; rw [h6]; rfl) rfl ?_
        refine ar_sk (d := (some 102)) (by show ((((near0 (hRay x)).2.2) != 1) == false) = false; rw [h6]; rfl) rfl ?_
        refine ar_sk (d := (some 103)) (by show ((((near0 (hRay x)).2.2) != 1) == false) = false; rw [h6]; rfl) rfl ?_
        refine ar_sk (d := (some 104)) (by show ((((near0 (hRay x)).2.2) != 1) == false) = false; rw [h6]; rfl) rfl ?_
        refine ar_sk (d := (some 105)) rfl rfl ?_
        refine ar_sk (d := (some 106)) rfl rfl ?_
        refine ar_sk (d := (some 107)) (by show ((((near0 (hRay x)).2.2) != 1) == false) = false; rw [h6]; rfl) rfl ?_
        refine ar_sk (d := (some 108)) (by show ((((near0 (hRay x)).2.2) != 1) == false) = false; rw [h6]; rfl) rfl ?_
        refine ar_sk (d := (some 109)) rfl rfl ?_
        refine ar_sk (d := (some 110)) rfl rfl ?_
        refine ar_sk (d := (some 111)) rfl rfl ?_
        refine ar_sk (d := (some 112)) rfl rfl ?_
        refine ar_sk (d := (some 113)) (by show ((((near0 (hRay x)).2.2) != 1) == false) = false; rw [h6]; rfl) rfl ?_
        refine ar_gd (d := (some 114)) (by show ((((near0 (hInRay (hRay x) m n)).1) == ((near0 (hRay x)).1)) == true) = true; rw [h5]; rfl) rfl (st_pkt' (b := ((near0 (hRay x)).2.2) != 1) (v := .bool true) h6 rfl rfl rfl ?_)
        refine ao 115 rfl rfl (st_pkt' (b := ((near0 (hInRay (hRay x) m n)).1) == ((near0 (hRay x)).1)) (v := .bool true) h5 rfl rfl rfl ?_)
        refine ao 8 rfl rfl (st_assign (v := .bool true) rfl rfl ?_)
        refine ar_nil ?_
        refine ac_ret ?_
        exact fin_eq (by first | rfl | (rw [h6, h5, h4, h3, h2, h1] <;> rfl)) (fin_ret (res_tmp rfl rfl))
      · refine ar_gd (d := (some 101)) (by show ((((near0 (hRay x)).2.2) != 1) == false) = true; rw [h6]; rfl) rfl (st_lda (g := g4) (off := 0) (vs := [.int .i64 (((near0 (hInRay (hRay x) m n)).2.1).lo), .int .i64 (((near0 (hInRay (hRay x) m n)).2.1).hi), .bool (((near0 (hInRay (hRay x) m n)).2.1).no)]) agg26 0 rfl rfl rfl rfl rfl rfl ?_)
        refine ar_gd (d := (some 102)) (by show ((((near0 (hRay x)).2.2) != 1) == false) = true; rw [h6]; rfl) rfl (st_lda (g := g3) (off := 0) (vs := [.int .i64 (((near0 (hRay x)).2.1).lo), .int .i64 (((near0 (hRay x)).2.1).hi), .bool (((near0 (hRay x)).2.1).no)]) agg26 1 rfl rfl rfl rfl rfl rfl ?_)
        refine ar_gd (d := (some 103)) (by show ((((near0 (hRay x)).2.2) != 1) == false) = true; rw [h6]; rfl) rfl (st_cf (vs := [.agg #[.int .i64 (((near0 (hInRay (hRay x) m n)).2.1).lo), .int .i64 (((near0 (hInRay (hRay x) m n)).2.1).hi), .bool (((near0 (hInRay (hRay x) m n)).2.1).no)], .agg #[.int .i64 (((near0 (hRay x)).2.1).lo), .int .i64 (((near0 (hRay x)).2.1).hi), .bool (((near0 (hRay x)).2.1).no)]]) (r := .bool (lawSceneLess_e0 l x m n)) (c_ivInside ((near0 (hInRay (hRay x) m n)).2.1) ((near0 (hRay x)).2.1)) Try.func26 rfl (by decide) rfl rfl rfl ?_)
        refine ar_gd (d := (some 104)) (by show ((((near0 (hRay x)).2.2) != 1) == false) = true; rw [h6]; rfl) rfl (st_move (v := .bool (lawSceneLess_e0 l x m n)) rfl rfl ?_)
        refine bool_split (lawSceneLess_e0 l x m n) (fun h7 => ?_) (fun h7 => nomatch (show false = true from (show (lawSceneLess l x m n) = _ from (eT h1 (eT h2 (eF h3 (eT h4 (eT h5 (eF h6 (eF h7 rfl)))))))).symm.trans H))
        refine ar_gd (d := (some 105)) (by show ((lawSceneLess_e0 l x m n) == true) = true; rw [h7]; rfl) rfl (st_move (v := .int .i64 ((near0 (hRay x)).1)) rfl rfl ?_)
        refine ar_gd (d := (some 106)) (by show ((lawSceneLess_e0 l x m n) == true) = true; rw [h7]; rfl) rfl (st_bi (u := .int .i64 ((near0 (hRay x)).1)) (v := .int .i64 0) (r := .bool (decide (((near0 (hRay x)).1) ≥ 0))) rfl rfl rfl (bi_geq rfl) ?_)
        refine ar_gd (d := (some 107)) (by show ((((near0 (hRay x)).2.2) != 1) == false) = true; rw [h6]; rfl) rfl (st_pkt' (b := lawSceneLess_e0 l x m n) (v := .bool (decide (((near0 (hRay x)).1) ≥ 0))) h7 rfl rfl rfl ?_)
        refine ar_gd (d := (some 108)) (by show ((((near0 (hRay x)).2.2) != 1) == false) = true; rw [h6]; rfl) rfl (st_move (v := .bool (decide (((near0 (hRay x)).1) ≥ 0))) rfl rfl ?_)
        refine bool_split (decide (((near0 (hRay x)).1) ≥ 0)) (fun h8 => ?_) (fun h8 => nomatch (show false = true from (show (lawSceneLess l x m n) = _ from (eT h1 (eT h2 (eF h3 (eT h4 (eT h5 (eF h6 (eT h7 (eF h8 rfl))))))))).symm.trans H))
        refine ar_gd (d := (some 109)) (by show ((decide (((near0 (hRay x)).1) ≥ 0)) == true) = true; rw [h8]; rfl) rfl (st_move (v := .int .i64 ((near0 (hRay x)).1)) rfl rfl ?_)
        refine ar_gd (d := (some 110)) (by show ((decide (((near0 (hRay x)).1) ≥ 0)) == true) = true; rw [h8]; rfl) rfl (st_move (v := .slice none 0 0) rfl rfl ?_)
        refine ar_gd (d := (some 111)) (by show ((decide (((near0 (hRay x)).1) ≥ 0)) == true) = true; rw [h8]; rfl) rfl (st_ln (a := none) (m := 0) (c := 0) rfl Try.underlying74 rfl ?_)
        refine ar_gd (d := (some 112)) (by show ((decide (((near0 (hRay x)).1) ≥ 0)) == true) = true; rw [h8]; rfl) rfl (st_bi (u := .int .i64 ((near0 (hRay x)).1)) (v := .int .i64 0) (r := .bool (decide (((near0 (hRay x)).1) < 0))) rfl rfl rfl (bi_lss rfl) ?_)
        refine ar_gd (d := (some 113)) (by show ((((near0 (hRay x)).2.2) != 1) == false) = true; rw [h6]; rfl) rfl (st_pkt' (b := decide (((near0 (hRay x)).1) ≥ 0)) (v := .bool (decide (((near0 (hRay x)).1) < 0))) h8 rfl rfl rfl ?_)
        refine ar_gd (d := (some 114)) (by show ((((near0 (hInRay (hRay x) m n)).1) == ((near0 (hRay x)).1)) == true) = true; rw [h5]; rfl) rfl (st_pkf' (b := ((near0 (hRay x)).2.2) != 1) (v := .bool (decide (((near0 (hRay x)).1) < 0))) h6 rfl rfl rfl ?_)
        refine ao 115 rfl rfl (st_pkt' (b := ((near0 (hInRay (hRay x) m n)).1) == ((near0 (hRay x)).1)) (v := .bool (decide (((near0 (hRay x)).1) < 0))) h5 rfl rfl rfl ?_)
        refine ao 8 rfl rfl (st_assign (v := .bool (decide (((near0 (hRay x)).1) < 0))) rfl rfl ?_)
        refine ar_nil ?_
        refine ac_ret ?_
        exact fin_eq (v := .bool (decide (((near0 (hRay x)).1) < 0))) (congrArg Value.bool (show (decide (((near0 (hRay x)).1) < 0)) = true from (show (lawSceneLess l x m n) = _ from (eT h1 (eT h2 (eF h3 (eT h4 (eT h5 (eF h6 (eT h7 (eT h8 rfl))))))))).symm.trans H)) (fin_ret (res_tmp rfl rfl))
  · refine ao 25 rfl rfl (st_gv (vs := [.slice (some ⟨b, off, none⟩) l.length cap]) (R := [⟨b, cs, ty, true⟩]) (c_hSceneP l b off cap ty cs hcs h1) Try.func55 rfl (by decide) rfl rfl rfl (has_cons 1 _ rfl rfl rfl rfl has_nil) (by simp) fun v9 N9 R9 => ?_)
    obtain ⟨g1, cg1, rg1, rfl, rfl⟩ := R9
    refine ao 9 rfl rfl (st_assign (v := .slice (some ⟨g1, 0, none⟩) ((hScene l).length) cg1) rfl rfl ?_)
    refine ar_nil ?_
    refine ac_seq ?_
    refine ac_region_lit ?_
    refine ao 26 rfl rfl (st_lda (g := g0) (off := 0) (vs := [.int .i64 x.x, .int .i64 x.y, .int .i64 x.u, .int .i64 x.w, .int .i64 x.wide, .int .i64 x.lean]) agg73 1 rfl rfl rfl rfl rfl rfl ?_)
    refine ao 27 rfl rfl (st_cf (vs := [.agg #[.int .i64 x.x, .int .i64 x.y, .int .i64 x.u, .int .i64 x.w, .int .i64 x.wide, .int .i64 x.lean]]) (r := .agg #[.int .i64 ((((hRay x).o).x).lo), .int .i64 ((((hRay x).o).x).hi), .bool ((((hRay x).o).x).no), .int .i64 ((((hRay x).o).y).lo), .int .i64 ((((hRay x).o).y).hi), .bool ((((hRay x).o).y).no), .int .i64 ((((hRay x).o).z).lo), .int .i64 ((((hRay x).o).z).hi), .bool ((((hRay x).o).z).no), .int .i64 ((((hRay x).d).x).lo), .int .i64 ((((hRay x).d).x).hi), .bool ((((hRay x).d).x).no), .int .i64 ((((hRay x).d).y).lo), .int .i64 ((((hRay x).d).y).hi), .bool ((((hRay x).d).y).no), .int .i64 ((((hRay x).d).z).lo), .int .i64 ((((hRay x).d).z).hi), .bool ((((hRay x).d).z).no)]) (c_hRay x) Try.func56 rfl (by decide) rfl rfl rfl ?_)
    refine ao 10 rfl rfl (st_new zero77 rfl fun g2 => ?_)
    refine ar_op (d := none) rfl rfl (st_sta (g := g2) (off := 0) (us := [.int .i64 ((((hRay x).o).x).lo), .int .i64 ((((hRay x).o).x).hi), .bool ((((hRay x).o).x).no), .int .i64 ((((hRay x).o).y).lo), .int .i64 ((((hRay x).o).y).hi), .bool ((((hRay x).o).y).no), .int .i64 ((((hRay x).o).z).lo), .int .i64 ((((hRay x).o).z).hi), .bool ((((hRay x).o).z).no), .int .i64 ((((hRay x).d).x).lo), .int .i64 ((((hRay x).d).x).hi), .bool ((((hRay x).d).x).no), .int .i64 ((((hRay x).d).y).lo), .int .i64 ((((hRay x).d).y).hi), .bool ((((hRay x).d).y).no), .int .i64 ((((hRay x).d).z).lo), .int .i64 ((((hRay x).d).z).hi), .bool ((((hRay x).d).z).no)]) (cs := [.int .i64 ((((hRay x).o).x).lo), .int .i64 ((((hRay x).o).x).hi), .bool ((((hRay x).o).x).no), .int .i64 ((((hRay x).o).y).lo), .int .i64 ((((hRay x).o).y).hi), .bool ((((hRay x).o).y).no), .int .i64 ((((hRay x).o).z).lo), .int .i64 ((((hRay x).o).z).hi), .bool ((((hRay x).o).z).no), .int .i64 ((((hRay x).d).x).lo), .int .i64 ((((hRay x).d).x).hi), .bool ((((hRay x).d).x).no), .int .i64 ((((hRay x).d).y).lo), .int .i64 ((((hRay x).d).y).hi), .bool ((((hRay x).d).y).no), .int .i64 ((((hRay x).d).z).lo), .int .i64 ((((hRay x).d).z).hi), .bool ((((hRay x).d).z).no)]) agg77 0 rfl rfl rfl rfl rfl rfl rfl rfl rfl ?_)
    refine ar_nil ?_
    refine ac_seq ?_
    refine ac_region_lit ?_
    refine ao 28 rfl rfl (st_lda (g := g2) (off := 0) (vs := [.int .i64 ((((hRay x).o).x).lo), .int .i64 ((((hRay x).o).x).hi), .bool ((((hRay x).o).x).no), .int .i64 ((((hRay x).o).y).lo), .int .i64 ((((hRay x).o).y).hi), .bool ((((hRay x).o).y).no), .int .i64 ((((hRay x).o).z).lo), .int .i64 ((((hRay x).o).z).hi), .bool ((((hRay x).o).z).no), .int .i64 ((((hRay x).d).x).lo), .int .i64 ((((hRay x).d).x).hi), .bool ((((hRay x).d).x).no), .int .i64 ((((hRay x).d).y).lo), .int .i64 ((((hRay x).d).y).hi), .bool ((((hRay x).d).y).no), .int .i64 ((((hRay x).d).z).lo), .int .i64 ((((hRay x).d).z).hi), .bool ((((hRay x).d).z).no)]) agg77 0 rfl rfl rfl rfl rfl rfl ?_)
    refine ao 29 rfl rfl (st_move (v := .int .i64 m) rfl rfl ?_)
    refine ao 30 rfl rfl (st_move (v := .int .i64 n) rfl rfl ?_)
    refine ao 31 rfl rfl (st_cf (vs := [.agg #[.int .i64 ((((hRay x).o).x).lo), .int .i64 ((((hRay x).o).x).hi), .bool ((((hRay x).o).x).no), .int .i64 ((((hRay x).o).y).lo), .int .i64 ((((hRay x).o).y).hi), .bool ((((hRay x).o).y).no), .int .i64 ((((hRay x).o).z).lo), .int .i64 ((((hRay x).o).z).hi), .bool ((((hRay x).o).z).no), .int .i64 ((((hRay x).d).x).lo), .int .i64 ((((hRay x).d).x).hi), .bool ((((hRay x).d).x).no), .int .i64 ((((hRay x).d).y).lo), .int .i64 ((((hRay x).d).y).hi), .bool ((((hRay x).d).y).no), .int .i64 ((((hRay x).d).z).lo), .int .i64 ((((hRay x).d).z).hi), .bool ((((hRay x).d).z).no)], .int .i64 m, .int .i64 n]) (r := .agg #[.int .i64 ((((hInRay (hRay x) m n).o).x).lo), .int .i64 ((((hInRay (hRay x) m n).o).x).hi), .bool ((((hInRay (hRay x) m n).o).x).no), .int .i64 ((((hInRay (hRay x) m n).o).y).lo), .int .i64 ((((hInRay (hRay x) m n).o).y).hi), .bool ((((hInRay (hRay x) m n).o).y).no), .int .i64 ((((hInRay (hRay x) m n).o).z).lo), .int .i64 ((((hInRay (hRay x) m n).o).z).hi), .bool ((((hInRay (hRay x) m n).o).z).no), .int .i64 ((((hInRay (hRay x) m n).d).x).lo), .int .i64 ((((hInRay (hRay x) m n).d).x).hi), .bool ((((hInRay (hRay x) m n).d).x).no), .int .i64 ((((hInRay (hRay x) m n).d).y).lo), .int .i64 ((((hInRay (hRay x) m n).d).y).hi), .bool ((((hInRay (hRay x) m n).d).y).no), .int .i64 ((((hInRay (hRay x) m n).d).z).lo), .int .i64 ((((hInRay (hRay x) m n).d).z).hi), .bool ((((hInRay (hRay x) m n).d).z).no)]) (c_hInRay (hRay x) m n) Try.func62 rfl (by decide) rfl rfl rfl ?_)
    refine ao 11 rfl rfl (st_new zero77 rfl fun g3 => ?_)
    refine ar_op (d := none) rfl rfl (st_sta (g := g3) (off := 0) (us := [.int .i64 ((((hInRay (hRay x) m n).o).x).lo), .int .i64 ((((hInRay (hRay x) m n).o).x).hi), .bool ((((hInRay (hRay x) m n).o).x).no), .int .i64 ((((hInRay (hRay x) m n).o).y).lo), .int .i64 ((((hInRay (hRay x) m n).o).y).hi), .bool ((((hInRay (hRay x) m n).o).y).no), .int .i64 ((((hInRay (hRay x) m n).o).z).lo), .int .i64 ((((hInRay (hRay x) m n).o).z).hi), .bool ((((hInRay (hRay x) m n).o).z).no), .int .i64 ((((hInRay (hRay x) m n).d).x).lo), .int .i64 ((((hInRay (hRay x) m n).d).x).hi), .bool ((((hInRay (hRay x) m n).d).x).no), .int .i64 ((((hInRay (hRay x) m n).d).y).lo), .int .i64 ((((hInRay (hRay x) m n).d).y).hi), .bool ((((hInRay (hRay x) m n).d).y).no), .int .i64 ((((hInRay (hRay x) m n).d).z).lo), .int .i64 ((((hInRay (hRay x) m n).d).z).hi), .bool ((((hInRay (hRay x) m n).d).z).no)]) (cs := [.int .i64 ((((hInRay (hRay x) m n).o).x).lo), .int .i64 ((((hInRay (hRay x) m n).o).x).hi), .bool ((((hInRay (hRay x) m n).o).x).no), .int .i64 ((((hInRay (hRay x) m n).o).y).lo), .int .i64 ((((hInRay (hRay x) m n).o).y).hi), .bool ((((hInRay (hRay x) m n).o).y).no), .int .i64 ((((hInRay (hRay x) m n).o).z).lo), .int .i64 ((((hInRay (hRay x) m n).o).z).hi), .bool ((((hInRay (hRay x) m n).o).z).no), .int .i64 ((((hInRay (hRay x) m n).d).x).lo), .int .i64 ((((hInRay (hRay x) m n).d).x).hi), .bool ((((hInRay (hRay x) m n).d).x).no), .int .i64 ((((hInRay (hRay x) m n).d).y).lo), .int .i64 ((((hInRay (hRay x) m n).d).y).hi), .bool ((((hInRay (hRay x) m n).d).y).no), .int .i64 ((((hInRay (hRay x) m n).d).z).lo), .int .i64 ((((hInRay (hRay x) m n).d).z).hi), .bool ((((hInRay (hRay x) m n).d).z).no)]) agg77 0 rfl rfl rfl rfl rfl rfl rfl rfl rfl ?_)
    refine ar_nil ?_
    refine ac_seq ?_
    refine ac_seq ?_
    refine ac_region_lit ?_
    refine ao 32 rfl rfl (st_move (v := .slice (some ⟨g1, 0, none⟩) ((hScene l).length) cg1) rfl rfl ?_)
    refine ao 33 rfl rfl (st_ln (a := some ⟨g1, 0, none⟩) (m := (hScene l).length) (c := cg1) rfl Try.underlying74 rfl ?_)
    refine ao 34 rfl rfl (st_move (v := .int .i64 0) rfl rfl ?_)
    refine ar_nil ?_
    refine ac_block ?_
    refine bool_split ((hScene l).all (lessRound (hRay x) (hInRay (hRay x) m n))) (fun h2 => ?_) (fun h2 => nomatch (show false = true from (show (lawSceneLess l x m n) = _ from (eF h1 (eF h2 rfl))).symm.trans H))
    refine ac_drop (H := [⟨g3, rayC (hInRay (hRay x) m n), 77, false⟩, ⟨g2, rayC (hRay x), 77, false⟩, ⟨g1, (flatS (hScene l) ++ rg1), 86, false⟩]) (List.Sublist.cons_cons _ (List.Sublist.cons_cons _ (List.Sublist.cons_cons _ (List.Sublist.cons _ (List.Sublist.cons _ List.Sublist.slnil))))) ?_
    refine ac_rounds ((hScene l).length + 1) ?_
    refine less_loop g2 g3 g1 (hScene l).length cg1 (flatS (hScene l) ++ rg1) (hRay x) (hInRay (hRay x) m n) rfl (hScene_le _) (hScene l) 0 _ (by omega) (fun j s h => by rw [Nat.zero_add, Nat.zero_add]; exact flatS_at _ _ j s h) h2 rfl rfl rfl rfl rfl rfl rfl ?_
    intro E' f8 f9 f10 f11 f32 f33 f34
    obtain ⟨E0, rfl⟩ : ∃ E0 : Env, E' = ((((E0.put (some 8) (.bool false)).put (some 9) (.slice (some ⟨g1, 0, none⟩) ((hScene l).length) cg1)).put (some 10) (.pointer (some ⟨g2, 0, none⟩))).put (some 11) (.pointer (some ⟨g3, 0, none⟩))) := ⟨E', by rw [put_self f8, put_self f9, put_self f10, put_self f11]⟩
    refine ac_seq ?_
    refine ac_region_lit ?_
    refine ao 69 rfl rfl (st_move (v := .slice (some ⟨g1, 0, none⟩) ((hScene l).length) cg1) rfl rfl ?_)
    refine ao 70 rfl rfl (st_lda (g := g2) (off := 0) (vs := [.int .i64 ((((hRay x).o).x).lo), .int .i64 ((((hRay x).o).x).hi), .bool ((((hRay x).o).x).no), .int .i64 ((((hRay x).o).y).lo), .int .i64 ((((hRay x).o).y).hi), .bool ((((hRay x).o).y).no), .int .i64 ((((hRay x).o).z).lo), .int .i64 ((((hRay x).o).z).hi), .bool ((((hRay x).o).z).no), .int .i64 ((((hRay x).d).x).lo), .int .i64 ((((hRay x).d).x).hi), .bool ((((hRay x).d).x).no), .int .i64 ((((hRay x).d).y).lo), .int .i64 ((((hRay x).d).y).hi), .bool ((((hRay x).d).y).no), .int .i64 ((((hRay x).d).z).lo), .int .i64 ((((hRay x).d).z).hi), .bool ((((hRay x).d).z).no)]) agg77 1 rfl rfl rfl rfl rfl rfl ?_)
    refine ao 71 rfl rfl (st_gr (vs := [.slice (some ⟨g1, 0, none⟩) ((hScene l).length) cg1, .agg #[.int .i64 ((((hRay x).o).x).lo), .int .i64 ((((hRay x).o).x).hi), .bool ((((hRay x).o).x).no), .int .i64 ((((hRay x).o).y).lo), .int .i64 ((((hRay x).o).y).hi), .bool ((((hRay x).o).y).no), .int .i64 ((((hRay x).o).z).lo), .int .i64 ((((hRay x).o).z).hi), .bool ((((hRay x).o).z).no), .int .i64 ((((hRay x).d).x).lo), .int .i64 ((((hRay x).d).x).hi), .bool ((((hRay x).d).x).no), .int .i64 ((((hRay x).d).y).lo), .int .i64 ((((hRay x).d).y).hi), .bool ((((hRay x).d).y).no), .int .i64 ((((hRay x).d).z).lo), .int .i64 ((((hRay x).d).z).hi), .bool ((((hRay x).d).z).no)]]) (R := [⟨g1, (flatS (hScene l) ++ rg1), 86, true⟩]) (r := .tuple #[.int .i64 ((sNear (hScene l) (hRay x)).1), .agg #[.int .i64 (((sNear (hScene l) (hRay x)).2.1).lo), .int .i64 (((sNear (hScene l) (hRay x)).2.1).hi), .bool (((sNear (hScene l) (hRay x)).2.1).no)], .int .i64 ((sNear (hScene l) (hRay x)).2.2)]) (c_nearF (hScene l) (hRay x) g1 cg1 rg1 (hScene_le _)) Try.func57 rfl (by decide) rfl rfl rfl (has_cons 2 _ rfl rfl rfl rfl has_nil) (by simp) ?_)
    refine ao 68 rfl rfl (st_move (v := .tuple #[.int .i64 ((sNear (hScene l) (hRay x)).1), .agg #[.int .i64 (((sNear (hScene l) (hRay x)).2.1).lo), .int .i64 (((sNear (hScene l) (hRay x)).2.1).hi), .bool (((sNear (hScene l) (hRay x)).2.1).no)], .int .i64 ((sNear (hScene l) (hRay x)).2.2)]) rfl rfl ?_)
    refine ao 72 rfl rfl (st_ex (vs := [.int .i64 ((sNear (hScene l) (hRay x)).1), .agg #[.int .i64 (((sNear (hScene l) (hRay x)).2.1).lo), .int .i64 (((sNear (hScene l) (hRay x)).2.1).hi), .bool (((sNear (hScene l) (hRay x)).2.1).no)], .int .i64 ((sNear (hScene l) (hRay x)).2.2)]) (v := .int .i64 ((sNear (hScene l) (hRay x)).1)) rfl rfl rfl ?_)
    refine ao 73 rfl rfl (st_ex (vs := [.int .i64 ((sNear (hScene l) (hRay x)).1), .agg #[.int .i64 (((sNear (hScene l) (hRay x)).2.1).lo), .int .i64 (((sNear (hScene l) (hRay x)).2.1).hi), .bool (((sNear (hScene l) (hRay x)).2.1).no)], .int .i64 ((sNear (hScene l) (hRay x)).2.2)]) (v := .agg #[.int .i64 (((sNear (hScene l) (hRay x)).2.1).lo), .int .i64 (((sNear (hScene l) (hRay x)).2.1).hi), .bool (((sNear (hScene l) (hRay x)).2.1).no)]) rfl rfl rfl ?_)
    refine ao 74 rfl rfl (st_ex (vs := [.int .i64 ((sNear (hScene l) (hRay x)).1), .agg #[.int .i64 (((sNear (hScene l) (hRay x)).2.1).lo), .int .i64 (((sNear (hScene l) (hRay x)).2.1).hi), .bool (((sNear (hScene l) (hRay x)).2.1).no)], .int .i64 ((sNear (hScene l) (hRay x)).2.2)]) (v := .int .i64 ((sNear (hScene l) (hRay x)).2.2)) rfl rfl rfl ?_)
    refine ao 19 rfl rfl (st_new zero26 rfl fun g4 => ?_)
    refine ao 18 rfl rfl (st_assign (v := .int .i64 ((sNear (hScene l) (hRay x)).1)) rfl rfl ?_)
    refine ar_op (d := none) rfl rfl (st_sta (g := g4) (off := 0) (us := [.int .i64 (((sNear (hScene l) (hRay x)).2.1).lo), .int .i64 (((sNear (hScene l) (hRay x)).2.1).hi), .bool (((sNear (hScene l) (hRay x)).2.1).no)]) (cs := [.int .i64 (((sNear (hScene l) (hRay x)).2.1).lo), .int .i64 (((sNear (hScene l) (hRay x)).2.1).hi), .bool (((sNear (hScene l) (hRay x)).2.1).no)]) agg26 0 rfl rfl rfl rfl rfl rfl rfl rfl rfl ?_)
    refine ao 20 rfl rfl (st_assign (v := .int .i64 ((sNear (hScene l) (hRay x)).2.2)) rfl rfl ?_)
    refine ar_nil ?_
    refine ac_seq ?_
    refine ac_region_lit ?_
    refine ao 76 rfl rfl (st_move (v := .slice (some ⟨g1, 0, none⟩) ((hScene l).length) cg1) rfl rfl ?_)
    refine ao 77 rfl rfl (st_lda (g := g3) (off := 0) (vs := [.int .i64 ((((hInRay (hRay x) m n).o).x).lo), .int .i64 ((((hInRay (hRay x) m n).o).x).hi), .bool ((((hInRay (hRay x) m n).o).x).no), .int .i64 ((((hInRay (hRay x) m n).o).y).lo), .int .i64 ((((hInRay (hRay x) m n).o).y).hi), .bool ((((hInRay (hRay x) m n).o).y).no), .int .i64 ((((hInRay (hRay x) m n).o).z).lo), .int .i64 ((((hInRay (hRay x) m n).o).z).hi), .bool ((((hInRay (hRay x) m n).o).z).no), .int .i64 ((((hInRay (hRay x) m n).d).x).lo), .int .i64 ((((hInRay (hRay x) m n).d).x).hi), .bool ((((hInRay (hRay x) m n).d).x).no), .int .i64 ((((hInRay (hRay x) m n).d).y).lo), .int .i64 ((((hInRay (hRay x) m n).d).y).hi), .bool ((((hInRay (hRay x) m n).d).y).no), .int .i64 ((((hInRay (hRay x) m n).d).z).lo), .int .i64 ((((hInRay (hRay x) m n).d).z).hi), .bool ((((hInRay (hRay x) m n).d).z).no)]) agg77 1 rfl rfl rfl rfl rfl rfl ?_)
    refine ao 78 rfl rfl (st_gr (vs := [.slice (some ⟨g1, 0, none⟩) ((hScene l).length) cg1, .agg #[.int .i64 ((((hInRay (hRay x) m n).o).x).lo), .int .i64 ((((hInRay (hRay x) m n).o).x).hi), .bool ((((hInRay (hRay x) m n).o).x).no), .int .i64 ((((hInRay (hRay x) m n).o).y).lo), .int .i64 ((((hInRay (hRay x) m n).o).y).hi), .bool ((((hInRay (hRay x) m n).o).y).no), .int .i64 ((((hInRay (hRay x) m n).o).z).lo), .int .i64 ((((hInRay (hRay x) m n).o).z).hi), .bool ((((hInRay (hRay x) m n).o).z).no), .int .i64 ((((hInRay (hRay x) m n).d).x).lo), .int .i64 ((((hInRay (hRay x) m n).d).x).hi), .bool ((((hInRay (hRay x) m n).d).x).no), .int .i64 ((((hInRay (hRay x) m n).d).y).lo), .int .i64 ((((hInRay (hRay x) m n).d).y).hi), .bool ((((hInRay (hRay x) m n).d).y).no), .int .i64 ((((hInRay (hRay x) m n).d).z).lo), .int .i64 ((((hInRay (hRay x) m n).d).z).hi), .bool ((((hInRay (hRay x) m n).d).z).no)]]) (R := [⟨g1, (flatS (hScene l) ++ rg1), 86, true⟩]) (r := .tuple #[.int .i64 ((sNear (hScene l) (hInRay (hRay x) m n)).1), .agg #[.int .i64 (((sNear (hScene l) (hInRay (hRay x) m n)).2.1).lo), .int .i64 (((sNear (hScene l) (hInRay (hRay x) m n)).2.1).hi), .bool (((sNear (hScene l) (hInRay (hRay x) m n)).2.1).no)], .int .i64 ((sNear (hScene l) (hInRay (hRay x) m n)).2.2)]) (c_nearF (hScene l) (hInRay (hRay x) m n) g1 cg1 rg1 (hScene_le _)) Try.func57 rfl (by decide) rfl rfl rfl (has_cons 3 _ rfl rfl rfl rfl has_nil) (by simp) ?_)
    refine ao 75 rfl rfl (st_move (v := .tuple #[.int .i64 ((sNear (hScene l) (hInRay (hRay x) m n)).1), .agg #[.int .i64 (((sNear (hScene l) (hInRay (hRay x) m n)).2.1).lo), .int .i64 (((sNear (hScene l) (hInRay (hRay x) m n)).2.1).hi), .bool (((sNear (hScene l) (hInRay (hRay x) m n)).2.1).no)], .int .i64 ((sNear (hScene l) (hInRay (hRay x) m n)).2.2)]) rfl rfl ?_)
    refine ao 79 rfl rfl (st_ex (vs := [.int .i64 ((sNear (hScene l) (hInRay (hRay x) m n)).1), .agg #[.int .i64 (((sNear (hScene l) (hInRay (hRay x) m n)).2.1).lo), .int .i64 (((sNear (hScene l) (hInRay (hRay x) m n)).2.1).hi), .bool (((sNear (hScene l) (hInRay (hRay x) m n)).2.1).no)], .int .i64 ((sNear (hScene l) (hInRay (hRay x) m n)).2.2)]) (v := .int .i64 ((sNear (hScene l) (hInRay (hRay x) m n)).1)) rfl rfl rfl ?_)
    refine ao 80 rfl rfl (st_ex (vs := [.int .i64 ((sNear (hScene l) (hInRay (hRay x) m n)).1), .agg #[.int .i64 (((sNear (hScene l) (hInRay (hRay x) m n)).2.1).lo), .int .i64 (((sNear (hScene l) (hInRay (hRay x) m n)).2.1).hi), .bool (((sNear (hScene l) (hInRay (hRay x) m n)).2.1).no)], .int .i64 ((sNear (hScene l) (hInRay (hRay x) m n)).2.2)]) (v := .agg #[.int .i64 (((sNear (hScene l) (hInRay (hRay x) m n)).2.1).lo), .int .i64 (((sNear (hScene l) (hInRay (hRay x) m n)).2.1).hi), .bool (((sNear (hScene l) (hInRay (hRay x) m n)).2.1).no)]) rfl rfl rfl ?_)
    refine ao 81 rfl rfl (st_ex (vs := [.int .i64 ((sNear (hScene l) (hInRay (hRay x) m n)).1), .agg #[.int .i64 (((sNear (hScene l) (hInRay (hRay x) m n)).2.1).lo), .int .i64 (((sNear (hScene l) (hInRay (hRay x) m n)).2.1).hi), .bool (((sNear (hScene l) (hInRay (hRay x) m n)).2.1).no)], .int .i64 ((sNear (hScene l) (hInRay (hRay x) m n)).2.2)]) (v := .int .i64 ((sNear (hScene l) (hInRay (hRay x) m n)).2.2)) rfl rfl rfl ?_)
    refine ao 22 rfl rfl (st_new zero26 rfl fun g5 => ?_)
    refine ao 21 rfl rfl (st_assign (v := .int .i64 ((sNear (hScene l) (hInRay (hRay x) m n)).1)) rfl rfl ?_)
    refine ar_op (d := none) rfl rfl (st_sta (g := g5) (off := 0) (us := [.int .i64 (((sNear (hScene l) (hInRay (hRay x) m n)).2.1).lo), .int .i64 (((sNear (hScene l) (hInRay (hRay x) m n)).2.1).hi), .bool (((sNear (hScene l) (hInRay (hRay x) m n)).2.1).no)]) (cs := [.int .i64 (((sNear (hScene l) (hInRay (hRay x) m n)).2.1).lo), .int .i64 (((sNear (hScene l) (hInRay (hRay x) m n)).2.1).hi), .bool (((sNear (hScene l) (hInRay (hRay x) m n)).2.1).no)]) agg26 0 rfl rfl rfl rfl rfl rfl rfl rfl rfl ?_)
    refine ao 23 rfl rfl (st_assign (v := .int .i64 ((sNear (hScene l) (hInRay (hRay x) m n)).2.2)) rfl rfl ?_)
    refine ar_nil ?_
    refine ac_seq ?_
    refine ac_region_lit ?_
    refine ao 82 rfl rfl (st_cf (vs := []) (r := .bool known26) c_known26 Try.func59 rfl (by decide) rfl rfl rfl ?_)
    refine ao 83 rfl rfl (st_move (v := .bool known26) rfl rfl ?_)
    refine bool_split (known26) (fun h3 => ?_) (fun h3 => nomatch (show false = true from (show (lawSceneLess l x m n) = _ from (eF h1 (eT h2 (eF h3 rfl)))).symm.trans H))
    refine ar_gd (d := (some 84)) (by show (known26 == true) = true; rw [h3]; rfl) rfl (st_move (v := .int .i64 ((sNear (hScene l) (hRay x)).2.2)) rfl rfl ?_)
    refine ar_gd (d := (some 85)) (by show (known26 == true) = true; rw [h3]; rfl) rfl (st_bi (u := .int .i64 ((sNear (hScene l) (hRay x)).2.2)) (v := .int .i64 0) (r := .bool (((sNear (hScene l) (hRay x)).2.2) == 0)) rfl rfl rfl (bi_eql rfl) ?_)
    refine ar_gd (d := (some 86)) (by show (known26 == true) = true; rw [h3]; rfl) rfl (st_move (v := .bool (((sNear (hScene l) (hRay x)).2.2) == 0)) rfl rfl ?_)
    refine bool_split (((sNear (hScene l) (hRay x)).2.2) == 0) (fun h4 => ?_) (fun h4 => ?_)
    · refine ar_sk (d := (some 87)) (by show ((((sNear (hScene l) (hRay x)).2.2) == 0) == false) = false; rw [h4]; rfl) rfl ?_
      refine ar_sk (d := (some 88)) (by show ((((sNear (hScene l) (hRay x)).2.2) == 0) == false) = false; rw [h4]; rfl) rfl ?_
      refine ar_sk (d := (some 89)) (by show ((((sNear (hScene l) (hRay x)).2.2) == 0) == false) = false; rw [h4]; rfl) rfl ?_
      refine ar_sk (d := (some 90)) (by show ((((sNear (hScene l) (hRay x)).2.2) == 0) == false) = false; rw [h4]; rfl) rfl ?_
      refine ar_sk (d := (some 91)) rfl rfl ?_
      refine ar_sk (d := (some 92)) rfl rfl ?_
      refine ar_sk (d := (some 93)) rfl rfl ?_
      refine ar_sk (d := (some 94)) (by show ((((sNear (hScene l) (hRay x)).2.2) == 0) == false) = false; rw [h4]; rfl) rfl ?_
      refine ar_gd (d := (some 95)) (by show (known26 == true) = true; rw [h3]; rfl) rfl (st_pkt' (b := ((sNear (hScene l) (hRay x)).2.2) == 0) (v := .bool true) h4 rfl rfl rfl ?_)
      refine ao 96 rfl rfl (st_pkt' (b := known26) (v := .bool true) h3 rfl rfl rfl ?_)
      refine ao 97 rfl rfl (st_move (v := .bool true) rfl rfl ?_)
      refine ar_gd (d := (some 98)) rfl rfl (st_move (v := .int .i64 ((sNear (hScene l) (hRay x)).2.2)) rfl rfl ?_)
      refine ar_gd (d := (some 99)) rfl rfl (st_bi (u := .int .i64 ((sNear (hScene l) (hRay x)).2.2)) (v := .int .i64 1) (r := .bool (((sNear (hScene l) (hRay x)).2.2) != 1)) rfl rfl rfl (bi_neq rfl) ?_)
      refine ar_gd (d := (some 100)) rfl rfl (st_move (v := .bool (((sNear (hScene l) (hRay x)).2.2) != 1)) rfl rfl ?_)
      refine bool_split (((sNear (hScene l) (hRay x)).2.2) != 1) (fun h5 => ?_) (fun h5 => ?_)
      · refine ar_sk (d := (some 101)) (by show ((((sNear (hScene l) (hRay x)).2.2) != 1) == false) = false; rw [h5]; rfl) rfl ?_
        refine ar_sk (d := (some 102)) (by show ((((sNear (hScene l) (hRay x)).2.2) != 1) == false) = false; rw [h5]; rfl) rfl ?_
        refine ar_sk (d := (some 103)) (by show ((((sNear (hScene l) (hRay x)).2.2) != 1) == false) = false; rw [h5]; rfl) rfl ?_
        refine ar_sk (d := (some 104)) (by show ((((sNear (hScene l) (hRay x)).2.2) != 1) == false) = false; rw [h5]; rfl) rfl ?_
        refine ar_sk (d := (some 105)) rfl rfl ?_
        refine ar_sk (d := (some 106)) rfl rfl ?_
        refine ar_sk (d := (some 107)) (by show ((((sNear (hScene l) (hRay x)).2.2) != 1) == false) = false; rw [h5]; rfl) rfl ?_
        refine ar_sk (d := (some 108)) (by show ((((sNear (hScene l) (hRay x)).2.2) != 1) == false) = false; rw [h5]; rfl) rfl ?_
        refine ar_sk (d := (some 109)) rfl rfl ?_
        refine ar_sk (d := (some 110)) rfl rfl ?_
        refine ar_sk (d := (some 111)) rfl rfl ?_
        refine ar_sk (d := (some 112)) rfl rfl ?_
        refine ar_sk (d := (some 113)) (by show ((((sNear (hScene l) (hRay x)).2.2) != 1) == false) = false; rw [h5]; rfl) rfl ?_
        refine ar_gd (d := (some 114)) rfl rfl (st_pkt' (b := ((sNear (hScene l) (hRay x)).2.2) != 1) (v := .bool true) h5 rfl rfl rfl ?_)
        refine ao 115 rfl rfl (st_pkt (v := .bool true) rfl rfl rfl ?_)
        refine ao 8 rfl rfl (st_assign (v := .bool true) rfl rfl ?_)
        refine ar_nil ?_
        refine ac_ret ?_
        exact fin_eq (by first | rfl | (rw [h5, h4, h3, h2, h1] <;> rfl)) (fin_ret (res_tmp rfl rfl))
      · refine ar_gd (d := (some 101)) (by show ((((sNear (hScene l) (hRay x)).2.2) != 1) == false) = true; rw [h5]; rfl) rfl (st_lda (g := g5) (off := 0) (vs := [.int .i64 (((sNear (hScene l) (hInRay (hRay x) m n)).2.1).lo), .int .i64 (((sNear (hScene l) (hInRay (hRay x) m n)).2.1).hi), .bool (((sNear (hScene l) (hInRay (hRay x) m n)).2.1).no)]) agg26 0 rfl rfl rfl rfl rfl rfl ?_)
        refine ar_gd (d := (some 102)) (by show ((((sNear (hScene l) (hRay x)).2.2) != 1) == false) = true; rw [h5]; rfl) rfl (st_lda (g := g4) (off := 0) (vs := [.int .i64 (((sNear (hScene l) (hRay x)).2.1).lo), .int .i64 (((sNear (hScene l) (hRay x)).2.1).hi), .bool (((sNear (hScene l) (hRay x)).2.1).no)]) agg26 1 rfl rfl rfl rfl rfl rfl ?_)
        refine ar_gd (d := (some 103)) (by show ((((sNear (hScene l) (hRay x)).2.2) != 1) == false) = true; rw [h5]; rfl) rfl (st_cf (vs := [.agg #[.int .i64 (((sNear (hScene l) (hInRay (hRay x) m n)).2.1).lo), .int .i64 (((sNear (hScene l) (hInRay (hRay x) m n)).2.1).hi), .bool (((sNear (hScene l) (hInRay (hRay x) m n)).2.1).no)], .agg #[.int .i64 (((sNear (hScene l) (hRay x)).2.1).lo), .int .i64 (((sNear (hScene l) (hRay x)).2.1).hi), .bool (((sNear (hScene l) (hRay x)).2.1).no)]]) (r := .bool (lawSceneLess_e1 l x m n)) (c_ivInside ((sNear (hScene l) (hInRay (hRay x) m n)).2.1) ((sNear (hScene l) (hRay x)).2.1)) Try.func26 rfl (by decide) rfl rfl rfl ?_)
        refine ar_gd (d := (some 104)) (by show ((((sNear (hScene l) (hRay x)).2.2) != 1) == false) = true; rw [h5]; rfl) rfl (st_move (v := .bool (lawSceneLess_e1 l x m n)) rfl rfl ?_)
        refine bool_split (lawSceneLess_e1 l x m n) (fun h6 => ?_) (fun h6 => nomatch (show false = true from (show (lawSceneLess l x m n) = _ from (eF h1 (eT h2 (eT h3 (eT h4 (eF h5 (eF h6 rfl))))))).symm.trans H))
        refine ar_gd (d := (some 105)) (by show ((lawSceneLess_e1 l x m n) == true) = true; rw [h6]; rfl) rfl (st_move (v := .int .i64 ((sNear (hScene l) (hRay x)).1)) rfl rfl ?_)
        refine ar_gd (d := (some 106)) (by show ((lawSceneLess_e1 l x m n) == true) = true; rw [h6]; rfl) rfl (st_bi (u := .int .i64 ((sNear (hScene l) (hRay x)).1)) (v := .int .i64 0) (r := .bool (decide (((sNear (hScene l) (hRay x)).1) ≥ 0))) rfl rfl rfl (bi_geq rfl) ?_)
        refine ar_gd (d := (some 107)) (by show ((((sNear (hScene l) (hRay x)).2.2) != 1) == false) = true; rw [h5]; rfl) rfl (st_pkt' (b := lawSceneLess_e1 l x m n) (v := .bool (decide (((sNear (hScene l) (hRay x)).1) ≥ 0))) h6 rfl rfl rfl ?_)
        refine ar_gd (d := (some 108)) (by show ((((sNear (hScene l) (hRay x)).2.2) != 1) == false) = true; rw [h5]; rfl) rfl (st_move (v := .bool (decide (((sNear (hScene l) (hRay x)).1) ≥ 0))) rfl rfl ?_)
        refine bool_split (decide (((sNear (hScene l) (hRay x)).1) ≥ 0)) (fun h7 => ?_) (fun h7 => nomatch (show false = true from (show (lawSceneLess l x m n) = _ from (eF h1 (eT h2 (eT h3 (eT h4 (eF h5 (eT h6 (eF h7 rfl)))))))).symm.trans H))
        refine ar_gd (d := (some 109)) (by show ((decide (((sNear (hScene l) (hRay x)).1) ≥ 0)) == true) = true; rw [h7]; rfl) rfl (st_move (v := .int .i64 ((sNear (hScene l) (hRay x)).1)) rfl rfl ?_)
        refine ar_gd (d := (some 110)) (by show ((decide (((sNear (hScene l) (hRay x)).1) ≥ 0)) == true) = true; rw [h7]; rfl) rfl (st_move (v := .slice (some ⟨g1, 0, none⟩) ((hScene l).length) cg1) rfl rfl ?_)
        refine ar_gd (d := (some 111)) (by show ((decide (((sNear (hScene l) (hRay x)).1) ≥ 0)) == true) = true; rw [h7]; rfl) rfl (st_ln (a := some ⟨g1, 0, none⟩) (m := (hScene l).length) (c := cg1) rfl Try.underlying74 rfl ?_)
        refine ar_gd (d := (some 112)) (by show ((decide (((sNear (hScene l) (hRay x)).1) ≥ 0)) == true) = true; rw [h7]; rfl) rfl (st_bi (u := .int .i64 ((sNear (hScene l) (hRay x)).1)) (v := .int .i64 ((hScene l).length : Int)) (r := .bool (decide (((sNear (hScene l) (hRay x)).1) < ((hScene l).length : Int)))) rfl rfl rfl (bi_lss rfl) ?_)
        refine ar_gd (d := (some 113)) (by show ((((sNear (hScene l) (hRay x)).2.2) != 1) == false) = true; rw [h5]; rfl) rfl (st_pkt' (b := decide (((sNear (hScene l) (hRay x)).1) ≥ 0)) (v := .bool (decide (((sNear (hScene l) (hRay x)).1) < ((hScene l).length : Int)))) h7 rfl rfl rfl ?_)
        refine ar_gd (d := (some 114)) rfl rfl (st_pkf' (b := ((sNear (hScene l) (hRay x)).2.2) != 1) (v := .bool (decide (((sNear (hScene l) (hRay x)).1) < ((hScene l).length : Int)))) h5 rfl rfl rfl ?_)
        refine ao 115 rfl rfl (st_pkt (v := .bool (decide (((sNear (hScene l) (hRay x)).1) < ((hScene l).length : Int)))) rfl rfl rfl ?_)
        refine ao 8 rfl rfl (st_assign (v := .bool (decide (((sNear (hScene l) (hRay x)).1) < ((hScene l).length : Int)))) rfl rfl ?_)
        refine ar_nil ?_
        refine ac_ret ?_
        exact fin_eq (v := .bool (decide (((sNear (hScene l) (hRay x)).1) < ((hScene l).length : Int)))) (congrArg Value.bool (show (decide (((sNear (hScene l) (hRay x)).1) < ((hScene l).length : Int))) = true from (show (lawSceneLess l x m n) = _ from (eF h1 (eT h2 (eT h3 (eT h4 (eF h5 (eT h6 (eT h7 rfl)))))))).symm.trans H)) (fin_ret (res_tmp rfl rfl))
    · refine ar_gd (d := (some 87)) (by show ((((sNear (hScene l) (hRay x)).2.2) == 0) == false) = true; rw [h4]; rfl) rfl (st_move (v := .int .i64 ((sNear (hScene l) (hInRay (hRay x) m n)).2.2)) rfl rfl ?_)
      refine ar_gd (d := (some 88)) (by show ((((sNear (hScene l) (hRay x)).2.2) == 0) == false) = true; rw [h4]; rfl) rfl (st_move (v := .int .i64 ((sNear (hScene l) (hRay x)).2.2)) rfl rfl ?_)
      refine ar_gd (d := (some 89)) (by show ((((sNear (hScene l) (hRay x)).2.2) == 0) == false) = true; rw [h4]; rfl) rfl (st_bi (u := .int .i64 ((sNear (hScene l) (hInRay (hRay x) m n)).2.2)) (v := .int .i64 ((sNear (hScene l) (hRay x)).2.2)) (r := .bool (((sNear (hScene l) (hInRay (hRay x) m n)).2.2) == ((sNear (hScene l) (hRay x)).2.2))) rfl rfl rfl (bi_eql rfl) ?_)
      refine ar_gd (d := (some 90)) (by show ((((sNear (hScene l) (hRay x)).2.2) == 0) == false) = true; rw [h4]; rfl) rfl (st_move (v := .bool (((sNear (hScene l) (hInRay (hRay x) m n)).2.2) == ((sNear (hScene l) (hRay x)).2.2))) rfl rfl ?_)
      refine bool_split (((sNear (hScene l) (hInRay (hRay x) m n)).2.2) == ((sNear (hScene l) (hRay x)).2.2)) (fun h5 => ?_) (fun h5 => nomatch (show false = true from (show (lawSceneLess l x m n) = _ from (eF h1 (eT h2 (eT h3 (eF h4 (eF h5 rfl)))))).symm.trans H))
      refine ar_gd (d := (some 91)) (by show ((((sNear (hScene l) (hInRay (hRay x) m n)).2.2) == ((sNear (hScene l) (hRay x)).2.2)) == true) = true; rw [h5]; rfl) rfl (st_move (v := .int .i64 ((sNear (hScene l) (hInRay (hRay x) m n)).1)) rfl rfl ?_)
      refine ar_gd (d := (some 92)) (by show ((((sNear (hScene l) (hInRay (hRay x) m n)).2.2) == ((sNear (hScene l) (hRay x)).2.2)) == true) = true; rw [h5]; rfl) rfl (st_move (v := .int .i64 ((sNear (hScene l) (hRay x)).1)) rfl rfl ?_)
      refine ar_gd (d := (some 93)) (by show ((((sNear (hScene l) (hInRay (hRay x) m n)).2.2) == ((sNear (hScene l) (hRay x)).2.2)) == true) = true; rw [h5]; rfl) rfl (st_bi (u := .int .i64 ((sNear (hScene l) (hInRay (hRay x) m n)).1)) (v := .int .i64 ((sNear (hScene l) (hRay x)).1)) (r := .bool (((sNear (hScene l) (hInRay (hRay x) m n)).1) == ((sNear (hScene l) (hRay x)).1))) rfl rfl rfl (bi_eql rfl) ?_)
      refine ar_gd (d := (some 94)) (by show ((((sNear (hScene l) (hRay x)).2.2) == 0) == false) = true; rw [h4]; rfl) rfl (st_pkt' (b := ((sNear (hScene l) (hInRay (hRay x) m n)).2.2) == ((sNear (hScene l) (hRay x)).2.2)) (v := .bool (((sNear (hScene l) (hInRay (hRay x) m n)).1) == ((sNear (hScene l) (hRay x)).1))) h5 rfl rfl rfl ?_)
      refine ar_gd (d := (some 95)) (by show (known26 == true) = true; rw [h3]; rfl) rfl (st_pkf' (b := ((sNear (hScene l) (hRay x)).2.2) == 0) (v := .bool (((sNear (hScene l) (hInRay (hRay x) m n)).1) == ((sNear (hScene l) (hRay x)).1))) h4 rfl rfl rfl ?_)
      refine ao 96 rfl rfl (st_pkt' (b := known26) (v := .bool (((sNear (hScene l) (hInRay (hRay x) m n)).1) == ((sNear (hScene l) (hRay x)).1))) h3 rfl rfl rfl ?_)
      refine ao 97 rfl rfl (st_move (v := .bool (((sNear (hScene l) (hInRay (hRay x) m n)).1) == ((sNear (hScene l) (hRay x)).1))) rfl rfl ?_)
      refine bool_split (((sNear (hScene l) (hInRay (hRay x) m n)).1) == ((sNear (hScene l) (hRay x)).1)) (fun h6 => ?_) (fun h6 => nomatch (show false = true from (show (lawSceneLess l x m n) = _ from (eF h1 (eT h2 (eT h3 (eF h4 (eT h5 (eF h6 rfl))))))).symm.trans H))
      refine ar_gd (d := (some 98)) (by show ((((sNear (hScene l) (hInRay (hRay x) m n)).1) == ((sNear (hScene l) (hRay x)).1)) == true) = true; rw [h6]; rfl) rfl (st_move (v := .int .i64 ((sNear (hScene l) (hRay x)).2.2)) rfl rfl ?_)
      refine ar_gd (d := (some 99)) (by show ((((sNear (hScene l) (hInRay (hRay x) m n)).1) == ((sNear (hScene l) (hRay x)).1)) == true) = true; rw [h6]; rfl) rfl (st_bi (u := .int .i64 ((sNear (hScene l) (hRay x)).2.2)) (v := .int .i64 1) (r := .bool (((sNear (hScene l) (hRay x)).2.2) != 1)) rfl rfl rfl (bi_neq rfl) ?_)
      refine ar_gd (d := (some 100)) (by show ((((sNear (hScene l) (hInRay (hRay x) m n)).1) == ((sNear (hScene l) (hRay x)).1)) == true) = true; rw [h6]; rfl) rfl (st_move (v := .bool (((sNear (hScene l) (hRay x)).2.2) != 1)) rfl rfl ?_)
      refine bool_split (((sNear (hScene l) (hRay x)).2.2) != 1) (fun h7 => ?_) (fun h7 => ?_)
      · refine ar_sk (d := (some 101)) (by show ((((sNear (hScene l) (hRay x)).2.2) != 1) == false) = false; rw [h7]; rfl) rfl ?_
        refine ar_sk (d := (some 102)) (by show ((((sNear (hScene l) (hRay x)).2.2) != 1) == false) = false; rw [h7]; rfl) rfl ?_
        refine ar_sk (d := (some 103)) (by show ((((sNear (hScene l) (hRay x)).2.2) != 1) == false) = false; rw [h7]; rfl) rfl ?_
        refine ar_sk (d := (some 104)) (by show ((((sNear (hScene l) (hRay x)).2.2) != 1) == false) = false; rw [h7]; rfl) rfl ?_
        refine ar_sk (d := (some 105)) rfl rfl ?_
        refine ar_sk (d := (some 106)) rfl rfl ?_
        refine ar_sk (d := (some 107)) (by show ((((sNear (hScene l) (hRay x)).2.2) != 1) == false) = false; rw [h7]; rfl) rfl ?_
        refine ar_sk (d := (some 108)) (by show ((((sNear (hScene l) (hRay x)).2.2) != 1) == false) = false; rw [h7]; rfl) rfl ?_
        refine ar_sk (d := (some 109)) rfl rfl ?_
        refine ar_sk (d := (some 110)) rfl rfl ?_
        refine ar_sk (d := (some 111)) rfl rfl ?_
        refine ar_sk (d := (some 112)) rfl rfl ?_
        refine ar_sk (d := (some 113)) (by show ((((sNear (hScene l) (hRay x)).2.2) != 1) == false) = false; rw [h7]; rfl) rfl ?_
        refine ar_gd (d := (some 114)) (by show ((((sNear (hScene l) (hInRay (hRay x) m n)).1) == ((sNear (hScene l) (hRay x)).1)) == true) = true; rw [h6]; rfl) rfl (st_pkt' (b := ((sNear (hScene l) (hRay x)).2.2) != 1) (v := .bool true) h7 rfl rfl rfl ?_)
        refine ao 115 rfl rfl (st_pkt' (b := ((sNear (hScene l) (hInRay (hRay x) m n)).1) == ((sNear (hScene l) (hRay x)).1)) (v := .bool true) h6 rfl rfl rfl ?_)
        refine ao 8 rfl rfl (st_assign (v := .bool true) rfl rfl ?_)
        refine ar_nil ?_
        refine ac_ret ?_
        exact fin_eq (by first | rfl | (rw [h7, h6, h5, h4, h3, h2, h1] <;> rfl)) (fin_ret (res_tmp rfl rfl))
      · refine ar_gd (d := (some 101)) (by show ((((sNear (hScene l) (hRay x)).2.2) != 1) == false) = true; rw [h7]; rfl) rfl (st_lda (g := g5) (off := 0) (vs := [.int .i64 (((sNear (hScene l) (hInRay (hRay x) m n)).2.1).lo), .int .i64 (((sNear (hScene l) (hInRay (hRay x) m n)).2.1).hi), .bool (((sNear (hScene l) (hInRay (hRay x) m n)).2.1).no)]) agg26 0 rfl rfl rfl rfl rfl rfl ?_)
        refine ar_gd (d := (some 102)) (by show ((((sNear (hScene l) (hRay x)).2.2) != 1) == false) = true; rw [h7]; rfl) rfl (st_lda (g := g4) (off := 0) (vs := [.int .i64 (((sNear (hScene l) (hRay x)).2.1).lo), .int .i64 (((sNear (hScene l) (hRay x)).2.1).hi), .bool (((sNear (hScene l) (hRay x)).2.1).no)]) agg26 1 rfl rfl rfl rfl rfl rfl ?_)
        refine ar_gd (d := (some 103)) (by show ((((sNear (hScene l) (hRay x)).2.2) != 1) == false) = true; rw [h7]; rfl) rfl (st_cf (vs := [.agg #[.int .i64 (((sNear (hScene l) (hInRay (hRay x) m n)).2.1).lo), .int .i64 (((sNear (hScene l) (hInRay (hRay x) m n)).2.1).hi), .bool (((sNear (hScene l) (hInRay (hRay x) m n)).2.1).no)], .agg #[.int .i64 (((sNear (hScene l) (hRay x)).2.1).lo), .int .i64 (((sNear (hScene l) (hRay x)).2.1).hi), .bool (((sNear (hScene l) (hRay x)).2.1).no)]]) (r := .bool (lawSceneLess_e1 l x m n)) (c_ivInside ((sNear (hScene l) (hInRay (hRay x) m n)).2.1) ((sNear (hScene l) (hRay x)).2.1)) Try.func26 rfl (by decide) rfl rfl rfl ?_)
        refine ar_gd (d := (some 104)) (by show ((((sNear (hScene l) (hRay x)).2.2) != 1) == false) = true; rw [h7]; rfl) rfl (st_move (v := .bool (lawSceneLess_e1 l x m n)) rfl rfl ?_)
        refine bool_split (lawSceneLess_e1 l x m n) (fun h8 => ?_) (fun h8 => nomatch (show false = true from (show (lawSceneLess l x m n) = _ from (eF h1 (eT h2 (eT h3 (eF h4 (eT h5 (eT h6 (eF h7 (eF h8 rfl))))))))).symm.trans H))
        refine ar_gd (d := (some 105)) (by show ((lawSceneLess_e1 l x m n) == true) = true; rw [h8]; rfl) rfl (st_move (v := .int .i64 ((sNear (hScene l) (hRay x)).1)) rfl rfl ?_)
        refine ar_gd (d := (some 106)) (by show ((lawSceneLess_e1 l x m n) == true) = true; rw [h8]; rfl) rfl (st_bi (u := .int .i64 ((sNear (hScene l) (hRay x)).1)) (v := .int .i64 0) (r := .bool (decide (((sNear (hScene l) (hRay x)).1) ≥ 0))) rfl rfl rfl (bi_geq rfl) ?_)
        refine ar_gd (d := (some 107)) (by show ((((sNear (hScene l) (hRay x)).2.2) != 1) == false) = true; rw [h7]; rfl) rfl (st_pkt' (b := lawSceneLess_e1 l x m n) (v := .bool (decide (((sNear (hScene l) (hRay x)).1) ≥ 0))) h8 rfl rfl rfl ?_)
        refine ar_gd (d := (some 108)) (by show ((((sNear (hScene l) (hRay x)).2.2) != 1) == false) = true; rw [h7]; rfl) rfl (st_move (v := .bool (decide (((sNear (hScene l) (hRay x)).1) ≥ 0))) rfl rfl ?_)
        refine bool_split (decide (((sNear (hScene l) (hRay x)).1) ≥ 0)) (fun h9 => ?_) (fun h9 => nomatch (show false = true from (show (lawSceneLess l x m n) = _ from (eF h1 (eT h2 (eT h3 (eF h4 (eT h5 (eT h6 (eF h7 (eT h8 (eF h9 rfl)))))))))).symm.trans H))
        refine ar_gd (d := (some 109)) (by show ((decide (((sNear (hScene l) (hRay x)).1) ≥ 0)) == true) = true; rw [h9]; rfl) rfl (st_move (v := .int .i64 ((sNear (hScene l) (hRay x)).1)) rfl rfl ?_)
        refine ar_gd (d := (some 110)) (by show ((decide (((sNear (hScene l) (hRay x)).1) ≥ 0)) == true) = true; rw [h9]; rfl) rfl (st_move (v := .slice (some ⟨g1, 0, none⟩) ((hScene l).length) cg1) rfl rfl ?_)
        refine ar_gd (d := (some 111)) (by show ((decide (((sNear (hScene l) (hRay x)).1) ≥ 0)) == true) = true; rw [h9]; rfl) rfl (st_ln (a := some ⟨g1, 0, none⟩) (m := (hScene l).length) (c := cg1) rfl Try.underlying74 rfl ?_)
        refine ar_gd (d := (some 112)) (by show ((decide (((sNear (hScene l) (hRay x)).1) ≥ 0)) == true) = true; rw [h9]; rfl) rfl (st_bi (u := .int .i64 ((sNear (hScene l) (hRay x)).1)) (v := .int .i64 ((hScene l).length : Int)) (r := .bool (decide (((sNear (hScene l) (hRay x)).1) < ((hScene l).length : Int)))) rfl rfl rfl (bi_lss rfl) ?_)
        refine ar_gd (d := (some 113)) (by show ((((sNear (hScene l) (hRay x)).2.2) != 1) == false) = true; rw [h7]; rfl) rfl (st_pkt' (b := decide (((sNear (hScene l) (hRay x)).1) ≥ 0)) (v := .bool (decide (((sNear (hScene l) (hRay x)).1) < ((hScene l).length : Int)))) h9 rfl rfl rfl ?_)
        refine ar_gd (d := (some 114)) (by show ((((sNear (hScene l) (hInRay (hRay x) m n)).1) == ((sNear (hScene l) (hRay x)).1)) == true) = true; rw [h6]; rfl) rfl (st_pkf' (b := ((sNear (hScene l) (hRay x)).2.2) != 1) (v := .bool (decide (((sNear (hScene l) (hRay x)).1) < ((hScene l).length : Int)))) h7 rfl rfl rfl ?_)
        refine ao 115 rfl rfl (st_pkt' (b := ((sNear (hScene l) (hInRay (hRay x) m n)).1) == ((sNear (hScene l) (hRay x)).1)) (v := .bool (decide (((sNear (hScene l) (hRay x)).1) < ((hScene l).length : Int)))) h6 rfl rfl rfl ?_)
        refine ao 8 rfl rfl (st_assign (v := .bool (decide (((sNear (hScene l) (hRay x)).1) < ((hScene l).length : Int)))) rfl rfl ?_)
        refine ar_nil ?_
        refine ac_ret ?_
        exact fin_eq (v := .bool (decide (((sNear (hScene l) (hRay x)).1) < ((hScene l).length : Int)))) (congrArg Value.bool (show (decide (((sNear (hScene l) (hRay x)).1) < ((hScene l).length : Int))) = true from (show (lawSceneLess l x m n) = _ from (eF h1 (eT h2 (eT h3 (eF h4 (eT h5 (eT h6 (eF h7 (eT h8 (eT h9 rfl)))))))))).symm.trans H)) (fin_ret (res_tmp rfl rfl))
end Go.Proofs.Ythngkopcadlciaa