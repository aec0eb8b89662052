import Derived.Test.YtbaihncnbejjbaaK6
import Derived.Test.YtbaihncnbejjbaaRQuad
import Derived.Test.YtbaihncnbejjbaaCut
set_option linter.unusedVariables false
set_option linter.unusedSimpArgs false
namespace Go.Proofs.Ytbaihncnbejjbaa
open Go.RowKit

attribute [local irreducible] AC AR DWalk
def lawQuadTells (a : Int) (b : Int) (c : Int) (d : Int) (e : Int) (f : Int) (tame : Bool) : Bool := (bif tame then (bif known6 then (bif decide (((quadNear (hTame a b) (hTame c d) (hTame e f)).1) = ((rNear (hTame a b) (hTame c d) (hTame e f)).1)) then ((quadNear (hTame a b) (hTame c d) (hTame e f)).2) == ((rNear (hTame a b) (hTame c d) (hTame e f)).2) else false) else false) else (bif known6 then (bif decide (((quadNear (hIv a b) (hIv c d) (hIv e f)).1) = ((rNear (hIv a b) (hIv c d) (hIv e f)).1)) then ((quadNear (hIv a b) (hIv c d) (hIv e f)).2) == ((rNear (hIv a b) (hIv c d) (hIv e f)).2) else false) else false))
set_option maxRecDepth 100000 in
set_option maxHeartbeats 4000000 in
theorem c_lawQuadTells (a : Int) (b : Int) (c : Int) (d : Int) (e : Int) (f : Int) (tame : Bool) (H : (lawQuadTells a b c d e f tame) = true) : Gets Try.prog 17 #[.int .i64 a, .int .i64 b, .int .i64 c, .int .i64 d, .int .i64 e, .int .i64 f, .bool tame] (.bool true) := by
  refine gets_fin Try.func17 rfl rfl rfl ?_
  refine ac_seq ?_
  refine ac_region_lit ?_
  refine ao 14 rfl rfl (st_assign (v := .bool false) rfl rfl ?_)
  refine ar_nil ?_
  refine ac_seq ?_
  refine ac_region_lit ?_
  refine ao 22 rfl rfl (st_move (v := .int .i64 a) rfl rfl ?_)
  refine ao 23 rfl rfl (st_move (v := .int .i64 b) rfl rfl ?_)
  refine ao 24 rfl rfl (st_cf (vs := [.int .i64 a, .int .i64 b]) (r := .agg #[.int .i64 ((hIv a b).lo), .int .i64 ((hIv a b).hi), .bool ((hIv a b).no)]) (c_hIv a b) Try.func56 rfl (by decide) rfl rfl rfl ?_)
  refine ao 15 rfl rfl (st_new zero35 rfl fun g0 => ?_)
  refine ar_op (d := none) rfl rfl (st_sta (g := g0) (off := 0) (us := [.int .i64 ((hIv a b).lo), .int .i64 ((hIv a b).hi), .bool ((hIv a b).no)]) (cs := [.int .i64 ((hIv a b).lo), .int .i64 ((hIv a b).hi), .bool ((hIv a b).no)]) agg35 0 rfl rfl rfl rfl rfl rfl rfl rfl rfl ?_)
  refine ar_nil ?_
  refine ac_seq ?_
  refine ac_region_lit ?_
  refine ao 25 rfl rfl (st_move (v := .int .i64 c) rfl rfl ?_)
  refine ao 26 rfl rfl (st_move (v := .int .i64 d) rfl rfl ?_)
  refine ao 27 rfl rfl (st_cf (vs := [.int .i64 c, .int .i64 d]) (r := .agg #[.int .i64 ((hIv c d).lo), .int .i64 ((hIv c d).hi), .bool ((hIv c d).no)]) (c_hIv c d) Try.func56 rfl (by decide) rfl rfl rfl ?_)
  refine ao 16 rfl rfl (st_new zero35 rfl fun g1 => ?_)
  refine ar_op (d := none) rfl rfl (st_sta (g := g1) (off := 0) (us := [.int .i64 ((hIv c d).lo), .int .i64 ((hIv c d).hi), .bool ((hIv c d).no)]) (cs := [.int .i64 ((hIv c d).lo), .int .i64 ((hIv c d).hi), .bool ((hIv c d).no)]) agg35 0 rfl rfl rfl rfl rfl rfl rfl rfl rfl ?_)
  refine ar_nil ?_
  refine ac_seq ?_
  refine ac_region_lit ?_
  refine ao 28 rfl rfl (st_move (v := .int .i64 e) rfl rfl ?_)
  refine ao 29 rfl rfl (st_move (v := .int .i64 f) rfl rfl ?_)
  refine ao 30 rfl rfl (st_cf (vs := [.int .i64 e, .int .i64 f]) (r := .agg #[.int .i64 ((hIv e f).lo), .int .i64 ((hIv e f).hi), .bool ((hIv e f).no)]) (c_hIv e f) Try.func56 rfl (by decide) rfl rfl rfl ?_)
  refine ao 17 rfl rfl (st_new zero35 rfl fun g2 => ?_)
  refine ar_op (d := none) rfl rfl (st_sta (g := g2) (off := 0) (us := [.int .i64 ((hIv e f).lo), .int .i64 ((hIv e f).hi), .bool ((hIv e f).no)]) (cs := [.int .i64 ((hIv e f).lo), .int .i64 ((hIv e f).hi), .bool ((hIv e f).no)]) agg35 0 rfl rfl rfl rfl rfl rfl rfl rfl rfl ?_)
  refine ar_nil ?_
  refine ac_seq ?_
  refine ac_seq ?_
  refine ac_region_lit ?_
  refine ao 31 rfl rfl (st_move (v := .bool tame) rfl rfl ?_)
  refine ar_nil ?_
  refine bool_split (tame) (fun h1 => ?_) (fun h1 => ?_)
  · refine ac_then' (b := tame) h1 rfl ?_
    refine ac_seq ?_
    refine ac_region_lit ?_
    refine ao 32 rfl rfl (st_move (v := .int .i64 a) rfl rfl ?_)
    refine ao 33 rfl rfl (st_move (v := .int .i64 b) rfl rfl ?_)
    refine ao 34 rfl rfl (st_cf (vs := [.int .i64 a, .int .i64 b]) (r := .agg #[.int .i64 ((hTame a b).lo), .int .i64 ((hTame a b).hi), .bool ((hTame a b).no)]) (c_hTame a b) Try.func72 rfl (by decide) rfl rfl rfl ?_)
    refine ar_op (d := none) rfl rfl (st_sta (g := g0) (off := 0) (us := [.int .i64 ((hTame a b).lo), .int .i64 ((hTame a b).hi), .bool ((hTame a b).no)]) (cs := [.int .i64 ((hTame a b).lo), .int .i64 ((hTame a b).hi), .bool ((hTame a b).no)]) agg35 2 rfl rfl rfl rfl rfl rfl rfl rfl rfl ?_)
    refine ar_nil ?_
    refine ac_seq ?_
    refine ac_region_lit ?_
    refine ao 35 rfl rfl (st_move (v := .int .i64 c) rfl rfl ?_)
    refine ao 36 rfl rfl (st_move (v := .int .i64 d) rfl rfl ?_)
    refine ao 37 rfl rfl (st_cf (vs := [.int .i64 c, .int .i64 d]) (r := .agg #[.int .i64 ((hTame c d).lo), .int .i64 ((hTame c d).hi), .bool ((hTame c d).no)]) (c_hTame c d) Try.func72 rfl (by decide) rfl rfl rfl ?_)
    refine ar_op (d := none) rfl rfl (st_sta (g := g1) (off := 0) (us := [.int .i64 ((hTame c d).lo), .int .i64 ((hTame c d).hi), .bool ((hTame c d).no)]) (cs := [.int .i64 ((hTame c d).lo), .int .i64 ((hTame c d).hi), .bool ((hTame c d).no)]) agg35 1 rfl rfl rfl rfl rfl rfl rfl rfl rfl ?_)
    refine ar_nil ?_
    refine ac_region_lit ?_
    refine ao 38 rfl rfl (st_move (v := .int .i64 e) rfl rfl ?_)
    refine ao 39 rfl rfl (st_move (v := .int .i64 f) rfl rfl ?_)
    refine ao 40 rfl rfl (st_cf (vs := [.int .i64 e, .int .i64 f]) (r := .agg #[.int .i64 ((hTame e f).lo), .int .i64 ((hTame e f).hi), .bool ((hTame e f).no)]) (c_hTame e f) Try.func72 rfl (by decide) rfl rfl rfl ?_)
    refine ar_op (d := none) rfl rfl (st_sta (g := g2) (off := 0) (us := [.int .i64 ((hTame e f).lo), .int .i64 ((hTame e f).hi), .bool ((hTame e f).no)]) (cs := [.int .i64 ((hTame e f).lo), .int .i64 ((hTame e f).hi), .bool ((hTame e f).no)]) agg35 0 rfl rfl rfl rfl rfl rfl rfl rfl rfl ?_)
    refine ar_nil ?_
    refine ac_seq ?_
    refine ac_region_lit ?_
    refine ao 42 rfl rfl (st_lda (g := g0) (off := 0) (vs := [.int .i64 ((hTame a b).lo), .int .i64 ((hTame a b).hi), .bool ((hTame a b).no)]) agg35 2 rfl rfl rfl rfl rfl rfl ?_)
    refine ao 43 rfl rfl (st_lda (g := g1) (off := 0) (vs := [.int .i64 ((hTame c d).lo), .int .i64 ((hTame c d).hi), .bool ((hTame c d).no)]) agg35 1 rfl rfl rfl rfl rfl rfl ?_)
    refine ao 44 rfl rfl (st_lda (g := g2) (off := 0) (vs := [.int .i64 ((hTame e f).lo), .int .i64 ((hTame e f).hi), .bool ((hTame e f).no)]) agg35 0 rfl rfl rfl rfl rfl rfl ?_)
    refine ao 45 rfl rfl (st_cf (vs := [.agg #[.int .i64 ((hTame a b).lo), .int .i64 ((hTame a b).hi), .bool ((hTame a b).no)], .agg #[.int .i64 ((hTame c d).lo), .int .i64 ((hTame c d).hi), .bool ((hTame c d).no)], .agg #[.int .i64 ((hTame e f).lo), .int .i64 ((hTame e f).hi), .bool ((hTame e f).no)]]) (r := .tuple #[.agg #[.int .i64 (((quadNear (hTame a b) (hTame c d) (hTame e f)).1).lo), .int .i64 (((quadNear (hTame a b) (hTame c d) (hTame e f)).1).hi), .bool (((quadNear (hTame a b) (hTame c d) (hTame e f)).1).no)], .int .i64 ((quadNear (hTame a b) (hTame c d) (hTame e f)).2)]) (c_quadNear (hTame a b) (hTame c d) (hTame e f)) Try.func83 rfl (by decide) rfl rfl rfl ?_)
    refine ao 41 rfl rfl (st_move (v := .tuple #[.agg #[.int .i64 (((quadNear (hTame a b) (hTame c d) (hTame e f)).1).lo), .int .i64 (((quadNear (hTame a b) (hTame c d) (hTame e f)).1).hi), .bool (((quadNear (hTame a b) (hTame c d) (hTame e f)).1).no)], .int .i64 ((quadNear (hTame a b) (hTame c d) (hTame e f)).2)]) rfl rfl ?_)
    refine ao 46 rfl rfl (st_ex (vs := [.agg #[.int .i64 (((quadNear (hTame a b) (hTame c d) (hTame e f)).1).lo), .int .i64 (((quadNear (hTame a b) (hTame c d) (hTame e f)).1).hi), .bool (((quadNear (hTame a b) (hTame c d) (hTame e f)).1).no)], .int .i64 ((quadNear (hTame a b) (hTame c d) (hTame e f)).2)]) (v := .agg #[.int .i64 (((quadNear (hTame a b) (hTame c d) (hTame e f)).1).lo), .int .i64 (((quadNear (hTame a b) (hTame c d) (hTame e f)).1).hi), .bool (((quadNear (hTame a b) (hTame c d) (hTame e f)).1).no)]) rfl rfl rfl ?_)
    refine ao 47 rfl rfl (st_ex (vs := [.agg #[.int .i64 (((quadNear (hTame a b) (hTame c d) (hTame e f)).1).lo), .int .i64 (((quadNear (hTame a b) (hTame c d) (hTame e f)).1).hi), .bool (((quadNear (hTame a b) (hTame c d) (hTame e f)).1).no)], .int .i64 ((quadNear (hTame a b) (hTame c d) (hTame e f)).2)]) (v := .int .i64 ((quadNear (hTame a b) (hTame c d) (hTame e f)).2)) rfl rfl rfl ?_)
    refine ao 18 rfl rfl (st_new zero35 rfl fun g3 => ?_)
    refine ar_op (d := none) rfl rfl (st_sta (g := g3) (off := 0) (us := [.int .i64 (((quadNear (hTame a b) (hTame c d) (hTame e f)).1).lo), .int .i64 (((quadNear (hTame a b) (hTame c d) (hTame e f)).1).hi), .bool (((quadNear (hTame a b) (hTame c d) (hTame e f)).1).no)]) (cs := [.int .i64 (((quadNear (hTame a b) (hTame c d) (hTame e f)).1).lo), .int .i64 (((quadNear (hTame a b) (hTame c d) (hTame e f)).1).hi), .bool (((quadNear (hTame a b) (hTame c d) (hTame e f)).1).no)]) agg35 0 rfl rfl rfl rfl rfl rfl rfl rfl rfl ?_)
    refine ao 19 rfl rfl (st_assign (v := .int .i64 ((quadNear (hTame a b) (hTame c d) (hTame e f)).2)) rfl rfl ?_)
    refine ar_nil ?_
    refine ac_seq ?_
    refine ac_region_lit ?_
    refine ao 49 rfl rfl (st_lda (g := g0) (off := 0) (vs := [.int .i64 ((hTame a b).lo), .int .i64 ((hTame a b).hi), .bool ((hTame a b).no)]) agg35 3 rfl rfl rfl rfl rfl rfl ?_)
    refine ao 50 rfl rfl (st_lda (g := g1) (off := 0) (vs := [.int .i64 ((hTame c d).lo), .int .i64 ((hTame c d).hi), .bool ((hTame c d).no)]) agg35 2 rfl rfl rfl rfl rfl rfl ?_)
    refine ao 51 rfl rfl (st_lda (g := g2) (off := 0) (vs := [.int .i64 ((hTame e f).lo), .int .i64 ((hTame e f).hi), .bool ((hTame e f).no)]) agg35 1 rfl rfl rfl rfl rfl rfl ?_)
    refine ao 52 rfl rfl (st_cf (vs := [.agg #[.int .i64 ((hTame a b).lo), .int .i64 ((hTame a b).hi), .bool ((hTame a b).no)], .agg #[.int .i64 ((hTame c d).lo), .int .i64 ((hTame c d).hi), .bool ((hTame c d).no)], .agg #[.int .i64 ((hTame e f).lo), .int .i64 ((hTame e f).hi), .bool ((hTame e f).no)]]) (r := .tuple #[.agg #[.int .i64 (((rNear (hTame a b) (hTame c d) (hTame e f)).1).lo), .int .i64 (((rNear (hTame a b) (hTame c d) (hTame e f)).1).hi), .bool (((rNear (hTame a b) (hTame c d) (hTame e f)).1).no)], .int .i64 ((rNear (hTame a b) (hTame c d) (hTame e f)).2)]) (c_rNear (hTame a b) (hTame c d) (hTame e f)) Try.func86 rfl (by decide) rfl rfl rfl ?_)
    refine ao 48 rfl rfl (st_move (v := .tuple #[.agg #[.int .i64 (((rNear (hTame a b) (hTame c d) (hTame e f)).1).lo), .int .i64 (((rNear (hTame a b) (hTame c d) (hTame e f)).1).hi), .bool (((rNear (hTame a b) (hTame c d) (hTame e f)).1).no)], .int .i64 ((rNear (hTame a b) (hTame c d) (hTame e f)).2)]) rfl rfl ?_)
    refine ao 53 rfl rfl (st_ex (vs := [.agg #[.int .i64 (((rNear (hTame a b) (hTame c d) (hTame e f)).1).lo), .int .i64 (((rNear (hTame a b) (hTame c d) (hTame e f)).1).hi), .bool (((rNear (hTame a b) (hTame c d) (hTame e f)).1).no)], .int .i64 ((rNear (hTame a b) (hTame c d) (hTame e f)).2)]) (v := .agg #[.int .i64 (((rNear (hTame a b) (hTame c d) (hTame e f)).1).lo), .int .i64 (((rNear (hTame a b) (hTame c d) (hTame e f)).1).hi), .bool (((rNear (hTame a b) (hTame c d) (hTame e f)).1).no)]) rfl rfl rfl ?_)
    refine ao 54 rfl rfl (st_ex (vs := [.agg #[.int .i64 (((rNear (hTame a b) (hTame c d) (hTame e f)).1).lo), .int .i64 (((rNear (hTame a b) (hTame c d) (hTame e f)).1).hi), .bool (((rNear (hTame a b) (hTame c d) (hTame e f)).1).no)], .int .i64 ((rNear (hTame a b) (hTame c d) (hTame e f)).2)]) (v := .int .i64 ((rNear (hTame a b) (hTame c d) (hTame e f)).2)) rfl rfl rfl ?_)
    refine ao 20 rfl rfl (st_new zero35 rfl fun g4 => ?_)
    refine ar_op (d := none) rfl rfl (st_sta (g := g4) (off := 0) (us := [.int .i64 (((rNear (hTame a b) (hTame c d) (hTame e f)).1).lo), .int .i64 (((rNear (hTame a b) (hTame c d) (hTame e f)).1).hi), .bool (((rNear (hTame a b) (hTame c d) (hTame e f)).1).no)]) (cs := [.int .i64 (((rNear (hTame a b) (hTame c d) (hTame e f)).1).lo), .int .i64 (((rNear (hTame a b) (hTame c d) (hTame e f)).1).hi), .bool (((rNear (hTame a b) (hTame c d) (hTame e f)).1).no)]) agg35 0 rfl rfl rfl rfl rfl rfl rfl rfl rfl ?_)
    refine ao 21 rfl rfl (st_assign (v := .int .i64 ((rNear (hTame a b) (hTame c d) (hTame e f)).2)) rfl rfl ?_)
    refine ar_nil ?_
    refine ac_seq ?_
    refine ac_region_lit ?_
    refine ao 55 rfl rfl (st_cf (vs := []) (r := .bool known6) c_known6 Try.func85 rfl (by decide) rfl rfl rfl ?_)
    refine ao 56 rfl rfl (st_move (v := .bool known6) rfl rfl ?_)
    refine bool_split (known6) (fun h2 => ?_) (fun h2 => nomatch (show false = true from (show (lawQuadTells a b c d e f tame) = _ from (eT h1 (eF h2 rfl))).symm.trans H))
    refine ar_gd (d := (some 57)) (by show (known6 == true) = true; rw [h2]; rfl) rfl (st_lda (g := g3) (off := 0) (vs := [.int .i64 (((quadNear (hTame a b) (hTame c d) (hTame e f)).1).lo), .int .i64 (((quadNear (hTame a b) (hTame c d) (hTame e f)).1).hi), .bool (((quadNear (hTame a b) (hTame c d) (hTame e f)).1).no)]) agg35 1 rfl rfl rfl rfl rfl rfl ?_)
    refine ar_gd (d := (some 58)) (by show (known6 == true) = true; rw [h2]; rfl) rfl (st_lda (g := g4) (off := 0) (vs := [.int .i64 (((rNear (hTame a b) (hTame c d) (hTame e f)).1).lo), .int .i64 (((rNear (hTame a b) (hTame c d) (hTame e f)).1).hi), .bool (((rNear (hTame a b) (hTame c d) (hTame e f)).1).no)]) agg35 0 rfl rfl rfl rfl rfl rfl ?_)
    refine ar_gd (d := (some 59)) (by show (known6 == true) = true; rw [h2]; rfl) rfl (st_bi (u := .agg #[.int .i64 (((quadNear (hTame a b) (hTame c d) (hTame e f)).1).lo), .int .i64 (((quadNear (hTame a b) (hTame c d) (hTame e f)).1).hi), .bool (((quadNear (hTame a b) (hTame c d) (hTame e f)).1).no)]) (v := .agg #[.int .i64 (((rNear (hTame a b) (hTame c d) (hTame e f)).1).lo), .int .i64 (((rNear (hTame a b) (hTame c d) (hTame e f)).1).hi), .bool (((rNear (hTame a b) (hTame c d) (hTame e f)).1).no)]) (r := .bool (decide (((quadNear (hTame a b) (hTame c d) (hTame e f)).1) = ((rNear (hTame a b) (hTame c d) (hTame e f)).1)))) rfl rfl rfl (beql_35 ((quadNear (hTame a b) (hTame c d) (hTame e f)).1) ((rNear (hTame a b) (hTame c d) (hTame e f)).1) rfl) ?_)
    refine ao 60 rfl rfl (st_pkt' (b := known6) (v := .bool (decide (((quadNear (hTame a b) (hTame c d) (hTame e f)).1) = ((rNear (hTame a b) (hTame c d) (hTame e f)).1)))) h2 rfl rfl rfl ?_)
    refine ao 61 rfl rfl (st_move (v := .bool (decide (((quadNear (hTame a b) (hTame c d) (hTame e f)).1) = ((rNear (hTame a b) (hTame c d) (hTame e f)).1)))) rfl rfl ?_)
    refine bool_split (decide (((quadNear (hTame a b) (hTame c d) (hTame e f)).1) = ((rNear (hTame a b) (hTame c d) (hTame e f)).1))) (fun h3 => ?_) (fun h3 => nomatch (show false = true from (show (lawQuadTells a b c d e f tame) = _ from (eT h1 (eT h2 (eF h3 rfl)))).symm.trans H))
    refine ar_gd (d := (some 62)) (by show ((decide (((quadNear (hTame a b) (hTame c d) (hTame e f)).1) = ((rNear (hTame a b) (hTame c d) (hTame e f)).1))) == true) = true; rw [h3]; rfl) rfl (st_move (v := .int .i64 ((quadNear (hTame a b) (hTame c d) (hTame e f)).2)) rfl rfl ?_)
    refine ar_gd (d := (some 63)) (by show ((decide (((quadNear (hTame a b) (hTame c d) (hTame e f)).1) = ((rNear (hTame a b) (hTame c d) (hTame e f)).1))) == true) = true; rw [h3]; rfl) rfl (st_move (v := .int .i64 ((rNear (hTame a b) (hTame c d) (hTame e f)).2)) rfl rfl ?_)
    refine ar_gd (d := (some 64)) (by show ((decide (((quadNear (hTame a b) (hTame c d) (hTame e f)).1) = ((rNear (hTame a b) (hTame c d) (hTame e f)).1))) == true) = true; rw [h3]; rfl) rfl (st_bi (u := .int .i64 ((quadNear (hTame a b) (hTame c d) (hTame e f)).2)) (v := .int .i64 ((rNear (hTame a b) (hTame c d) (hTame e f)).2)) (r := .bool (((quadNear (hTame a b) (hTame c d) (hTame e f)).2) == ((rNear (hTame a b) (hTame c d) (hTame e f)).2))) rfl rfl rfl (bi_eql rfl) ?_)
    refine ao 65 rfl rfl (st_pkt' (b := decide (((quadNear (hTame a b) (hTame c d) (hTame e f)).1) = ((rNear (hTame a b) (hTame c d) (hTame e f)).1))) (v := .bool (((quadNear (hTame a b) (hTame c d) (hTame e f)).2) == ((rNear (hTame a b) (hTame c d) (hTame e f)).2))) h3 rfl rfl rfl ?_)
    refine ao 14 rfl rfl (st_assign (v := .bool (((quadNear (hTame a b) (hTame c d) (hTame e f)).2) == ((rNear (hTame a b) (hTame c d) (hTame e f)).2))) rfl rfl ?_)
    refine ar_nil ?_
    refine ac_ret ?_
    exact fin_eq (v := .bool (((quadNear (hTame a b) (hTame c d) (hTame e f)).2) == ((rNear (hTame a b) (hTame c d) (hTame e f)).2))) (congrArg Value.bool (show (((quadNear (hTame a b) (hTame c d) (hTame e f)).2) == ((rNear (hTame a b) (hTame c d) (hTame e f)).2)) = true from (show (lawQuadTells a b c d e f tame) = _ from (eT h1 (eT h2 (eT h3 rfl)))).symm.trans H)) (fin_ret (res_tmp rfl rfl))
  · refine ac_else' (b := tame) h1 rfl ?_
    refine ac_skip ?_
    refine ac_seq ?_
    refine ac_region_lit ?_
    refine ao 42 rfl rfl (st_lda (g := g0) (off := 0) (vs := [.int .i64 ((hIv a b).lo), .int .i64 ((hIv a b).hi), .bool ((hIv a b).no)]) agg35 2 rfl rfl rfl rfl rfl rfl ?_)
    refine ao 43 rfl rfl (st_lda (g := g1) (off := 0) (vs := [.int .i64 ((hIv c d).lo), .int .i64 ((hIv c d).hi), .bool ((hIv c d).no)]) agg35 1 rfl rfl rfl rfl rfl rfl ?_)
    refine ao 44 rfl rfl (st_lda (g := g2) (off := 0) (vs := [.int .i64 ((hIv e f).lo), .int .i64 ((hIv e f).hi), .bool ((hIv e f).no)]) agg35 0 rfl rfl rfl rfl rfl rfl ?_)
    refine ao 45 rfl rfl (st_cf (vs := [.agg #[.int .i64 ((hIv a b).lo), .int .i64 ((hIv a b).hi), .bool ((hIv a b).no)], .agg #[.int .i64 ((hIv c d).lo), .int .i64 ((hIv c d).hi), .bool ((hIv c d).no)], .agg #[.int .i64 ((hIv e f).lo), .int .i64 ((hIv e f).hi), .bool ((hIv e f).no)]]) (r := .tuple #[.agg #[.int .i64 (((quadNear (hIv a b) (hIv c d) (hIv e f)).1).lo), .int .i64 (((quadNear (hIv a b) (hIv c d) (hIv e f)).1).hi), .bool (((quadNear (hIv a b) (hIv c d) (hIv e f)).1).no)], .int .i64 ((quadNear (hIv a b) (hIv c d) (hIv e f)).2)]) (c_quadNear (hIv a b) (hIv c d) (hIv e f)) Try.func83 rfl (by decide) rfl rfl rfl ?_)
    refine ao 41 rfl rfl (st_move (v := .tuple #[.agg #[.int .i64 (((quadNear (hIv a b) (hIv c d) (hIv e f)).1).lo), .int .i64 (((quadNear (hIv a b) (hIv c d) (hIv e f)).1).hi), .bool (((quadNear (hIv a b) (hIv c d) (hIv e f)).1).no)], .int .i64 ((quadNear (hIv a b) (hIv c d) (hIv e f)).2)]) rfl rfl ?_)
    refine ao 46 rfl rfl (st_ex (vs := [.agg #[.int .i64 (((quadNear (hIv a b) (hIv c d) (hIv e f)).1).lo), .int .i64 (((quadNear (hIv a b) (hIv c d) (hIv e f)).1).hi), .bool (((quadNear (hIv a b) (hIv c d) (hIv e f)).1).no)], .int .i64 ((quadNear (hIv a b) (hIv c d) (hIv e f)).2)]) (v := .agg #[.int .i64 (((quadNear (hIv a b) (hIv c d) (hIv e f)).1).lo), .int .i64 (((quadNear (hIv a b) (hIv c d) (hIv e f)).1).hi), .bool (((quadNear (hIv a b) (hIv c d) (hIv e f)).1).no)]) rfl rfl rfl ?_)
    refine ao 47 rfl rfl (st_ex (vs := [.agg #[.int .i64 (((quadNear (hIv a b) (hIv c d) (hIv e f)).1).lo), .int .i64 (((quadNear (hIv a b) (hIv c d) (hIv e f)).1).hi), .bool (((quadNear (hIv a b) (hIv c d) (hIv e f)).1).no)], .int .i64 ((quadNear (hIv a b) (hIv c d) (hIv e f)).2)]) (v := .int .i64 ((quadNear (hIv a b) (hIv c d) (hIv e f)).2)) rfl rfl rfl ?_)
    refine ao 18 rfl rfl (st_new zero35 rfl fun g3 => ?_)
    refine ar_op (d := none) rfl rfl (st_sta (g := g3) (off := 0) (us := [.int .i64 (((quadNear (hIv a b) (hIv c d) (hIv e f)).1).lo), .int .i64 (((quadNear (hIv a b) (hIv c d) (hIv e f)).1).hi), .bool (((quadNear (hIv a b) (hIv c d) (hIv e f)).1).no)]) (cs := [.int .i64 (((quadNear (hIv a b) (hIv c d) (hIv e f)).1).lo), .int .i64 (((quadNear (hIv a b) (hIv c d) (hIv e f)).1).hi), .bool (((quadNear (hIv a b) (hIv c d) (hIv e f)).1).no)]) agg35 0 rfl rfl rfl rfl rfl rfl rfl rfl rfl ?_)
    refine ao 19 rfl rfl (st_assign (v := .int .i64 ((quadNear (hIv a b) (hIv c d) (hIv e f)).2)) rfl rfl ?_)
    refine ar_nil ?_
    refine ac_seq ?_
    refine ac_region_lit ?_
    refine ao 49 rfl rfl (st_lda (g := g0) (off := 0) (vs := [.int .i64 ((hIv a b).lo), .int .i64 ((hIv a b).hi), .bool ((hIv a b).no)]) agg35 3 rfl rfl rfl rfl rfl rfl ?_)
    refine ao 50 rfl rfl (st_lda (g := g1) (off := 0) (vs := [.int .i64 ((hIv c d).lo), .int .i64 ((hIv c d).hi), .bool ((hIv c d).no)]) agg35 2 rfl rfl rfl rfl rfl rfl ?_)
    refine ao 51 rfl rfl (st_lda (g := g2) (off := 0) (vs := [.int .i64 ((hIv e f).lo), .int .i64 ((hIv e f).hi), .bool ((hIv e f).no)]) agg35 1 rfl rfl rfl rfl rfl rfl ?_)
    refine ao 52 rfl rfl (st_cf (vs := [.agg #[.int .i64 ((hIv a b).lo), .int .i64 ((hIv a b).hi), .bool ((hIv a b).no)], .agg #[.int .i64 ((hIv c d).lo), .int .i64 ((hIv c d).hi), .bool ((hIv c d).no)], .agg #[.int .i64 ((hIv e f).lo), .int .i64 ((hIv e f).hi), .bool ((hIv e f).no)]]) (r := .tuple #[.agg #[.int .i64 (((rNear (hIv a b) (hIv c d) (hIv e f)).1).lo), .int .i64 (((rNear (hIv a b) (hIv c d) (hIv e f)).1).hi), .bool (((rNear (hIv a b) (hIv c d) (hIv e f)).1).no)], .int .i64 ((rNear (hIv a b) (hIv c d) (hIv e f)).2)]) (c_rNear (hIv a b) (hIv c d) (hIv e f)) Try.func86 rfl (by decide) rfl rfl rfl ?_)
    refine ao 48 rfl rfl (st_move (v := .tuple #[.agg #[.int .i64 (((rNear (hIv a b) (hIv c d) (hIv e f)).1).lo), .int .i64 (((rNear (hIv a b) (hIv c d) (hIv e f)).1).hi), .bool (((rNear (hIv a b) (hIv c d) (hIv e f)).1).no)], .int .i64 ((rNear (hIv a b) (hIv c d) (hIv e f)).2)]) rfl rfl ?_)
    refine ao 53 rfl rfl (st_ex (vs := [.agg #[.int .i64 (((rNear (hIv a b) (hIv c d) (hIv e f)).1).lo), .int .i64 (((rNear (hIv a b) (hIv c d) (hIv e f)).1).hi), .bool (((rNear (hIv a b) (hIv c d) (hIv e f)).1).no)], .int .i64 ((rNear (hIv a b) (hIv c d) (hIv e f)).2)]) (v := .agg #[.int .i64 (((rNear (hIv a b) (hIv c d) (hIv e f)).1).lo), .int .i64 (((rNear (hIv a b) (hIv c d) (hIv e f)).1).hi), .bool (((rNear (hIv a b) (hIv c d) (hIv e f)).1).no)]) rfl rfl rfl ?_)
    refine ao 54 rfl rfl (st_ex (vs := [.agg #[.int .i64 (((rNear (hIv a b) (hIv c d) (hIv e f)).1).lo), .int .i64 (((rNear (hIv a b) (hIv c d) (hIv e f)).1).hi), .bool (((rNear (hIv a b) (hIv c d) (hIv e f)).1).no)], .int .i64 ((rNear (hIv a b) (hIv c d) (hIv e f)).2)]) (v := .int .i64 ((rNear (hIv a b) (hIv c d) (hIv e f)).2)) rfl rfl rfl ?_)
    refine ao 20 rfl rfl (st_new zero35 rfl fun g4 => ?_)
    refine ar_op (d := none) rfl rfl (st_sta (g := g4) (off := 0) (us := [.int .i64 (((rNear (hIv a b) (hIv c d) (hIv e f)).1).lo), .int .i64 (((rNear (hIv a b) (hIv c d) (hIv e f)).1).hi), .bool (((rNear (hIv a b) (hIv c d) (hIv e f)).1).no)]) (cs := [.int .i64 (((rNear (hIv a b) (hIv c d) (hIv e f)).1).lo), .int .i64 (((rNear (hIv a b) (hIv c d) (hIv e f)).1).hi), .bool (((rNear (hIv a b) (hIv c d) (hIv e f)).1).no)]) agg35 0 rfl rfl rfl rfl rfl rfl rfl rfl rfl ?_)
    refine ao 21 rfl rfl (st_assign (v := .int .i64 ((rNear (hIv a b) (hIv c d) (hIv e f)).2)) rfl rfl ?_)
    refine ar_nil ?_
    refine ac_seq ?_
    refine ac_region_lit ?_
    refine ao 55 rfl rfl (st_cf (vs := []) (r := .bool known6) c_known6 Try.func85 rfl (by decide) rfl rfl rfl ?_)
    refine ao 56 rfl rfl (st_move (v := .bool known6) rfl rfl ?_)
    refine bool_split (known6) (fun h2 => ?_) (fun h2 => nomatch (show false = true from (show (lawQuadTells a b c d e f tame) = _ from (eF h1 (eF h2 rfl))).symm.trans H))
    refine ar_gd (d := (some 57)) (by show (known6 == true) = true; rw [h2]; rfl) rfl (st_lda (g := g3) (off := 0) (vs := [.int .i64 (((quadNear (hIv a b) (hIv c d) (hIv e f)).1).lo), .int .i64 (((quadNear (hIv a b) (hIv c d) (hIv e f)).1).hi), .bool (((quadNear (hIv a b) (hIv c d) (hIv e f)).1).no)]) agg35 1 rfl rfl rfl rfl rfl rfl ?_)
    refine ar_gd (d := (some 58)) (by show (known6 == true) = true; rw [h2]; rfl) rfl (st_lda (g := g4) (off := 0) (vs := [.int .i64 (((rNear (hIv a b) (hIv c d) (hIv e f)).1).lo), .int .i64 (((rNear (hIv a b) (hIv c d) (hIv e f)).1).hi), .bool (((rNear (hIv a b) (hIv c d) (hIv e f)).1).no)]) agg35 0 rfl rfl rfl rfl rfl rfl ?_)
    refine ar_gd (d := (some 59)) (by show (known6 == true) = true; rw [h2]; rfl) rfl (st_bi (u := .agg #[.int .i64 (((quadNear (hIv a b) (hIv c d) (hIv e f)).1).lo), .int .i64 (((quadNear (hIv a b) (hIv c d) (hIv e f)).1).hi), .bool (((quadNear (hIv a b) (hIv c d) (hIv e f)).1).no)]) (v := .agg #[.int .i64 (((rNear (hIv a b) (hIv c d) (hIv e f)).1).lo), .int .i64 (((rNear (hIv a b) (hIv c d) (hIv e f)).1).hi), .bool (((rNear (hIv a b) (hIv c d) (hIv e f)).1).no)]) (r := .bool (decide (((quadNear (hIv a b) (hIv c d) (hIv e f)).1) = ((rNear (hIv a b) (hIv c d) (hIv e f)).1)))) rfl rfl rfl (beql_35 ((quadNear (hIv a b) (hIv c d) (hIv e f)).1) ((rNear (hIv a b) (hIv c d) (hIv e f)).1) rfl) ?_)
    refine ao 60 rfl rfl (st_pkt' (b := known6) (v := .bool (decide (((quadNear (hIv a b) (hIv c d) (hIv e f)).1) = ((rNear (hIv a b) (hIv c d) (hIv e f)).1)))) h2 rfl rfl rfl ?_)
    refine ao 61 rfl rfl (st_move (v := .bool (decide (((quadNear (hIv a b) (hIv c d) (hIv e f)).1) = ((rNear (hIv a b) (hIv c d) (hIv e f)).1)))) rfl rfl ?_)
    refine bool_split (decide (((quadNear (hIv a b) (hIv c d) (hIv e f)).1) = ((rNear (hIv a b) (hIv c d) (hIv e f)).1))) (fun h3 => ?_) (fun h3 => nomatch (show false = true from (show (lawQuadTells a b c d e f tame) = _ from (eF h1 (eT h2 (eF h3 rfl)))).symm.trans H))
    refine ar_gd (d := (some 62)) (by show ((decide (((quadNear (hIv a b) (hIv c d) (hIv e f)).1) = ((rNear (hIv a b) (hIv c d) (hIv e f)).1))) == true) = true; rw [h3]; rfl) rfl (st_move (v := .int .i64 ((quadNear (hIv a b) (hIv c d) (hIv e f)).2)) rfl rfl ?_)
    refine ar_gd (d := (some 63)) (by show ((decide (((quadNear (hIv a b) (hIv c d) (hIv e f)).1) = ((rNear (hIv a b) (hIv c d) (hIv e f)).1))) == true) = true; rw [h3]; rfl) rfl (st_move (v := .int .i64 ((rNear (hIv a b) (hIv c d) (hIv e f)).2)) rfl rfl ?_)
    refine ar_gd (d := (some 64)) (by show ((decide (((quadNear (hIv a b) (hIv c d) (hIv e f)).1) = ((rNear (hIv a b) (hIv c d) (hIv e f)).1))) == true) = true; rw [h3]; rfl) rfl (st_bi (u := .int .i64 ((quadNear (hIv a b) (hIv c d) (hIv e f)).2)) (v := .int .i64 ((rNear (hIv a b) (hIv c d) (hIv e f)).2)) (r := .bool (((quadNear (hIv a b) (hIv c d) (hIv e f)).2) == ((rNear (hIv a b) (hIv c d) (hIv e f)).2))) rfl rfl rfl (bi_eql rfl) ?_)
    refine ao 65 rfl rfl (st_pkt' (b := decide (((quadNear (hIv a b) (hIv c d) (hIv e f)).1) = ((rNear (hIv a b) (hIv c d) (hIv e f)).1))) (v := .bool (((quadNear (hIv a b) (hIv c d) (hIv e f)).2) == ((rNear (hIv a b) (hIv c d) (hIv e f)).2))) h3 rfl rfl rfl ?_)
    refine ao 14 rfl rfl (st_assign (v := .bool (((quadNear (hIv a b) (hIv c d) (hIv e f)).2) == ((rNear (hIv a b) (hIv c d) (hIv e f)).2))) rfl rfl ?_)
    refine ar_nil ?_
    refine ac_ret ?_
    exact fin_eq (v := .bool (((quadNear (hIv a b) (hIv c d) (hIv e f)).2) == ((rNear (hIv a b) (hIv c d) (hIv e f)).2))) (congrArg Value.bool (show (((quadNear (hIv a b) (hIv c d) (hIv e f)).2) == ((rNear (hIv a b) (hIv c d) (hIv e f)).2)) = true from (show (lawQuadTells a b c d e f tame) = _ from (eF h1 (eT h2 (eT h3 rfl)))).symm.trans H)) (fin_ret (res_tmp rfl rfl))
end Go.Proofs.Ytbaihncnbejjbaa
