import Derived.Test.YthngkopcadlciaaMSceneFirst1
set_option linter.unusedVariables false
set_option linter.unusedSimpArgs false
namespace Go.Proofs.Ythngkopcadlciaa
open Go.RowKit
attribute [local irreducible] AC AR DWalk
def rRight (a : Iv) : Bool := (bif a.no then false else (bif rIn a.lo then (bif rIn a.hi then decide (a.lo ≤ a.hi) else false) else false))
set_option maxRecDepth 100000 in
theorem c_rRight (a : Iv) : Gets Try.prog 40 #[.agg #[.int .i64 a.lo, .int .i64 a.hi, .bool a.no]] ((fun (r : Bool) => (.bool r : Value)) (rRight a)) := by
  refine gets_fin Try.func40 rfl rfl rfl ?_
  refine ac_seq ?_
  refine ac_region_lit ?_
  refine ao 1 rfl rfl (st_box (v := .agg #[.int .i64 a.lo, .int .i64 a.hi, .bool a.no]) (cs := [.int .i64 a.lo, .int .i64 a.hi, .bool a.no]) rfl rfl rfl fun g0 => ?_)
  refine ao 2 rfl rfl (st_assign (v := .bool false) rfl rfl ?_)
  refine ar_nil ?_
  refine ac_seq ?_
  refine ac_region_lit ?_
  refine ao 3 rfl rfl (st_fa (g := g0) (off := 0) rfl fa26_2 rfl ?_)
  refine ao 4 rfl rfl (st_ldc (g := g0) (off := 2) (v := .bool a.no) cell4 0 rfl rfl rfl rfl rfl ?_)
  refine ao 5 rfl rfl (st_un (u := .bool a.no) (v := .bool (!a.no)) rfl rfl (un_not rfl) ?_)
  refine ao 6 rfl rfl (st_move (v := .bool (!a.no)) rfl rfl ?_)
  refine bool_split (a.no) (fun h1 => ?_) (fun h1 => ?_)
  · refine ar_sk (d := (some 7)) (by show ((!a.no) == true) = false; rw [h1]; rfl) rfl ?_
    refine ar_sk (d := (some 8)) (by show ((!a.no) == true) = false; rw [h1]; rfl) rfl ?_
    refine ar_sk (d := (some 9)) (by show ((!a.no) == true) = false; rw [h1]; rfl) rfl ?_
    refine ao 10 rfl rfl (st_pkf' (b := !a.no) (v := .bool false) (by rw [h1]; rfl) rfl rfl rfl ?_)
    refine ao 11 rfl rfl (st_move (v := .bool false) rfl rfl ?_)
    refine ar_sk (d := (some 12)) rfl rfl ?_
    refine ar_sk (d := (some 13)) rfl rfl ?_
    refine ar_sk (d := (some 14)) rfl rfl ?_
    refine ao 15 rfl rfl (st_pkf (v := .bool false) rfl rfl rfl ?_)
    refine ao 16 rfl rfl (st_move (v := .bool false) rfl rfl ?_)
    refine ar_sk (d := (some 17)) rfl rfl ?_
    refine ar_sk (d := (some 18)) rfl rfl ?_
    refine ar_sk (d := (some 19)) rfl rfl ?_
    refine ar_sk (d := (some 20)) rfl rfl ?_
    refine ar_sk (d := (some 21)) rfl rfl ?_
    refine ao 22 rfl rfl (st_pkf (v := .bool false) rfl rfl rfl ?_)
    refine ao 2 rfl rfl (st_assign (v := .bool false) rfl rfl ?_)
    refine ar_nil ?_
    refine ac_ret ?_
    exact fin_eq (v := .bool false) (by show _ = (fun (r : Bool) => (.bool r : Value)) (rRight a); rw [rRight, h1] <;> rfl) (fin_ret (res_tmp rfl rfl))
  · refine ar_gd (d := (some 7)) (by show ((!a.no) == true) = true; rw [h1]; rfl) rfl (st_fa (g := g0) (off := 0) rfl fa26_0 rfl ?_)
    refine ar_gd (d := (some 8)) (by show ((!a.no) == true) = true; rw [h1]; rfl) rfl (st_ldc (g := g0) (off := 0) (v := .int .i64 a.lo) cell3 0 rfl rfl rfl rfl rfl ?_)
    refine ar_gd (d := (some 9)) (by show ((!a.no) == true) = true; rw [h1]; rfl) rfl (st_cf (vs := [.int .i64 a.lo]) (r := .bool (rIn a.lo)) (c_rIn a.lo) Try.func92 rfl (by decide) rfl rfl rfl ?_)
    refine ao 10 rfl rfl (st_pkt' (b := !a.no) (v := .bool (rIn a.lo)) (by rw [h1]; rfl) rfl rfl rfl ?_)
    refine ao 11 rfl rfl (st_move (v := .bool (rIn a.lo)) rfl rfl ?_)
    refine bool_split (rIn a.lo) (fun h2 => ?_) (fun h2 => ?_)
    · refine ar_gd (d := (some 12)) (by show ((rIn a.lo) == true) = true; rw [h2]; rfl) rfl (st_fa (g := g0) (off := 0) rfl fa26_1 rfl ?_)
      refine ar_gd (d := (some 13)) (by show ((rIn a.lo) == true) = true; rw [h2]; rfl) rfl (st_ldc (g := g0) (off := 1) (v := .int .i64 a.hi) cell3 0 rfl rfl rfl rfl rfl ?_)
      refine ar_gd (d := (some 14)) (by show ((rIn a.lo) == true) = true; rw [h2]; rfl) rfl (st_cf (vs := [.int .i64 a.hi]) (r := .bool (rIn a.hi)) (c_rIn a.hi) Try.func92 rfl (by decide) rfl rfl rfl ?_)
      refine ao 15 rfl rfl (st_pkt' (b := rIn a.lo) (v := .bool (rIn a.hi)) h2 rfl rfl rfl ?_)
      refine ao 16 rfl rfl (st_move (v := .bool (rIn a.hi)) rfl rfl ?_)
      refine bool_split (rIn a.hi) (fun h3 => ?_) (fun h3 => ?_)
      · refine ar_gd (d := (some 17)) (by show ((rIn a.hi) == true) = true; rw [h3]; rfl) rfl (st_fa (g := g0) (off := 0) rfl fa26_0 rfl ?_)
        refine ar_gd (d := (some 18)) (by show ((rIn a.hi) == true) = true; rw [h3]; rfl) rfl (st_ldc (g := g0) (off := 0) (v := .int .i64 a.lo) cell3 0 rfl rfl rfl rfl rfl ?_)
        refine ar_gd (d := (some 19)) (by show ((rIn a.hi) == true) = true; rw [h3]; rfl) rfl (st_fa (g := g0) (off := 0) rfl fa26_1 rfl ?_)
        refine ar_gd (d := (some 20)) (by show ((rIn a.hi) == true) = true; rw [h3]; rfl) rfl (st_ldc (g := g0) (off := 1) (v := .int .i64 a.hi) cell3 0 rfl rfl rfl rfl rfl ?_)
        refine ar_gd (d := (some 21)) (by show ((rIn a.hi) == true) = true; rw [h3]; rfl) rfl (st_bi (u := .int .i64 a.lo) (v := .int .i64 a.hi) (r := .bool (decide (a.lo ≤ a.hi))) rfl rfl rfl (bi_leq rfl) ?_)
        refine ao 22 rfl rfl (st_pkt' (b := rIn a.hi) (v := .bool (decide (a.lo ≤ a.hi))) h3 rfl rfl rfl ?_)
        refine ao 2 rfl rfl (st_assign (v := .bool (decide (a.lo ≤ a.hi))) rfl rfl ?_)
        refine ar_nil ?_
        refine ac_ret ?_
        exact fin_eq (v := .bool (decide (a.lo ≤ a.hi))) (by show _ = (fun (r : Bool) => (.bool r : Value)) (rRight a); rw [rRight, h3, h2, h1] <;> rfl) (fin_ret (res_tmp rfl rfl))
      · refine ar_sk (d := (some 17)) (by show ((rIn a.hi) == true) = false; rw [h3]; rfl) rfl ?_
        refine ar_sk (d := (some 18)) (by show ((rIn a.hi) == true) = false; rw [h3]; rfl) rfl ?_
        refine ar_sk (d := (some 19)) (by show ((rIn a.hi) == true) = false; rw [h3]; rfl) rfl ?_
        refine ar_sk (d := (some 20)) (by show ((rIn a.hi) == true) = false; rw [h3]; rfl) rfl ?_
        refine ar_sk (d := (some 21)) (by show ((rIn a.hi) == true) = false; rw [h3]; rfl) rfl ?_
        refine ao 22 rfl rfl (st_pkf' (b := rIn a.hi) (v := .bool false) h3 rfl rfl rfl ?_)
        refine ao 2 rfl rfl (st_assign (v := .bool false) rfl rfl ?_)
        refine ar_nil ?_
        refine ac_ret ?_
        exact fin_eq (v := .bool false) (by show _ = (fun (r : Bool) => (.bool r : Value)) (rRight a); rw [rRight, h3, h2, h1] <;> rfl) (fin_ret (res_tmp rfl rfl))
    · refine ar_sk (d := (some 12)) (by show ((rIn a.lo) == true) = false; rw [h2]; rfl) rfl ?_
      refine ar_sk (d := (some 13)) (by show ((rIn a.lo) == true) = false; rw [h2]; rfl) rfl ?_
      refine ar_sk (d := (some 14)) (by show ((rIn a.lo) == true) = false; rw [h2]; rfl) rfl ?_
      refine ao 15 rfl rfl (st_pkf' (b := rIn a.lo) (v := .bool false) h2 rfl rfl rfl ?_)
      refine ao 16 rfl rfl (st_move (v := .bool false) rfl rfl ?_)
      refine ar_sk (d := (some 17)) rfl rfl ?_
      refine ar_sk (d := (some 18)) rfl rfl ?_
      refine ar_sk (d := (some 19)) rfl rfl ?_
      refine ar_sk (d := (some 20)) rfl rfl ?_
      refine ar_sk (d := (some 21)) rfl rfl ?_
      refine ao 22 rfl rfl (st_pkf (v := .bool false) rfl rfl rfl ?_)
      refine ao 2 rfl rfl (st_assign (v := .bool false) rfl rfl ?_)
      refine ar_nil ?_
      refine ac_ret ?_
      exact fin_eq (v := .bool false) (by show _ = (fun (r : Bool) => (.bool r : Value)) (rRight a); rw [rRight, h2, h1] <;> rfl) (fin_ret (res_tmp rfl rfl))
def rNone  : Iv := (⟨0, 0, true⟩ : Iv)
set_option maxRecDepth 100000 in
theorem c_rNone  : Gets Try.prog 111 #[] (Iv.v rNone) := by
  refine gets_fin Try.func111 rfl rfl rfl ?_
  refine ac_seq ?_
  refine ac_region_lit ?_
  refine ao 0 rfl rfl (st_new zero26 rfl fun g0 => ?_)
  refine ar_nil ?_
  refine ac_seq ?_
  refine ac_region_lit ?_
  refine ao 1 rfl rfl (st_bd (us := [(2, .bool true)]) (v := .agg #[.int .i64 0, .int .i64 0, .bool true]) rfl rfl (bd26_2 _) ?_)
  refine ar_op (d := none) rfl rfl (st_sta (g := g0) (off := 0) (us := [.int .i64 0, .int .i64 0, .bool true]) (cs := [.int .i64 0, .int .i64 0, .bool true]) agg26 0 rfl rfl rfl rfl rfl rfl rfl rfl rfl ?_)
  refine ar_nil ?_
  refine ac_ret ?_
  exact fin_eq (v := .agg #[.int .i64 0, .int .i64 0, .bool true]) rfl (fin_ret (res_c (vs := [.int .i64 0, .int .i64 0, .bool true]) agg26 0 rfl rfl rfl rfl rfl rfl))
def rOf (l : Int) (h : Int) : Iv := (bif rRight (⟨l, h, false⟩ : Iv) then (⟨l, h, false⟩ : Iv) else rNone)
set_option maxRecDepth 100000 in
theorem c_rOf (l : Int) (h : Int) : Gets Try.prog 112 #[.int .i64 l, .int .i64 h] (Iv.v (rOf l h)) := by
  refine gets_fin Try.func112 rfl rfl rfl ?_
  refine ac_seq ?_
  refine ac_region_lit ?_
  refine ao 4 rfl rfl (st_new zero26 rfl fun g0 => ?_)
  refine ar_nil ?_
  refine ac_seq ?_
  refine ac_region_lit ?_
  refine ao 6 rfl rfl (st_move (v := .int .i64 l) rfl rfl ?_)
  refine ao 7 rfl rfl (st_move (v := .int .i64 h) rfl rfl ?_)
  refine ao 8 rfl rfl (st_bd (us := [(0, .int .i64 l), (1, .int .i64 h)]) (v := .agg #[.int .i64 l, .int .i64 h, .bool false]) rfl rfl (bd26_0_1 _ _) ?_)
  refine ao 5 rfl rfl (st_new zero26 rfl fun g1 => ?_)
  refine ar_op (d := none) rfl rfl (st_sta (g := g1) (off := 0) (us := [.int .i64 l, .int .i64 h, .bool false]) (cs := [.int .i64 l, .int .i64 h, .bool false]) agg26 0 rfl rfl rfl rfl rfl rfl rfl rfl rfl ?_)
  refine ar_nil ?_
  refine ac_seq ?_
  refine ac_seq ?_
  refine ac_region_lit ?_
  refine ao 9 rfl rfl (st_lda (g := g1) (off := 0) (vs := [.int .i64 l, .int .i64 h, .bool false]) agg26 0 rfl rfl rfl rfl rfl rfl ?_)
  refine ao 10 rfl rfl (st_cf (vs := [.agg #[.int .i64 l, .int .i64 h, .bool false]]) (r := .bool (rRight (⟨l, h, false⟩ : Iv))) (c_rRight (⟨l, h, false⟩ : Iv)) Try.func40 rfl (by decide) rfl rfl rfl ?_)
  refine ao 11 rfl rfl (st_un (u := .bool (rRight (⟨l, h, false⟩ : Iv))) (v := .bool (!(rRight (⟨l, h, false⟩ : Iv)))) rfl rfl (un_not rfl) ?_)
  refine ar_nil ?_
  refine bool_split (rRight (⟨l, h, false⟩ : Iv)) (fun h1 => ?_) (fun h1 => ?_)
  · refine ac_else' (b := !(rRight (⟨l, h, false⟩ : Iv))) (by rw [h1]; rfl) rfl ?_
    refine ac_skip ?_
    refine ac_seq ?_
    refine ac_region_lit ?_
    refine ao 13 rfl rfl (st_lda (g := g1) (off := 0) (vs := [.int .i64 l, .int .i64 h, .bool false]) agg26 0 rfl rfl rfl rfl rfl rfl ?_)
    refine ar_op (d := none) rfl rfl (st_sta (g := g0) (off := 0) (us := [.int .i64 l, .int .i64 h, .bool false]) (cs := [.int .i64 l, .int .i64 h, .bool false]) agg26 1 rfl rfl rfl rfl rfl rfl rfl rfl rfl ?_)
    refine ar_nil ?_
    refine ac_ret ?_
    exact fin_eq (v := .agg #[.int .i64 l, .int .i64 h, .bool false]) (by show _ = Iv.v (rOf l h); rw [rOf, h1] <;> rfl) (fin_ret (res_c (vs := [.int .i64 l, .int .i64 h, .bool false]) agg26 1 rfl rfl rfl rfl rfl rfl))
  · refine ac_then' (b := !(rRight (⟨l, h, false⟩ : Iv))) (by rw [h1]; rfl) rfl ?_
    refine ac_seq ?_
    refine ac_region_lit ?_
    refine ao 12 rfl rfl (st_cf (vs := []) (r := .agg #[.int .i64 rNone.lo, .int .i64 rNone.hi, .bool rNone.no]) c_rNone Try.func111 rfl (by decide) rfl rfl rfl ?_)
    refine ar_op (d := none) rfl rfl (st_sta (g := g0) (off := 0) (us := [.int .i64 rNone.lo, .int .i64 rNone.hi, .bool rNone.no]) (cs := [.int .i64 rNone.lo, .int .i64 rNone.hi, .bool rNone.no]) agg26 1 rfl rfl rfl rfl rfl rfl rfl rfl rfl ?_)
    refine ar_nil ?_
    refine ac_ret ?_
    exact fin_eq (v := .agg #[.int .i64 rNone.lo, .int .i64 rNone.hi, .bool rNone.no]) (by show _ = Iv.v (rOf l h); rw [rOf, h1] <;> rfl) (fin_ret (res_c (vs := [.int .i64 rNone.lo, .int .i64 rNone.hi, .bool rNone.no]) agg26 1 rfl rfl rfl rfl rfl rfl))
def rPoint (n : Int) : Iv := (rOf n n)
set_option maxRecDepth 100000 in
theorem c_rPoint (n : Int) : Gets Try.prog 80 #[.int .i64 n] (Iv.v (rPoint n)) := by
  refine gets_fin Try.func80 rfl rfl rfl ?_
  refine ac_seq ?_
  refine ac_region_lit ?_
  refine ao 2 rfl rfl (st_new zero26 rfl fun g0 => ?_)
  refine ar_nil ?_
  refine ac_seq ?_
  refine ac_region_lit ?_
  refine ao 3 rfl rfl (st_move (v := .int .i64 n) rfl rfl ?_)
  refine ao 4 rfl rfl (st_move (v := .int .i64 n) rfl rfl ?_)
  refine ao 5 rfl rfl (st_cf (vs := [.int .i64 n, .int .i64 n]) (r := .agg #[.int .i64 ((rOf n n).lo), .int .i64 ((rOf n n).hi), .bool ((rOf n n).no)]) (c_rOf n n) Try.func112 rfl (by decide) rfl rfl rfl ?_)
  refine ar_op (d := none) rfl rfl (st_sta (g := g0) (off := 0) (us := [.int .i64 ((rOf n n).lo), .int .i64 ((rOf n n).hi), .bool ((rOf n n).no)]) (cs := [.int .i64 ((rOf n n).lo), .int .i64 ((rOf n n).hi), .bool ((rOf n n).no)]) agg26 0 rfl rfl rfl rfl rfl rfl rfl rfl rfl ?_)
  refine ar_nil ?_
  refine ac_ret ?_
  exact fin_eq (v := .agg #[.int .i64 ((rOf n n).lo), .int .i64 ((rOf n n).hi), .bool ((rOf n n).no)]) rfl (fin_ret (res_c (vs := [.int .i64 ((rOf n n).lo), .int .i64 ((rOf n n).hi), .bool ((rOf n n).no)]) agg26 0 rfl rfl rfl rfl rfl rfl))
def rWhole (n : Int) : Iv := (bif rIn n then (rPoint (w64 (n * 65536))) else rNone)
set_option maxRecDepth 100000 in
theorem c_rWhole (n : Int) : Gets Try.prog 88 #[.int .i64 n] (Iv.v (rWhole n)) := by
  refine gets_fin Try.func88 rfl rfl rfl ?_
  refine ac_seq ?_
  refine ac_region_lit ?_
  refine ao 2 rfl rfl (st_new zero26 rfl fun g0 => ?_)
  refine ar_nil ?_
  refine ac_seq ?_
  refine ac_seq ?_
  refine ac_region_lit ?_
  refine ao 3 rfl rfl (st_move (v := .int .i64 n) rfl rfl ?_)
  refine ao 4 rfl rfl (st_cf (vs := [.int .i64 n]) (r := .bool (rIn n)) (c_rIn n) Try.func92 rfl (by decide) rfl rfl rfl ?_)
  refine ao 5 rfl rfl (st_un (u := .bool (rIn n)) (v := .bool (!(rIn n))) rfl rfl (un_not rfl) ?_)
  refine ar_nil ?_
  refine bool_split (rIn n) (fun h1 => ?_) (fun h1 => ?_)
  · refine ac_else' (b := !(rIn n)) (by rw [h1]; rfl) rfl ?_
    refine ac_skip ?_
    refine ac_seq ?_
    refine ac_region_lit ?_
    refine ao 7 rfl rfl (st_move (v := .int .i64 n) rfl rfl ?_)
    refine ao 8 rfl rfl (st_bi (u := .int .i64 n) (v := .int .i64 65536) (r := .int .i64 (w64 (n * 65536))) rfl rfl rfl (bi_mul rfl) ?_)
    refine ao 9 rfl rfl (st_cf (vs := [.int .i64 (w64 (n * 65536))]) (r := .agg #[.int .i64 ((rPoint (w64 (n * 65536))).lo), .int .i64 ((rPoint (w64 (n * 65536))).hi), .bool ((rPoint (w64 (n * 65536))).no)]) (c_rPoint (w64 (n * 65536))) Try.func80 rfl (by decide) rfl rfl rfl ?_)
    refine ar_op (d := none) rfl rfl (st_sta (g := g0) (off := 0) (us := [.int .i64 ((rPoint (w64 (n * 65536))).lo), .int .i64 ((rPoint (w64 (n * 65536))).hi), .bool ((rPoint (w64 (n * 65536))).no)]) (cs := [.int .i64 ((rPoint (w64 (n * 65536))).lo), .int .i64 ((rPoint (w64 (n * 65536))).hi), .bool ((rPoint (w64 (n * 65536))).no)]) agg26 0 rfl rfl rfl rfl rfl rfl rfl rfl rfl ?_)
    refine ar_nil ?_
    refine ac_ret ?_
    exact fin_eq (v := .agg #[.int .i64 ((rPoint (w64 (n * 65536))).lo), .int .i64 ((rPoint (w64 (n * 65536))).hi), .bool ((rPoint (w64 (n * 65536))).no)]) (by show _ = Iv.v (rWhole n); rw [rWhole, h1] <;> rfl) (fin_ret (res_c (vs := [.int .i64 ((rPoint (w64 (n * 65536))).lo), .int .i64 ((rPoint (w64 (n * 65536))).hi), .bool ((rPoint (w64 (n * 65536))).no)]) agg26 0 rfl rfl rfl rfl rfl rfl))
  · refine ac_then' (b := !(rIn n)) (by rw [h1]; rfl) rfl ?_
    refine ac_seq ?_
    refine ac_region_lit ?_
    refine ao 6 rfl rfl (st_cf (vs := []) (r := .agg #[.int .i64 rNone.lo, .int .i64 rNone.hi, .bool rNone.no]) c_rNone Try.func111 rfl (by decide) rfl rfl rfl ?_)
    refine ar_op (d := none) rfl rfl (st_sta (g := g0) (off := 0) (us := [.int .i64 rNone.lo, .int .i64 rNone.hi, .bool rNone.no]) (cs := [.int .i64 rNone.lo, .int .i64 rNone.hi, .bool rNone.no]) agg26 0 rfl rfl rfl rfl rfl rfl rfl rfl rfl ?_)
    refine ar_nil ?_
    refine ac_ret ?_
    exact fin_eq (v := .agg #[.int .i64 rNone.lo, .int .i64 rNone.hi, .bool rNone.no]) (by show _ = Iv.v (rWhole n); rw [rWhole, h1] <;> rfl) (fin_ret (res_c (vs := [.int .i64 rNone.lo, .int .i64 rNone.hi, .bool rNone.no]) agg26 0 rfl rfl rfl rfl rfl rfl))
def rAdd (a : Iv) (b : Iv) : Iv := (bif rRight a then (bif rRight b then (rOf (w64 (a.lo + b.lo)) (w64 (a.hi + b.hi))) else rNone) else rNone)
set_option maxRecDepth 100000 in
theorem c_rAdd (a : Iv) (b : Iv) : Gets Try.prog 86 #[.agg #[.int .i64 a.lo, .int .i64 a.hi, .bool a.no], .agg #[.int .i64 b.lo, .int .i64 b.hi, .bool b.no]] (Iv.v (rAdd a b)) := by
  refine gets_fin Try.func86 rfl rfl rfl ?_
  refine ac_seq ?_
  refine ac_region_lit ?_
  refine ao 2 rfl rfl (st_box (v := .agg #[.int .i64 a.lo, .int .i64 a.hi, .bool a.no]) (cs := [.int .i64 a.lo, .int .i64 a.hi, .bool a.no]) rfl rfl rfl fun g0 => ?_)
  refine ao 3 rfl rfl (st_box (v := .agg #[.int .i64 b.lo, .int .i64 b.hi, .bool b.no]) (cs := [.int .i64 b.lo, .int .i64 b.hi, .bool b.no]) rfl rfl rfl fun g1 => ?_)
  refine ao 4 rfl rfl (st_new zero26 rfl fun g2 => ?_)
  refine ar_nil ?_
  refine ac_seq ?_
  refine ac_seq ?_
  refine ac_region_lit ?_
  refine ao 5 rfl rfl (st_lda (g := g0) (off := 0) (vs := [.int .i64 a.lo, .int .i64 a.hi, .bool a.no]) agg26 2 rfl rfl rfl rfl rfl rfl ?_)
  refine ao 6 rfl rfl (st_cf (vs := [.agg #[.int .i64 a.lo, .int .i64 a.hi, .bool a.no]]) (r := .bool (rRight a)) (c_rRight a) Try.func40 rfl (by decide) rfl rfl rfl ?_)
  refine ao 7 rfl rfl (st_un (u := .bool (rRight a)) (v := .bool (!(rRight a))) rfl rfl (un_not rfl) ?_)
  refine ao 8 rfl rfl (st_move (v := .bool (!(rRight a))) rfl rfl ?_)
  refine bool_split (rRight a) (fun h1 => ?_) (fun h1 => ?_)
  · refine ar_gd (d := (some 9)) (by show ((!(rRight a)) == false) = true; rw [h1]; rfl) rfl (st_lda (g := g1) (off := 0) (vs := [.int .i64 b.lo, .int .i64 b.hi, .bool b.no]) agg26 1 rfl rfl rfl rfl rfl rfl ?_)
    refine ar_gd (d := (some 10)) (by show ((!(rRight a)) == false) = true; rw [h1]; rfl) rfl (st_cf (vs := [.agg #[.int .i64 b.lo, .int .i64 b.hi, .bool b.no]]) (r := .bool (rRight b)) (c_rRight b) Try.func40 rfl (by decide) rfl rfl rfl ?_)
    refine ar_gd (d := (some 11)) (by show ((!(rRight a)) == false) = true; rw [h1]; rfl) rfl (st_un (u := .bool (rRight b)) (v := .bool (!(rRight b))) rfl rfl (un_not rfl) ?_)
    refine ao 12 rfl rfl (st_pkf' (b := !(rRight a)) (v := .bool (!(rRight b))) (by rw [h1]; rfl) rfl rfl rfl ?_)
    refine ar_nil ?_
    refine bool_split (rRight b) (fun h2 => ?_) (fun h2 => ?_)
    · refine ac_else' (b := !(rRight b)) (by rw [h2]; rfl) rfl ?_
      refine ac_skip ?_
      refine ac_seq ?_
      refine ac_region_lit ?_
      refine ao 14 rfl rfl (st_fa (g := g0) (off := 0) rfl fa26_0 rfl ?_)
      refine ao 15 rfl rfl (st_ldc (g := g0) (off := 0) (v := .int .i64 a.lo) cell3 2 rfl rfl rfl rfl rfl ?_)
      refine ao 16 rfl rfl (st_fa (g := g1) (off := 0) rfl fa26_0 rfl ?_)
      refine ao 17 rfl rfl (st_ldc (g := g1) (off := 0) (v := .int .i64 b.lo) cell3 1 rfl rfl rfl rfl rfl ?_)
      refine ao 18 rfl rfl (st_bi (u := .int .i64 a.lo) (v := .int .i64 b.lo) (r := .int .i64 (w64 (a.lo + b.lo))) rfl rfl rfl (bi_add rfl) ?_)
      refine ao 19 rfl rfl (st_fa (g := g0) (off := 0) rfl fa26_1 rfl ?_)
      refine ao 20 rfl rfl (st_ldc (g := g0) (off := 1) (v := .int .i64 a.hi) cell3 2 rfl rfl rfl rfl rfl ?_)
      refine ao 21 rfl rfl (st_fa (g := g1) (off := 0) rfl fa26_1 rfl ?_)
      refine ao 22 rfl rfl (st_ldc (g := g1) (off := 1) (v := .int .i64 b.hi) cell3 1 rfl rfl rfl rfl rfl ?_)
      refine ao 23 rfl rfl (st_bi (u := .int .i64 a.hi) (v := .int .i64 b.hi) (r := .int .i64 (w64 (a.hi + b.hi))) rfl rfl rfl (bi_add rfl) ?_)
      refine ao 24 rfl rfl (st_cf (vs := [.int .i64 (w64 (a.lo + b.lo)), .int .i64 (w64 (a.hi + b.hi))]) (r := .agg #[.int .i64 ((rOf (w64 (a.lo + b.lo)) (w64 (a.hi + b.hi))).lo), .int .i64 ((rOf (w64 (a.lo + b.lo)) (w64 (a.hi + b.hi))).hi), .bool ((rOf (w64 (a.lo + b.lo)) (w64 (a.hi + b.hi))).no)]) (c_rOf (w64 (a.lo + b.lo)) (w64 (a.hi + b.hi))) Try.func112 rfl (by decide) rfl rfl rfl ?_)
      refine ar_op (d := none) rfl rfl (st_sta (g := g2) (off := 0) (us := [.int .i64 ((rOf (w64 (a.lo + b.lo)) (w64 (a.hi + b.hi))).lo), .int .i64 ((rOf (w64 (a.lo + b.lo)) (w64 (a.hi + b.hi))).hi), .bool ((rOf (w64 (a.lo + b.lo)) (w64 (a.hi + b.hi))).no)]) (cs := [.int .i64 ((rOf (w64 (a.lo + b.lo)) (w64 (a.hi + b.hi))).lo), .int .i64 ((rOf (w64 (a.lo + b.lo)) (w64 (a.hi + b.hi))).hi), .bool ((rOf (w64 (a.lo + b.lo)) (w64 (a.hi + b.hi))).no)]) agg26 0 rfl rfl rfl rfl rfl rfl rfl rfl rfl ?_)
      refine ar_nil ?_
      refine ac_ret ?_
      exact fin_eq (v := .agg #[.int .i64 ((rOf (w64 (a.lo + b.lo)) (w64 (a.hi + b.hi))).lo), .int .i64 ((rOf (w64 (a.lo + b.lo)) (w64 (a.hi + b.hi))).hi), .bool ((rOf (w64 (a.lo + b.lo)) (w64 (a.hi + b.hi))).no)]) (by show _ = Iv.v (rAdd a b); rw [rAdd, h2, h1] <;> rfl) (fin_ret (res_c (vs := [.int .i64 ((rOf (w64 (a.lo + b.lo)) (w64 (a.hi + b.hi))).lo), .int .i64 ((rOf (w64 (a.lo + b.lo)) (w64 (a.hi + b.hi))).hi), .bool ((rOf (w64 (a.lo + b.lo)) (w64 (a.hi + b.hi))).no)]) agg26 0 rfl rfl rfl rfl rfl rfl))
    · refine ac_then' (b := !(rRight b)) (by rw [h2]; rfl) rfl ?_
      refine ac_seq ?_
      refine ac_region_lit ?_
      refine ao 13 rfl rfl (st_cf (vs := []) (r := .agg #[.int .i64 rNone.lo, .int .i64 rNone.hi, .bool rNone.no]) c_rNone Try.func111 rfl (by decide) rfl rfl rfl ?_)
      refine ar_op (d := none) rfl rfl (st_sta (g := g2) (off := 0) (us := [.int .i64 rNone.lo, .int .i64 rNone.hi, .bool rNone.no]) (cs := [.int .i64 rNone.lo, .int .i64 rNone.hi, .bool rNone.no]) agg26 0 rfl rfl rfl rfl rfl rfl rfl rfl rfl ?_)
      refine ar_nil ?_
      refine ac_ret ?_
      exact fin_eq (v := .agg #[.int .i64 rNone.lo, .int .i64 rNone.hi, .bool rNone.no]) (by show _ = Iv.v (rAdd a b); rw [rAdd, h2, h1] <;> rfl) (fin_ret (res_c (vs := [.int .i64 rNone.lo, .int .i64 rNone.hi, .bool rNone.no]) agg26 0 rfl rfl rfl rfl rfl rfl))
  · refine ar_sk (d := (some 9)) (by show ((!(rRight a)) == false) = false; rw [h1]; rfl) rfl ?_
    refine ar_sk (d := (some 10)) (by show ((!(rRight a)) == false) = false; rw [h1]; rfl) rfl ?_
    refine ar_sk (d := (some 11)) (by show ((!(rRight a)) == false) = false; rw [h1]; rfl) rfl ?_
    refine ao 12 rfl rfl (st_pkt' (b := !(rRight a)) (v := .bool true) (by rw [h1]; rfl) rfl rfl rfl ?_)
    refine ar_nil ?_
    refine ac_then rfl ?_
    refine ac_seq ?_
    refine ac_region_lit ?_
    refine ao 13 rfl rfl (st_cf (vs := []) (r := .agg #[.int .i64 rNone.lo, .int .i64 rNone.hi, .bool rNone.no]) c_rNone Try.func111 rfl (by decide) rfl rfl rfl ?_)
    refine ar_op (d := none) rfl rfl (st_sta (g := g2) (off := 0) (us := [.int .i64 rNone.lo, .int .i64 rNone.hi, .bool rNone.no]) (cs := [.int .i64 rNone.lo, .int .i64 rNone.hi, .bool rNone.no]) agg26 0 rfl rfl rfl rfl rfl rfl rfl rfl rfl ?_)
    refine ar_nil ?_
    refine ac_ret ?_
    exact fin_eq (v := .agg #[.int .i64 rNone.lo, .int .i64 rNone.hi, .bool rNone.no]) (by show _ = Iv.v (rAdd a b); rw [rAdd, h1] <;> rfl) (fin_ret (res_c (vs := [.int .i64 rNone.lo, .int .i64 rNone.hi, .bool rNone.no]) agg26 0 rfl rfl rfl rfl rfl rfl))
def rNeg (a : Iv) : Iv := (bif rRight a then (rOf (w64 (0 - a.hi)) (w64 (0 - a.lo))) else rNone)
set_option maxRecDepth 100000 in
theorem c_rNeg (a : Iv) : Gets Try.prog 96 #[.agg #[.int .i64 a.lo, .int .i64 a.hi, .bool a.no]] (Iv.v (rNeg a)) := by
  refine gets_fin Try.func96 rfl rfl rfl ?_
  refine ac_seq ?_
  refine ac_region_lit ?_
  refine ao 1 rfl rfl (st_box (v := .agg #[.int .i64 a.lo, .int .i64 a.hi, .bool a.no]) (cs := [.int .i64 a.lo, .int .i64 a.hi, .bool a.no]) rfl rfl rfl fun g0 => ?_)
  refine ao 2 rfl rfl (st_new zero26 rfl fun g1 => ?_)
  refine ar_nil ?_
  refine ac_seq ?_
  refine ac_seq ?_
  refine ac_region_lit ?_
  refine ao 3 rfl rfl (st_lda (g := g0) (off := 0) (vs := [.int .i64 a.lo, .int .i64 a.hi, .bool a.no]) agg26 1 rfl rfl rfl rfl rfl rfl ?_)
  refine ao 4 rfl rfl (st_cf (vs := [.agg #[.int .i64 a.lo, .int .i64 a.hi, .bool a.no]]) (r := .bool (rRight a)) (c_rRight a) Try.func40 rfl (by decide) rfl rfl rfl ?_)
  refine ao 5 rfl rfl (st_un (u := .bool (rRight a)) (v := .bool (!(rRight a))) rfl rfl (un_not rfl) ?_)
  refine ar_nil ?_
  refine bool_split (rRight a) (fun h1 => ?_) (fun h1 => ?_)
  · refine ac_else' (b := !(rRight a)) (by rw [h1]; rfl) rfl ?_
    refine ac_skip ?_
    refine ac_seq ?_
    refine ac_region_lit ?_
    refine ao 7 rfl rfl (st_fa (g := g0) (off := 0) rfl fa26_1 rfl ?_)
    refine ao 8 rfl rfl (st_ldc (g := g0) (off := 1) (v := .int .i64 a.hi) cell3 1 rfl rfl rfl rfl rfl ?_)
    refine ao 9 rfl rfl (st_un (u := .int .i64 a.hi) (v := .int .i64 (w64 (0 - a.hi))) rfl rfl (un_neg rfl) ?_)
    refine ao 10 rfl rfl (st_fa (g := g0) (off := 0) rfl fa26_0 rfl ?_)
    refine ao 11 rfl rfl (st_ldc (g := g0) (off := 0) (v := .int .i64 a.lo) cell3 1 rfl rfl rfl rfl rfl ?_)
    refine ao 12 rfl rfl (st_un (u := .int .i64 a.lo) (v := .int .i64 (w64 (0 - a.lo))) rfl rfl (un_neg rfl) ?_)
    refine ao 13 rfl rfl (st_cf (vs := [.int .i64 (w64 (0 - a.hi)), .int .i64 (w64 (0 - a.lo))]) (r := .agg #[.int .i64 ((rOf (w64 (0 - a.hi)) (w64 (0 - a.lo))).lo), .int .i64 ((rOf (w64 (0 - a.hi)) (w64 (0 - a.lo))).hi), .bool ((rOf (w64 (0 - a.hi)) (w64 (0 - a.lo))).no)]) (c_rOf (w64 (0 - a.hi)) (w64 (0 - a.lo))) Try.func112 rfl (by decide) rfl rfl rfl ?_)
    refine ar_op (d := none) rfl rfl (st_sta (g := g1) (off := 0) (us := [.int .i64 ((rOf (w64 (0 - a.hi)) (w64 (0 - a.lo))).lo), .int .i64 ((rOf (w64 (0 - a.hi)) (w64 (0 - a.lo))).hi), .bool ((rOf (w64 (0 - a.hi)) (w64 (0 - a.lo))).no)]) (cs := [.int .i64 ((rOf (w64 (0 - a.hi)) (w64 (0 - a.lo))).lo), .int .i64 ((rOf (w64 (0 - a.hi)) (w64 (0 - a.lo))).hi), .bool ((rOf (w64 (0 - a.hi)) (w64 (0 - a.lo))).no)]) agg26 0 rfl rfl rfl rfl rfl rfl rfl rfl rfl ?_)
    refine ar_nil ?_
    refine ac_ret ?_
    exact fin_eq (v := .agg #[.int .i64 ((rOf (w64 (0 - a.hi)) (w64 (0 - a.lo))).lo), .int .i64 ((rOf (w64 (0 - a.hi)) (w64 (0 - a.lo))).hi), .bool ((rOf (w64 (0 - a.hi)) (w64 (0 - a.lo))).no)]) (by show _ = Iv.v (rNeg a); rw [rNeg, h1] <;> rfl) (fin_ret (res_c (vs := [.int .i64 ((rOf (w64 (0 - a.hi)) (w64 (0 - a.lo))).lo), .int .i64 ((rOf (w64 (0 - a.hi)) (w64 (0 - a.lo))).hi), .bool ((rOf (w64 (0 - a.hi)) (w64 (0 - a.lo))).no)]) agg26 0 rfl rfl rfl rfl rfl rfl))
  · refine ac_then' (b := !(rRight a)) (by rw [h1]; rfl) rfl ?_
    refine ac_seq ?_
    refine ac_region_lit ?_
    refine ao 6 rfl rfl (st_cf (vs := []) (r := .agg #[.int .i64 rNone.lo, .int .i64 rNone.hi, .bool rNone.no]) c_rNone Try.func111 rfl (by decide) rfl rfl rfl ?_)
    refine ar_op (d := none) rfl rfl (st_sta (g := g1) (off := 0) (us := [.int .i64 rNone.lo, .int .i64 rNone.hi, .bool rNone.no]) (cs := [.int .i64 rNone.lo, .int .i64 rNone.hi, .bool rNone.no]) agg26 0 rfl rfl rfl rfl rfl rfl rfl rfl rfl ?_)
    refine ar_nil ?_
    refine ac_ret ?_
    exact fin_eq (v := .agg #[.int .i64 rNone.lo, .int .i64 rNone.hi, .bool rNone.no]) (by show _ = Iv.v (rNeg a); rw [rNeg, h1] <;> rfl) (fin_ret (res_c (vs := [.int .i64 rNone.lo, .int .i64 rNone.hi, .bool rNone.no]) agg26 0 rfl rfl rfl rfl rfl rfl))
def rSub (a : Iv) (b : Iv) : Iv := (bif rRight a then (bif rRight b then (rOf (w64 (a.lo - b.hi)) (w64 (a.hi - b.lo))) else rNone) else rNone)
set_option maxRecDepth 100000 in
theorem c_rSub (a : Iv) (b : Iv) : Gets Try.prog 82 #[.agg #[.int .i64 a.lo, .int .i64 a.hi, .bool a.no], .agg #[.int .i64 b.lo, .int .i64 b.hi, .bool b.no]] (Iv.v (rSub a b)) := by
  refine gets_fin Try.func82 rfl rfl rfl ?_
  refine ac_seq ?_
  refine ac_region_lit ?_
  refine ao 2 rfl rfl (st_box (v := .agg #[.int .i64 a.lo, .int .i64 a.hi, .bool a.no]) (cs := [.int .i64 a.lo, .int .i64 a.hi, .bool a.no]) rfl rfl rfl fun g0 => ?_)
  refine ao 3 rfl rfl (st_box (v := .agg #[.int .i64 b.lo, .int .i64 b.hi, .bool b.no]) (cs := [.int .i64 b.lo, .int .i64 b.hi, .bool b.no]) rfl rfl rfl fun g1 => ?_)
  refine ao 4 rfl rfl (st_new zero26 rfl fun g2 => ?_)
  refine ar_nil ?_
  refine ac_seq ?_
  refine ac_seq ?_
  refine ac_region_lit ?_
  refine ao 5 rfl rfl (st_lda (g := g0) (off := 0) (vs := [.int .i64 a.lo, .int .i64 a.hi, .bool a.no]) agg26 2 rfl rfl rfl rfl rfl rfl ?_)
  refine ao 6 rfl rfl (st_cf (vs := [.agg #[.int .i64 a.lo, .int .i64 a.hi, .bool a.no]]) (r := .bool (rRight a)) (c_rRight a) Try.func40 rfl (by decide) rfl rfl rfl ?_)
  refine ao 7 rfl rfl (st_un (u := .bool (rRight a)) (v := .bool (!(rRight a))) rfl rfl (un_not rfl) ?_)
  refine ao 8 rfl rfl (st_move (v := .bool (!(rRight a))) rfl rfl ?_)
  refine bool_split (rRight a) (fun h1 => ?_) (fun h1 => ?_)
  · refine ar_gd (d := (some 9)) (by show ((!(rRight a)) == false) = true; rw [h1]; rfl) rfl (st_lda (g := g1) (off := 0) (vs := [.int .i64 b.lo, .int .i64 b.hi, .bool b.no]) agg26 1 rfl rfl rfl rfl rfl rfl ?_)
    refine ar_gd (d := (some 10)) (by show ((!(rRight a)) == false) = true; rw [h1]; rfl) rfl (st_cf (vs := [.agg #[.int .i64 b.lo, .int .i64 b.hi, .bool b.no]]) (r := .bool (rRight b)) (c_rRight b) Try.func40 rfl (by decide) rfl rfl rfl ?_)
    refine ar_gd (d := (some 11)) (by show ((!(rRight a)) == false) = true; rw [h1]; rfl) rfl (st_un (u := .bool (rRight b)) (v := .bool (!(rRight b))) rfl rfl (un_not rfl) ?_)
    refine ao 12 rfl rfl (st_pkf' (b := !(rRight a)) (v := .bool (!(rRight b))) (by rw [h1]; rfl) rfl rfl rfl ?_)
    refine ar_nil ?_
    refine bool_split (rRight b) (fun h2 => ?_) (fun h2 => ?_)
    · refine ac_else' (b := !(rRight b)) (by rw [h2]; rfl) rfl ?_
      refine ac_skip ?_
      refine ac_seq ?_
      refine ac_region_lit ?_
      refine ao 14 rfl rfl (st_fa (g := g0) (off := 0) rfl fa26_0 rfl ?_)
      refine ao 15 rfl rfl (st_ldc (g := g0) (off := 0) (v := .int .i64 a.lo) cell3 2 rfl rfl rfl rfl rfl ?_)
      refine ao 16 rfl rfl (st_fa (g := g1) (off := 0) rfl fa26_1 rfl ?_)
      refine ao 17 rfl rfl (st_ldc (g := g1) (off := 1) (v := .int .i64 b.hi) cell3 1 rfl rfl rfl rfl rfl ?_)
      refine ao 18 rfl rfl (st_bi (u := .int .i64 a.lo) (v := .int .i64 b.hi) (r := .int .i64 (w64 (a.lo - b.hi))) rfl rfl rfl (bi_sub rfl) ?_)
      refine ao 19 rfl rfl (st_fa (g := g0) (off := 0) rfl fa26_1 rfl ?_)
      refine ao 20 rfl rfl (st_ldc (g := g0) (off := 1) (v := .int .i64 a.hi) cell3 2 rfl rfl rfl rfl rfl ?_)
      refine ao 21 rfl rfl (st_fa (g := g1) (off := 0) rfl fa26_0 rfl ?_)
      refine ao 22 rfl rfl (st_ldc (g := g1) (off := 0) (v := .int .i64 b.lo) cell3 1 rfl rfl rfl rfl rfl ?_)
      refine ao 23 rfl rfl (st_bi (u := .int .i64 a.hi) (v := .int .i64 b.lo) (r := .int .i64 (w64 (a.hi - b.lo))) rfl rfl rfl (bi_sub rfl) ?_)
      refine ao 24 rfl rfl (st_cf (vs := [.int .i64 (w64 (a.lo - b.hi)), .int .i64 (w64 (a.hi - b.lo))]) (r := .agg #[.int .i64 ((rOf (w64 (a.lo - b.hi)) (w64 (a.hi - b.lo))).lo), .int .i64 ((rOf (w64 (a.lo - b.hi)) (w64 (a.hi - b.lo))).hi), .bool ((rOf (w64 (a.lo - b.hi)) (w64 (a.hi - b.lo))).no)]) (c_rOf (w64 (a.lo - b.hi)) (w64 (a.hi - b.lo))) Try.func112 rfl (by decide) rfl rfl rfl ?_)
      refine ar_op (d := none) rfl rfl (st_sta (g := g2) (off := 0) (us := [.int .i64 ((rOf (w64 (a.lo - b.hi)) (w64 (a.hi - b.lo))).lo), .int .i64 ((rOf (w64 (a.lo - b.hi)) (w64 (a.hi - b.lo))).hi), .bool ((rOf (w64 (a.lo - b.hi)) (w64 (a.hi - b.lo))).no)]) (cs := [.int .i64 ((rOf (w64 (a.lo - b.hi)) (w64 (a.hi - b.lo))).lo), .int .i64 ((rOf (w64 (a.lo - b.hi)) (w64 (a.hi - b.lo))).hi), .bool ((rOf (w64 (a.lo - b.hi)) (w64 (a.hi - b.lo))).no)]) agg26 0 rfl rfl rfl rfl rfl rfl rfl rfl rfl ?_)
      refine ar_nil ?_
      refine ac_ret ?_
      exact fin_eq (v := .agg #[.int .i64 ((rOf (w64 (a.lo - b.hi)) (w64 (a.hi - b.lo))).lo), .int .i64 ((rOf (w64 (a.lo - b.hi)) (w64 (a.hi - b.lo))).hi), .bool ((rOf (w64 (a.lo - b.hi)) (w64 (a.hi - b.lo))).no)]) (by show _ = Iv.v (rSub a b); rw [rSub, h2, h1] <;> rfl) (fin_ret (res_c (vs := [.int .i64 ((rOf (w64 (a.lo - b.hi)) (w64 (a.hi - b.lo))).lo), .int .i64 ((rOf (w64 (a.lo - b.hi)) (w64 (a.hi - b.lo))).hi), .bool ((rOf (w64 (a.lo - b.hi)) (w64 (a.hi - b.lo))).no)]) agg26 0 rfl rfl rfl rfl rfl rfl))
    · refine ac_then' (b := !(rRight b)) (by rw [h2]; rfl) rfl ?_
      refine ac_seq ?_
      refine ac_region_lit ?_
      refine ao 13 rfl rfl (st_cf (vs := []) (r := .agg #[.int .i64 rNone.lo, .int .i64 rNone.hi, .bool rNone.no]) c_rNone Try.func111 rfl (by decide) rfl rfl rfl ?_)
      refine ar_op (d := none) rfl rfl (st_sta (g := g2) (off := 0) (us := [.int .i64 rNone.lo, .int .i64 rNone.hi, .bool rNone.no]) (cs := [.int .i64 rNone.lo, .int .i64 rNone.hi, .bool rNone.no]) agg26 0 rfl rfl rfl rfl rfl rfl rfl rfl rfl ?_)
      refine ar_nil ?_
      refine ac_ret ?_
      exact fin_eq (v := .agg #[.int .i64 rNone.lo, .int .i64 rNone.hi, .bool rNone.no]) (by show _ = Iv.v (rSub a b); rw [rSub, h2, h1] <;> rfl) (fin_ret (res_c (vs := [.int .i64 rNone.lo, .int .i64 rNone.hi, .bool rNone.no]) agg26 0 rfl rfl rfl rfl rfl rfl))
  · refine ar_sk (d := (some 9)) (by show ((!(rRight a)) == false) = false; rw [h1]; rfl) rfl ?_
    refine ar_sk (d := (some 10)) (by show ((!(rRight a)) == false) = false; rw [h1]; rfl) rfl ?_
    refine ar_sk (d := (some 11)) (by show ((!(rRight a)) == false) = false; rw [h1]; rfl) rfl ?_
    refine ao 12 rfl rfl (st_pkt' (b := !(rRight a)) (v := .bool true) (by rw [h1]; rfl) rfl rfl rfl ?_)
    refine ar_nil ?_
    refine ac_then rfl ?_
    refine ac_seq ?_
    refine ac_region_lit ?_
    refine ao 13 rfl rfl (st_cf (vs := []) (r := .agg #[.int .i64 rNone.lo, .int .i64 rNone.hi, .bool rNone.no]) c_rNone Try.func111 rfl (by decide) rfl rfl rfl ?_)
    refine ar_op (d := none) rfl rfl (st_sta (g := g2) (off := 0) (us := [.int .i64 rNone.lo, .int .i64 rNone.hi, .bool rNone.no]) (cs := [.int .i64 rNone.lo, .int .i64 rNone.hi, .bool rNone.no]) agg26 0 rfl rfl rfl rfl rfl rfl rfl rfl rfl ?_)
    refine ar_nil ?_
    refine ac_ret ?_
    exact fin_eq (v := .agg #[.int .i64 rNone.lo, .int .i64 rNone.hi, .bool rNone.no]) (by show _ = Iv.v (rSub a b); rw [rSub, h1] <;> rfl) (fin_ret (res_c (vs := [.int .i64 rNone.lo, .int .i64 rNone.hi, .bool rNone.no]) agg26 0 rfl rfl rfl rfl rfl rfl))
def rTimes_e0 (a : Iv) (k : Int) : Iv := (rOf (min (w64 (k * a.lo)) (w64 (k * a.hi))) (max (w64 (k * a.lo)) (w64 (k * a.hi))))
def rTimes (a : Iv) (k : Int) : Iv := (bif rRight a then (bif rIn k then (rTimes_e0 a k) else rNone) else rNone)
set_option maxRecDepth 100000 in
theorem c_rTimes (a : Iv) (k : Int) : Gets Try.prog 87 #[.agg #[.int .i64 a.lo, .int .i64 a.hi, .bool a.no], .int .i64 k] (Iv.v (rTimes a k)) := by
  refine gets_fin Try.func87 rfl rfl rfl ?_
  refine ac_seq ?_
  refine ac_region_lit ?_
  refine ao 2 rfl rfl (st_box (v := .agg #[.int .i64 a.lo, .int .i64 a.hi, .bool a.no]) (cs := [.int .i64 a.lo, .int .i64 a.hi, .bool a.no]) rfl rfl rfl fun g0 => ?_)
  refine ao 4 rfl rfl (st_new zero26 rfl fun g1 => ?_)
  refine ar_nil ?_
  refine ac_seq ?_
  refine ac_seq ?_
  refine ac_region_lit ?_
  refine ao 5 rfl rfl (st_lda (g := g0) (off := 0) (vs := [.int .i64 a.lo, .int .i64 a.hi, .bool a.no]) agg26 1 rfl rfl rfl rfl rfl rfl ?_)
  refine ao 6 rfl rfl (st_cf (vs := [.agg #[.int .i64 a.lo, .int .i64 a.hi, .bool a.no]]) (r := .bool (rRight a)) (c_rRight a) Try.func40 rfl (by decide) rfl rfl rfl ?_)
  refine ao 7 rfl rfl (st_un (u := .bool (rRight a)) (v := .bool (!(rRight a))) rfl rfl (un_not rfl) ?_)
  refine ao 8 rfl rfl (st_move (v := .bool (!(rRight a))) rfl rfl ?_)
  refine bool_split (rRight a) (fun h1 => ?_) (fun h1 => ?_)
  · refine ar_gd (d := (some 9)) (by show ((!(rRight a)) == false) = true; rw [h1]; rfl) rfl (st_move (v := .int .i64 k) rfl rfl ?_)
    refine ar_gd (d := (some 10)) (by show ((!(rRight a)) == false) = true; rw [h1]; rfl) rfl (st_cf (vs := [.int .i64 k]) (r := .bool (rIn k)) (c_rIn k) Try.func92 rfl (by decide) rfl rfl rfl ?_)
    refine ar_gd (d := (some 11)) (by show ((!(rRight a)) == false) = true; rw [h1]; rfl) rfl (st_un (u := .bool (rIn k)) (v := .bool (!(rIn k))) rfl rfl (un_not rfl) ?_)
    refine ao 12 rfl rfl (st_pkf' (b := !(rRight a)) (v := .bool (!(rIn k))) (by rw [h1]; rfl) rfl rfl rfl ?_)
    refine ar_nil ?_
    refine bool_split (rIn k) (fun h2 => ?_) (fun h2 => ?_)
    · refine ac_else' (b := !(rIn k)) (by rw [h2]; rfl) rfl ?_
      refine ac_skip ?_
      refine ac_seq ?_
      refine ac_region_lit ?_
      refine ao 14 rfl rfl (st_move (v := .int .i64 k) rfl rfl ?_)
      refine ao 15 rfl rfl (st_fa (g := g0) (off := 0) rfl fa26_0 rfl ?_)
      refine ao 16 rfl rfl (st_ldc (g := g0) (off := 0) (v := .int .i64 a.lo) cell3 1 rfl rfl rfl rfl rfl ?_)
      refine ao 17 rfl rfl (st_bi (u := .int .i64 k) (v := .int .i64 a.lo) (r := .int .i64 (w64 (k * a.lo))) rfl rfl rfl (bi_mul rfl) ?_)
      refine ao 18 rfl rfl (st_move (v := .int .i64 k) rfl rfl ?_)
      refine ao 19 rfl rfl (st_fa (g := g0) (off := 0) rfl fa26_1 rfl ?_)
      refine ao 20 rfl rfl (st_ldc (g := g0) (off := 1) (v := .int .i64 a.hi) cell3 1 rfl rfl rfl rfl rfl ?_)
      refine ao 21 rfl rfl (st_bi (u := .int .i64 k) (v := .int .i64 a.hi) (r := .int .i64 (w64 (k * a.hi))) rfl rfl rfl (bi_mul rfl) ?_)
      refine ao 22 rfl rfl (st_mn (x := (w64 (k * a.lo))) (y := (w64 (k * a.hi))) (c := (min (w64 (k * a.lo)) (w64 (k * a.hi)))) rfl rfl rfl ?_)
      refine ao 23 rfl rfl (st_move (v := .int .i64 k) rfl rfl ?_)
      refine ao 24 rfl rfl (st_fa (g := g0) (off := 0) rfl fa26_0 rfl ?_)
      refine ao 25 rfl rfl (st_ldc (g := g0) (off := 0) (v := .int .i64 a.lo) cell3 1 rfl rfl rfl rfl rfl ?_)
      refine ao 26 rfl rfl (st_bi (u := .int .i64 k) (v := .int .i64 a.lo) (r := .int .i64 (w64 (k * a.lo))) rfl rfl rfl (bi_mul rfl) ?_)
      refine ao 27 rfl rfl (st_move (v := .int .i64 k) rfl rfl ?_)
      refine ao 28 rfl rfl (st_fa (g := g0) (off := 0) rfl fa26_1 rfl ?_)
      refine ao 29 rfl rfl (st_ldc (g := g0) (off := 1) (v := .int .i64 a.hi) cell3 1 rfl rfl rfl rfl rfl ?_)
      refine ao 30 rfl rfl (st_bi (u := .int .i64 k) (v := .int .i64 a.hi) (r := .int .i64 (w64 (k * a.hi))) rfl rfl rfl (bi_mul rfl) ?_)
      refine ao 31 rfl rfl (st_mx (x := (w64 (k * a.lo))) (y := (w64 (k * a.hi))) (c := (max (w64 (k * a.lo)) (w64 (k * a.hi)))) rfl rfl rfl ?_)
      refine ao 32 rfl rfl (st_cf (vs := [.int .i64 (min (w64 (k * a.lo)) (w64 (k * a.hi))), .int .i64 (max (w64 (k * a.lo)) (w64 (k * a.hi)))]) (r := .agg #[.int .i64 ((rTimes_e0 a k).lo), .int .i64 ((rTimes_e0 a k).hi), .bool ((rTimes_e0 a k).no)]) (c_rOf (min (w64 (k * a.lo)) (w64 (k * a.hi))) (max (w64 (k * a.lo)) (w64 (k * a.hi)))) Try.func112 rfl (by decide) rfl rfl rfl ?_)
      refine ar_op (d := none) rfl rfl (st_sta (g := g1) (off := 0) (us := [.int .i64 ((rTimes_e0 a k).lo), .int .i64 ((rTimes_e0 a k).hi), .bool ((rTimes_e0 a k).no)]) (cs := [.int .i64 ((rTimes_e0 a k).lo), .int .i64 ((rTimes_e0 a k).hi), .bool ((rTimes_e0 a k).no)]) agg26 0 rfl rfl rfl rfl rfl rfl rfl rfl rfl ?_)
      refine ar_nil ?_
      refine ac_ret ?_
      exact fin_eq (v := .agg #[.int .i64 ((rTimes_e0 a k).lo), .int .i64 ((rTimes_e0 a k).hi), .bool ((rTimes_e0 a k).no)]) (by show _ = Iv.v (rTimes a k); rw [rTimes, h2, h1] <;> rfl) (fin_ret (res_c (vs := [.int .i64 ((rTimes_e0 a k).lo), .int .i64 ((rTimes_e0 a k).hi), .bool ((rTimes_e0 a k).no)]) agg26 0 rfl rfl rfl rfl rfl rfl))
    · refine ac_then' (b := !(rIn k)) (by rw [h2]; rfl) rfl ?_
      refine ac_seq ?_
      refine ac_region_lit ?_
      refine ao 13 rfl rfl (st_cf (vs := []) (r := .agg #[.int .i64 rNone.lo, .int .i64 rNone.hi, .bool rNone.no]) c_rNone Try.func111 rfl (by decide) rfl rfl rfl ?_)
      refine ar_op (d := none) rfl rfl (st_sta (g := g1) (off := 0) (us := [.int .i64 rNone.lo, .int .i64 rNone.hi, .bool rNone.no]) (cs := [.int .i64 rNone.lo, .int .i64 rNone.hi, .bool rNone.no]) agg26 0 rfl rfl rfl rfl rfl rfl rfl rfl rfl ?_)
      refine ar_nil ?_
      refine ac_ret ?_
      exact fin_eq (v := .agg #[.int .i64 rNone.lo, .int .i64 rNone.hi, .bool rNone.no]) (by show _ = Iv.v (rTimes a k); rw [rTimes, h2, h1] <;> rfl) (fin_ret (res_c (vs := [.int .i64 rNone.lo, .int .i64 rNone.hi, .bool rNone.no]) agg26 0 rfl rfl rfl rfl rfl rfl))
  · refine ar_sk (d := (some 9)) (by show ((!(rRight a)) == false) = false; rw [h1]; rfl) rfl ?_
    refine ar_sk (d := (some 10)) (by show ((!(rRight a)) == false) = false; rw [h1]; rfl) rfl ?_
    refine ar_sk (d := (some 11)) (by show ((!(rRight a)) == false) = false; rw [h1]; rfl) rfl ?_
    refine ao 12 rfl rfl (st_pkt' (b := !(rRight a)) (v := .bool true) (by rw [h1]; rfl) rfl rfl rfl ?_)
    refine ar_nil ?_
    refine ac_then rfl ?_
    refine ac_seq ?_
    refine ac_region_lit ?_
    refine ao 13 rfl rfl (st_cf (vs := []) (r := .agg #[.int .i64 rNone.lo, .int .i64 rNone.hi, .bool rNone.no]) c_rNone Try.func111 rfl (by decide) rfl rfl rfl ?_)
    refine ar_op (d := none) rfl rfl (st_sta (g := g1) (off := 0) (us := [.int .i64 rNone.lo, .int .i64 rNone.hi, .bool rNone.no]) (cs := [.int .i64 rNone.lo, .int .i64 rNone.hi, .bool rNone.no]) agg26 0 rfl rfl rfl rfl rfl rfl rfl rfl rfl ?_)
    refine ar_nil ?_
    refine ac_ret ?_
    exact fin_eq (v := .agg #[.int .i64 rNone.lo, .int .i64 rNone.hi, .bool rNone.no]) (by show _ = Iv.v (rTimes a k); rw [rTimes, h1] <;> rfl) (fin_ret (res_c (vs := [.int .i64 rNone.lo, .int .i64 rNone.hi, .bool rNone.no]) agg26 0 rfl rfl rfl rfl rfl rfl))
def rSqr_e0 (a : Iv) : Int := (bif decide (a.hi ≥ 0) then 0 else (min (max a.lo (w64 (0 - a.lo))) (max a.hi (w64 (0 - a.hi)))))
def rSqr_e1 (a : Iv) : Int × Bool := (rMul (max (max (max a.lo (w64 (0 - a.lo))) a.hi) (w64 (0 - a.hi))) (max (max (max a.lo (w64 (0 - a.lo))) a.hi) (w64 (0 - a.hi))) true)
def rSqr_e2 (a : Iv) : Iv := (rOf ((rMul (rSqr_e0 a) (rSqr_e0 a) false).1) ((rSqr_e1 a).1))
def rSqr_e3 (a : Iv) : Int × Bool := (rMul (min (max a.lo (w64 (0 - a.lo))) (max a.hi (w64 (0 - a.hi)))) (min (max a.lo (w64 (0 - a.lo))) (max a.hi (w64 (0 - a.hi)))) false)
def rSqr (a : Iv) : Iv := (bif rRight a then (bif decide (a.lo ≤ 0) then (bif (rSqr_e1 a).2 then (rSqr_e2 a) else rNone) else (bif (rSqr_e1 a).2 then (rOf ((rSqr_e3 a).1) ((rSqr_e1 a).1)) else rNone)) else rNone)
set_option maxRecDepth 100000 in
theorem c_rSqr (a : Iv) : Gets Try.prog 84 #[.agg #[.int .i64 a.lo, .int .i64 a.hi, .bool a.no]] (Iv.v (rSqr a)) := by
  refine gets_fin Try.func84 rfl rfl rfl ?_
  refine ac_seq ?_
  refine ac_region_lit ?_
  refine ao 1 rfl rfl (st_box (v := .agg #[.int .i64 a.lo, .int .i64 a.hi, .bool a.no]) (cs := [.int .i64 a.lo, .int .i64 a.hi, .bool a.no]) rfl rfl rfl fun g0 => ?_)
  refine ao 2 rfl rfl (st_new zero26 rfl fun g1 => ?_)
  refine ar_nil ?_
  refine ac_seq ?_
  refine ac_seq ?_
  refine ac_region_lit ?_
  refine ao 9 rfl rfl (st_lda (g := g0) (off := 0) (vs := [.int .i64 a.lo, .int .i64 a.hi, .bool a.no]) agg26 1 rfl rfl rfl rfl rfl rfl ?_)
  refine ao 10 rfl rfl (st_cf (vs := [.agg #[.int .i64 a.lo, .int .i64 a.hi, .bool a.no]]) (r := .bool (rRight a)) (c_rRight a) Try.func40 rfl (by decide) rfl rfl rfl ?_)
  refine ao 11 rfl rfl (st_un (u := .bool (rRight a)) (v := .bool (!(rRight a))) rfl rfl (un_not rfl) ?_)
  refine ar_nil ?_
  refine bool_split (rRight a) (fun h1 => ?_) (fun h1 => ?_)
  · refine ac_else' (b := !(rRight a)) (by rw [h1]; rfl) rfl ?_
    refine ac_skip ?_
    refine ac_seq ?_
    refine ac_region_lit ?_
    refine ao 13 rfl rfl (st_fa (g := g0) (off := 0) rfl fa26_0 rfl ?_)
    refine ao 14 rfl rfl (st_ldc (g := g0) (off := 0) (v := .int .i64 a.lo) cell3 1 rfl rfl rfl rfl rfl ?_)
    refine ao 15 rfl rfl (st_fa (g := g0) (off := 0) rfl fa26_0 rfl ?_)
    refine ao 16 rfl rfl (st_ldc (g := g0) (off := 0) (v := .int .i64 a.lo) cell3 1 rfl rfl rfl rfl rfl ?_)
    refine ao 17 rfl rfl (st_un (u := .int .i64 a.lo) (v := .int .i64 (w64 (0 - a.lo))) rfl rfl (un_neg rfl) ?_)
    refine ao 18 rfl rfl (st_mx (x := a.lo) (y := (w64 (0 - a.lo))) (c := (max a.lo (w64 (0 - a.lo)))) rfl rfl rfl ?_)
    refine ao 19 rfl rfl (st_fa (g := g0) (off := 0) rfl fa26_1 rfl ?_)
    refine ao 20 rfl rfl (st_ldc (g := g0) (off := 1) (v := .int .i64 a.hi) cell3 1 rfl rfl rfl rfl rfl ?_)
    refine ao 21 rfl rfl (st_fa (g := g0) (off := 0) rfl fa26_1 rfl ?_)
    refine ao 22 rfl rfl (st_ldc (g := g0) (off := 1) (v := .int .i64 a.hi) cell3 1 rfl rfl rfl rfl rfl ?_)
    refine ao 23 rfl rfl (st_un (u := .int .i64 a.hi) (v := .int .i64 (w64 (0 - a.hi))) rfl rfl (un_neg rfl) ?_)
    refine ao 24 rfl rfl (st_mx (x := a.hi) (y := (w64 (0 - a.hi))) (c := (max a.hi (w64 (0 - a.hi)))) rfl rfl rfl ?_)
    refine ao 25 rfl rfl (st_mn (x := (max a.lo (w64 (0 - a.lo)))) (y := (max a.hi (w64 (0 - a.hi)))) (c := (min (max a.lo (w64 (0 - a.lo))) (max a.hi (w64 (0 - a.hi))))) rfl rfl rfl ?_)
    refine ao 3 rfl rfl (st_assign (v := .int .i64 (min (max a.lo (w64 (0 - a.lo))) (max a.hi (w64 (0 - a.hi))))) rfl rfl ?_)
    refine ar_nil ?_
    refine ac_seq ?_
    refine ac_region_lit ?_
    refine ao 26 rfl rfl (st_fa (g := g0) (off := 0) rfl fa26_0 rfl ?_)
    refine ao 27 rfl rfl (st_ldc (g := g0) (off := 0) (v := .int .i64 a.lo) cell3 1 rfl rfl rfl rfl rfl ?_)
    refine ao 28 rfl rfl (st_fa (g := g0) (off := 0) rfl fa26_0 rfl ?_)
    refine ao 29 rfl rfl (st_ldc (g := g0) (off := 0) (v := .int .i64 a.lo) cell3 1 rfl rfl rfl rfl rfl ?_)
    refine ao 30 rfl rfl (st_un (u := .int .i64 a.lo) (v := .int .i64 (w64 (0 - a.lo))) rfl rfl (un_neg rfl) ?_)
    refine ao 31 rfl rfl (st_fa (g := g0) (off := 0) rfl fa26_1 rfl ?_)
    refine ao 32 rfl rfl (st_ldc (g := g0) (off := 1) (v := .int .i64 a.hi) cell3 1 rfl rfl rfl rfl rfl ?_)
    refine ao 33 rfl rfl (st_fa (g := g0) (off := 0) rfl fa26_1 rfl ?_)
    refine ao 34 rfl rfl (st_ldc (g := g0) (off := 1) (v := .int .i64 a.hi) cell3 1 rfl rfl rfl rfl rfl ?_)
    refine ao 35 rfl rfl (st_un (u := .int .i64 a.hi) (v := .int .i64 (w64 (0 - a.hi))) rfl rfl (un_neg rfl) ?_)
    refine ao 36 rfl rfl (st_mx4 (x := a.lo) (y := (w64 (0 - a.lo))) (z := a.hi) (u := (w64 (0 - a.hi))) (c := (max (max (max a.lo (w64 (0 - a.lo))) a.hi) (w64 (0 - a.hi)))) rfl rfl rfl ?_)
    refine ao 4 rfl rfl (st_assign (v := .int .i64 (max (max (max a.lo (w64 (0 - a.lo))) a.hi) (w64 (0 - a.hi)))) rfl rfl ?_)
    refine ar_nil ?_
    refine ac_seq ?_
    refine ac_seq ?_
    refine ac_region_lit ?_
    refine ao 37 rfl rfl (st_fa (g := g0) (off := 0) rfl fa26_0 rfl ?_)
    refine ao 38 rfl rfl (st_ldc (g := g0) (off := 0) (v := .int .i64 a.lo) cell3 1 rfl rfl rfl rfl rfl ?_)
    refine ao 39 rfl rfl (st_bi (u := .int .i64 a.lo) (v := .int .i64 0) (r := .bool (decide (a.lo ≤ 0))) rfl rfl rfl (bi_leq rfl) ?_)
    refine ao 40 rfl rfl (st_move (v := .bool (decide (a.lo ≤ 0))) rfl rfl ?_)
    refine bool_split (decide (a.lo ≤ 0)) (fun h2 => ?_) (fun h2 => ?_)
    · refine ar_gd (d := (some 41)) (by show ((decide (a.lo ≤ 0)) == true) = true; rw [h2]; rfl) rfl (st_fa (g := g0) (off := 0) rfl fa26_1 rfl ?_)
      refine ar_gd (d := (some 42)) (by show ((decide (a.lo ≤ 0)) == true) = true; rw [h2]; rfl) rfl (st_ldc (g := g0) (off := 1) (v := .int .i64 a.hi) cell3 1 rfl rfl rfl rfl rfl ?_)
      refine ar_gd (d := (some 43)) (by show ((decide (a.lo ≤ 0)) == true) = true; rw [h2]; rfl) rfl (st_bi (u := .int .i64 a.hi) (v := .int .i64 0) (r := .bool (decide (a.hi ≥ 0))) rfl rfl rfl (bi_geq rfl) ?_)
      refine ao 44 rfl rfl (st_pkt' (b := decide (a.lo ≤ 0)) (v := .bool (decide (a.hi ≥ 0))) h2 rfl rfl rfl ?_)
      refine ar_nil ?_
      refine ac_mergeE (fun E9 => (Env.put E9 (some 3) (.int .i64 0))) (fun E9 => (Env.put E9 (some 3) (.int .i64 (rSqr_e0 a)))) (b := decide (a.hi ≥ 0)) rfl (fun hm => ?_) (fun hm => ?_) (fun hm => ?_) ?_
      · refine ac_region_lit ?_
        refine ao 3 rfl rfl (st_assign (v := .int .i64 0) rfl rfl ?_)
        refine ar_nil ?_
        exact ⟨rfl, rfl, rfl⟩
      · unfold rSqr_e0; rw [hm]; rfl
      · unfold rSqr_e0; rw [hm]; exact (put_self rfl)
      refine ac_seq ?_
      refine ac_region_lit ?_
      refine ao 46 rfl rfl (st_move (v := .int .i64 (rSqr_e0 a)) rfl rfl ?_)
      refine ao 47 rfl rfl (st_move (v := .int .i64 (rSqr_e0 a)) rfl rfl ?_)
      refine ao 48 rfl rfl (st_cf (vs := [.int .i64 (rSqr_e0 a), .int .i64 (rSqr_e0 a), .bool false]) (r := .tuple #[.int .i64 ((rMul (rSqr_e0 a) (rSqr_e0 a) false).1), .bool ((rMul (rSqr_e0 a) (rSqr_e0 a) false).2)]) (c_rMul (rSqr_e0 a) (rSqr_e0 a) false) Try.func115 rfl (by decide) rfl rfl rfl ?_)
      refine ao 45 rfl rfl (st_move (v := .tuple #[.int .i64 ((rMul (rSqr_e0 a) (rSqr_e0 a) false).1), .bool ((rMul (rSqr_e0 a) (rSqr_e0 a) false).2)]) rfl rfl ?_)
      refine ao 49 rfl rfl (st_ex (vs := [.int .i64 ((rMul (rSqr_e0 a) (rSqr_e0 a) false).1), .bool ((rMul (rSqr_e0 a) (rSqr_e0 a) false).2)]) (v := .int .i64 ((rMul (rSqr_e0 a) (rSqr_e0 a) false).1)) rfl rfl rfl ?_)
      refine ao 50 rfl rfl (st_ex (vs := [.int .i64 ((rMul (rSqr_e0 a) (rSqr_e0 a) false).1), .bool ((rMul (rSqr_e0 a) (rSqr_e0 a) false).2)]) (v := .bool ((rMul (rSqr_e0 a) (rSqr_e0 a) false).2)) rfl rfl rfl ?_)
      refine ao 5 rfl rfl (st_assign (v := .int .i64 ((rMul (rSqr_e0 a) (rSqr_e0 a) false).1)) rfl rfl ?_)
      refine ao 6 rfl rfl (st_assign (v := .bool ((rMul (rSqr_e0 a) (rSqr_e0 a) false).2)) rfl rfl ?_)
      refine ar_nil ?_
      refine ac_seq ?_
      refine ac_region_lit ?_
      refine ao 52 rfl rfl (st_move (v := .int .i64 (max (max (max a.lo (w64 (0 - a.lo))) a.hi) (w64 (0 - a.hi)))) rfl rfl ?_)
      refine ao 53 rfl rfl (st_move (v := .int .i64 (max (max (max a.lo (w64 (0 - a.lo))) a.hi) (w64 (0 - a.hi)))) rfl rfl ?_)
      refine ao 54 rfl rfl (st_cf (vs := [.int .i64 (max (max (max a.lo (w64 (0 - a.lo))) a.hi) (w64 (0 - a.hi))), .int .i64 (max (max (max a.lo (w64 (0 - a.lo))) a.hi) (w64 (0 - a.hi))), .bool true]) (r := .tuple #[.int .i64 ((rSqr_e1 a).1), .bool ((rSqr_e1 a).2)]) (c_rMul (max (max (max a.lo (w64 (0 - a.lo))) a.hi) (w64 (0 - a.hi))) (max (max (max a.lo (w64 (0 - a.lo))) a.hi) (w64 (0 - a.hi))) true) Try.func115 rfl (by decide) rfl rfl rfl ?_)
      refine ao 51 rfl rfl (st_move (v := .tuple #[.int .i64 ((rSqr_e1 a).1), .bool ((rSqr_e1 a).2)]) rfl rfl ?_)
      refine ao 55 rfl rfl (st_ex (vs := [.int .i64 ((rSqr_e1 a).1), .bool ((rSqr_e1 a).2)]) (v := .int .i64 ((rSqr_e1 a).1)) rfl rfl rfl ?_)
      refine ao 56 rfl rfl (st_ex (vs := [.int .i64 ((rSqr_e1 a).1), .bool ((rSqr_e1 a).2)]) (v := .bool ((rSqr_e1 a).2)) rfl rfl rfl ?_)
      refine ao 7 rfl rfl (st_assign (v := .int .i64 ((rSqr_e1 a).1)) rfl rfl ?_)
      refine ao 8 rfl rfl (st_assign (v := .bool ((rSqr_e1 a).2)) rfl rfl ?_)
      refine ar_nil ?_
      refine ac_seq ?_
      refine ac_seq ?_
      refine ac_region_lit ?_
      refine ao 57 rfl rfl (st_move (v := .bool ((rSqr_e1 a).2)) rfl rfl ?_)
      refine ao 58 rfl rfl (st_un (u := .bool ((rSqr_e1 a).2)) (v := .bool (!((rSqr_e1 a).2))) rfl rfl (un_not rfl) ?_)
      refine ar_nil ?_
      refine bool_split ((rSqr_e1 a).2) (fun h3 => ?_) (fun h3 => ?_)
      · refine ac_else' (b := !((rSqr_e1 a).2)) (by rw [h3]; rfl) rfl ?_
        refine ac_skip ?_
        refine ac_seq ?_
        refine ac_region_lit ?_
        refine ao 60 rfl rfl (st_move (v := .int .i64 ((rMul (rSqr_e0 a) (rSqr_e0 a) false).1)) rfl rfl ?_)
        refine ao 61 rfl rfl (st_move (v := .int .i64 ((rSqr_e1 a).1)) rfl rfl ?_)
        refine ao 62 rfl rfl (st_cf (vs := [.int .i64 ((rMul (rSqr_e0 a) (rSqr_e0 a) false).1), .int .i64 ((rSqr_e1 a).1)]) (r := .agg #[.int .i64 ((rSqr_e2 a).lo), .int .i64 ((rSqr_e2 a).hi), .bool ((rSqr_e2 a).no)]) (c_rOf ((rMul (rSqr_e0 a) (rSqr_e0 a) false).1) ((rSqr_e1 a).1)) Try.func112 rfl (by decide) rfl rfl rfl ?_)
        refine ar_op (d := none) rfl rfl (st_sta (g := g1) (off := 0) (us := [.int .i64 ((rSqr_e2 a).lo), .int .i64 ((rSqr_e2 a).hi), .bool ((rSqr_e2 a).no)]) (cs := [.int .i64 ((rSqr_e2 a).lo), .int .i64 ((rSqr_e2 a).hi), .bool ((rSqr_e2 a).no)]) agg26 0 rfl rfl rfl rfl rfl rfl rfl rfl rfl ?_)
        refine ar_nil ?_
        refine ac_ret ?_
        exact fin_eq (v := .agg #[.int .i64 ((rSqr_e2 a).lo), .int .i64 ((rSqr_e2 a).hi), .bool ((rSqr_e2 a).no)]) (by show _ = Iv.v (rSqr a); rw [rSqr, h3, h2, h1] <;> rfl) (fin_ret (res_c (vs := [.int .i64 ((rSqr_e2 a).lo), .int .i64 ((rSqr_e2 a).hi), .bool ((rSqr_e2 a).no)]) agg26 0 rfl rfl rfl rfl rfl rfl))
      · refine ac_then' (b := !((rSqr_e1 a).2)) (by rw [h3]; rfl) rfl ?_
        refine ac_seq ?_
        refine ac_region_lit ?_
        refine ao 59 rfl rfl (st_cf (vs := []) (r := .agg #[.int .i64 rNone.lo, .int .i64 rNone.hi, .bool rNone.no]) c_rNone Try.func111 rfl (by decide) rfl rfl rfl ?_)
        refine ar_op (d := none) rfl rfl (st_sta (g := g1) (off := 0) (us := [.int .i64 rNone.lo, .int .i64 rNone.hi, .bool rNone.no]) (cs := [.int .i64 rNone.lo, .int .i64 rNone.hi, .bool rNone.no]) agg26 0 rfl rfl rfl rfl rfl rfl rfl rfl rfl ?_)
        refine ar_nil ?_
        refine ac_ret ?_
        exact fin_eq (v := .agg #[.int .i64 rNone.lo, .int .i64 rNone.hi, .bool rNone.no]) (by show _ = Iv.v (rSqr a); rw [rSqr, h3, h2, h1] <;> rfl) (fin_ret (res_c (vs := [.int .i64 rNone.lo, .int .i64 rNone.hi, .bool rNone.no]) agg26 0 rfl rfl rfl rfl rfl rfl))
    · refine ar_sk (d := (some 41)) (by show ((decide (a.lo ≤ 0)) == true) = false; rw [h2]; rfl) rfl ?_
      refine ar_sk (d := (some 42)) (by show ((decide (a.lo ≤ 0)) == true) = false; rw [h2]; rfl) rfl ?_
      refine ar_sk (d := (some 43)) (by show ((decide (a.lo ≤ 0)) == true) = false; rw [h2]; rfl) rfl ?_
      refine ao 44 rfl rfl (st_pkf' (b := decide (a.lo ≤ 0)) (v := .bool false) h2 rfl rfl rfl ?_)
      refine ar_nil ?_
      refine ac_else rfl ?_
      refine ac_skip ?_
      refine ac_seq ?_
      refine ac_region_lit ?_
      refine ao 46 rfl rfl (st_move (v := .int .i64 (min (max a.lo (w64 (0 - a.lo))) (max a.hi (w64 (0 - a.hi))))) rfl rfl ?_)
      refine ao 47 rfl rfl (st_move (v := .int .i64 (min (max a.lo (w64 (0 - a.lo))) (max a.hi (w64 (0 - a.hi))))) rfl rfl ?_)
      refine ao 48 rfl rfl (st_cf (vs := [.int .i64 (min (max a.lo (w64 (0 - a.lo))) (max a.hi (w64 (0 - a.hi)))), .int .i64 (min (max a.lo (w64 (0 - a.lo))) (max a.hi (w64 (0 - a.hi)))), .bool false]) (r := .tuple #[.int .i64 ((rSqr_e3 a).1), .bool ((rSqr_e3 a).2)]) (c_rMul (min (max a.lo (w64 (0 - a.lo))) (max a.hi (w64 (0 - a.hi)))) (min (max a.lo (w64 (0 - a.lo))) (max a.hi (w64 (0 - a.hi)))) false) Try.func115 rfl (by decide) rfl rfl rfl ?_)
      refine ao 45 rfl rfl (st_move (v := .tuple #[.int .i64 ((rSqr_e3 a).1), .bool ((rSqr_e3 a).2)]) rfl rfl ?_)
      refine ao 49 rfl rfl (st_ex (vs := [.int .i64 ((rSqr_e3 a).1), .bool ((rSqr_e3 a).2)]) (v := .int .i64 ((rSqr_e3 a).1)) rfl rfl rfl ?_)
      refine ao 50 rfl rfl (st_ex (vs := [.int .i64 ((rSqr_e3 a).1), .bool ((rSqr_e3 a).2)]) (v := .bool ((rSqr_e3 a).2)) rfl rfl rfl ?_)
      refine ao 5 rfl rfl (st_assign (v := .int .i64 ((rSqr_e3 a).1)) rfl rfl ?_)
      refine ao 6 rfl rfl (st_assign (v := .bool ((rSqr_e3 a).2)) rfl rfl ?_)
      refine ar_nil ?_
      refine ac_seq ?_
      refine ac_region_lit ?_
      refine ao 52 rfl rfl (st_move (v := .int .i64 (max (max (max a.lo (w64 (0 - a.lo))) a.hi) (w64 (0 - a.hi)))) rfl rfl ?_)
      refine ao 53 rfl rfl (st_move (v := .int .i64 (max (max (max a.lo (w64 (0 - a.lo))) a.hi) (w64 (0 - a.hi)))) rfl rfl ?_)
      refine ao 54 rfl rfl (st_cf (vs := [.int .i64 (max (max (max a.lo (w64 (0 - a.lo))) a.hi) (w64 (0 - a.hi))), .int .i64 (max (max (max a.lo (w64 (0 - a.lo))) a.hi) (w64 (0 - a.hi))), .bool true]) (r := .tuple #[.int .i64 ((rSqr_e1 a).1), .bool ((rSqr_e1 a).2)]) (c_rMul (max (max (max a.lo (w64 (0 - a.lo))) a.hi) (w64 (0 - a.hi))) (max (max (max a.lo (w64 (0 - a.lo))) a.hi) (w64 (0 - a.hi))) true) Try.func115 rfl (by decide) rfl rfl rfl ?_)
      refine ao 51 rfl rfl (st_move (v := .tuple #[.int .i64 ((rSqr_e1 a).1), .bool ((rSqr_e1 a).2)]) rfl rfl ?_)
      refine ao 55 rfl rfl (st_ex (vs := [.int .i64 ((rSqr_e1 a).1), .bool ((rSqr_e1 a).2)]) (v := .int .i64 ((rSqr_e1 a).1)) rfl rfl rfl ?_)
      refine ao 56 rfl rfl (st_ex (vs := [.int .i64 ((rSqr_e1 a).1), .bool ((rSqr_e1 a).2)]) (v := .bool ((rSqr_e1 a).2)) rfl rfl rfl ?_)
      refine ao 7 rfl rfl (st_assign (v := .int .i64 ((rSqr_e1 a).1)) rfl rfl ?_)
      refine ao 8 rfl rfl (st_assign (v := .bool ((rSqr_e1 a).2)) rfl rfl ?_)
      refine ar_nil ?_
      refine ac_seq ?_
      refine ac_seq ?_
      refine ac_region_lit ?_
      refine ao 57 rfl rfl (st_move (v := .bool ((rSqr_e1 a).2)) rfl rfl ?_)
      refine ao 58 rfl rfl (st_un (u := .bool ((rSqr_e1 a).2)) (v := .bool (!((rSqr_e1 a).2))) rfl rfl (un_not rfl) ?_)
      refine ar_nil ?_
      refine bool_split ((rSqr_e1 a).2) (fun h3 => ?_) (fun h3 => ?_)
      · refine ac_else' (b := !((rSqr_e1 a).2)) (by rw [h3]; rfl) rfl ?_
        refine ac_skip ?_
        refine ac_seq ?_
        refine ac_region_lit ?_
        refine ao 60 rfl rfl (st_move (v := .int .i64 ((rSqr_e3 a).1)) rfl rfl ?_)
        refine ao 61 rfl rfl (st_move (v := .int .i64 ((rSqr_e1 a).1)) rfl rfl ?_)
        refine ao 62 rfl rfl (st_cf (vs := [.int .i64 ((rSqr_e3 a).1), .int .i64 ((rSqr_e1 a).1)]) (r := .agg #[.int .i64 ((rOf ((rSqr_e3 a).1) ((rSqr_e1 a).1)).lo), .int .i64 ((rOf ((rSqr_e3 a).1) ((rSqr_e1 a).1)).hi), .bool ((rOf ((rSqr_e3 a).1) ((rSqr_e1 a).1)).no)]) (c_rOf ((rSqr_e3 a).1) ((rSqr_e1 a).1)) Try.func112 rfl (by decide) rfl rfl rfl ?_)
        refine ar_op (d := none) rfl rfl (st_sta (g := g1) (off := 0) (us := [.int .i64 ((rOf ((rSqr_e3 a).1) ((rSqr_e1 a).1)).lo), .int .i64 ((rOf ((rSqr_e3 a).1) ((rSqr_e1 a).1)).hi), .bool ((rOf ((rSqr_e3 a).1) ((rSqr_e1 a).1)).no)]) (cs := [.int .i64 ((rOf ((rSqr_e3 a).1) ((rSqr_e1 a).1)).lo), .int .i64 ((rOf ((rSqr_e3 a).1) ((rSqr_e1 a).1)).hi), .bool ((rOf ((rSqr_e3 a).1) ((rSqr_e1 a).1)).no)]) agg26 0 rfl rfl rfl rfl rfl rfl rfl rfl rfl ?_)
        refine ar_nil ?_
        refine ac_ret ?_
        exact fin_eq (v := .agg #[.int .i64 ((rOf ((rSqr_e3 a).1) ((rSqr_e1 a).1)).lo), .int .i64 ((rOf ((rSqr_e3 a).1) ((rSqr_e1 a).1)).hi), .bool ((rOf ((rSqr_e3 a).1) ((rSqr_e1 a).1)).no)]) (by show _ = Iv.v (rSqr a); rw [rSqr, h3, h2, h1] <;> rfl) (fin_ret (res_c (vs := [.int .i64 ((rOf ((rSqr_e3 a).1) ((rSqr_e1 a).1)).lo), .int .i64 ((rOf ((rSqr_e3 a).1) ((rSqr_e1 a).1)).hi), .bool ((rOf ((rSqr_e3 a).1) ((rSqr_e1 a).1)).no)]) agg26 0 rfl rfl rfl rfl rfl rfl))
      · refine ac_then' (b := !((rSqr_e1 a).2)) (by rw [h3]; rfl) rfl ?_
        refine ac_seq ?_
        refine ac_region_lit ?_
        refine ao 59 rfl rfl (st_cf (vs := []) (r := .agg #[.int .i64 rNone.lo, .int .i64 rNone.hi, .bool rNone.no]) c_rNone Try.func111 rfl (by decide) rfl rfl rfl ?_)
        refine ar_op (d := none) rfl rfl (st_sta (g := g1) (off := 0) (us := [.int .i64 rNone.lo, .int .i64 rNone.hi, .bool rNone.no]) (cs := [.int .i64 rNone.lo, .int .i64 rNone.hi, .bool rNone.no]) agg26 0 rfl rfl rfl rfl rfl rfl rfl rfl rfl ?_)
        refine ar_nil ?_
        refine ac_ret ?_
        exact fin_eq (v := .agg #[.int .i64 rNone.lo, .int .i64 rNone.hi, .bool rNone.no]) (by show _ = Iv.v (rSqr a); rw [rSqr, h3, h2, h1] <;> rfl) (fin_ret (res_c (vs := [.int .i64 rNone.lo, .int .i64 rNone.hi, .bool rNone.no]) agg26 0 rfl rfl rfl rfl rfl rfl))
  · refine ac_then' (b := !(rRight a)) (by rw [h1]; rfl) rfl ?_
    refine ac_seq ?_
    refine ac_region_lit ?_
    refine ao 12 rfl rfl (st_cf (vs := []) (r := .agg #[.int .i64 rNone.lo, .int .i64 rNone.hi, .bool rNone.no]) c_rNone Try.func111 rfl (by decide) rfl rfl rfl ?_)
    refine ar_op (d := none) rfl rfl (st_sta (g := g1) (off := 0) (us := [.int .i64 rNone.lo, .int .i64 rNone.hi, .bool rNone.no]) (cs := [.int .i64 rNone.lo, .int .i64 rNone.hi, .bool rNone.no]) agg26 0 rfl rfl rfl rfl rfl rfl rfl rfl rfl ?_)
    refine ar_nil ?_
    refine ac_ret ?_
    exact fin_eq (v := .agg #[.int .i64 rNone.lo, .int .i64 rNone.hi, .bool rNone.no]) (by show _ = Iv.v (rSqr a); rw [rSqr, h1] <;> rfl) (fin_ret (res_c (vs := [.int .i64 rNone.lo, .int .i64 rNone.hi, .bool rNone.no]) agg26 0 rfl rfl rfl rfl rfl rfl))
def rRootIv (a : Iv) : Iv := (bif rRight a then (bif decide (a.lo < 0) then rNone else (rOf ((rRoot a.lo false).1) ((rRoot a.hi true).1))) else rNone)
set_option maxRecDepth 100000 in
theorem c_rRootIv (a : Iv) : Gets Try.prog 81 #[.agg #[.int .i64 a.lo, .int .i64 a.hi, .bool a.no]] (Iv.v (rRootIv a)) := by
  refine gets_fin Try.func81 rfl rfl rfl ?_
  refine ac_seq ?_
  refine ac_region_lit ?_
  refine ao 1 rfl rfl (st_box (v := .agg #[.int .i64 a.lo, .int .i64 a.hi, .bool a.no]) (cs := [.int .i64 a.lo, .int .i64 a.hi, .bool a.no]) rfl rfl rfl fun g0 => ?_)
  refine ao 2 rfl rfl (st_new zero26 rfl fun g1 => ?_)
  refine ar_nil ?_
  refine ac_seq ?_
  refine ac_seq ?_
  refine ac_region_lit ?_
  refine ao 7 rfl rfl (st_lda (g := g0) (off := 0) (vs := [.int .i64 a.lo, .int .i64 a.hi, .bool a.no]) agg26 1 rfl rfl rfl rfl rfl rfl ?_)
  refine ao 8 rfl rfl (st_cf (vs := [.agg #[.int .i64 a.lo, .int .i64 a.hi, .bool a.no]]) (r := .bool (rRight a)) (c_rRight a) Try.func40 rfl (by decide) rfl rfl rfl ?_)
  refine ao 9 rfl rfl (st_un (u := .bool (rRight a)) (v := .bool (!(rRight a))) rfl rfl (un_not rfl) ?_)
  refine ao 10 rfl rfl (st_move (v := .bool (!(rRight a))) rfl rfl ?_)
  refine bool_split (rRight a) (fun h1 => ?_) (fun h1 => ?_)
  · refine ar_gd (d := (some 11)) (by show ((!(rRight a)) == false) = true; rw [h1]; rfl) rfl (st_fa (g := g0) (off := 0) rfl fa26_0 rfl ?_)
    refine ar_gd (d := (some 12)) (by show ((!(rRight a)) == false) = true; rw [h1]; rfl) rfl (st_ldc (g := g0) (off := 0) (v := .int .i64 a.lo) cell3 1 rfl rfl rfl rfl rfl ?_)
    refine ar_gd (d := (some 13)) (by show ((!(rRight a)) == false) = true; rw [h1]; rfl) rfl (st_bi (u := .int .i64 a.lo) (v := .int .i64 0) (r := .bool (decide (a.lo < 0))) rfl rfl rfl (bi_lss rfl) ?_)
    refine ao 14 rfl rfl (st_pkf' (b := !(rRight a)) (v := .bool (decide (a.lo < 0))) (by rw [h1]; rfl) rfl rfl rfl ?_)
    refine ar_nil ?_
    refine bool_split (decide (a.lo < 0)) (fun h2 => ?_) (fun h2 => ?_)
    · refine ac_then' (b := decide (a.lo < 0)) h2 rfl ?_
      refine ac_seq ?_
      refine ac_region_lit ?_
      refine ao 15 rfl rfl (st_cf (vs := []) (r := .agg #[.int .i64 rNone.lo, .int .i64 rNone.hi, .bool rNone.no]) c_rNone Try.func111 rfl (by decide) rfl rfl rfl ?_)
      refine ar_op (d := none) rfl rfl (st_sta (g := g1) (off := 0) (us := [.int .i64 rNone.lo, .int .i64 rNone.hi, .bool rNone.no]) (cs := [.int .i64 rNone.lo, .int .i64 rNone.hi, .bool rNone.no]) agg26 0 rfl rfl rfl rfl rfl rfl rfl rfl rfl ?_)
      refine ar_nil ?_
      refine ac_ret ?_
      exact fin_eq (v := .agg #[.int .i64 rNone.lo, .int .i64 rNone.hi, .bool rNone.no]) (by show _ = Iv.v (rRootIv a); rw [rRootIv, h2, h1] <;> rfl) (fin_ret (res_c (vs := [.int .i64 rNone.lo, .int .i64 rNone.hi, .bool rNone.no]) agg26 0 rfl rfl rfl rfl rfl rfl))
    · refine ac_else' (b := decide (a.lo < 0)) h2 rfl ?_
      refine ac_skip ?_
      refine ac_seq ?_
      refine ac_region_lit ?_
      refine ao 17 rfl rfl (st_fa (g := g0) (off := 0) rfl fa26_0 rfl ?_)
      refine ao 18 rfl rfl (st_ldc (g := g0) (off := 0) (v := .int .i64 a.lo) cell3 1 rfl rfl rfl rfl rfl ?_)
      refine ao 19 rfl rfl (st_cf (vs := [.int .i64 a.lo, .bool false]) (r := .tuple #[.int .i64 ((rRoot a.lo false).1), .bool ((rRoot a.lo false).2)]) (c_rRoot a.lo false) Try.func113 rfl (by decide) rfl rfl rfl ?_)
      refine ao 16 rfl rfl (st_move (v := .tuple #[.int .i64 ((rRoot a.lo false).1), .bool ((rRoot a.lo false).2)]) rfl rfl ?_)
      refine ao 20 rfl rfl (st_ex (vs := [.int .i64 ((rRoot a.lo false).1), .bool ((rRoot a.lo false).2)]) (v := .int .i64 ((rRoot a.lo false).1)) rfl rfl rfl ?_)
      refine ao 21 rfl rfl (st_ex (vs := [.int .i64 ((rRoot a.lo false).1), .bool ((rRoot a.lo false).2)]) (v := .bool ((rRoot a.lo false).2)) rfl rfl rfl ?_)
      refine ao 3 rfl rfl (st_assign (v := .int .i64 ((rRoot a.lo false).1)) rfl rfl ?_)
      refine ao 4 rfl rfl (st_assign (v := .bool ((rRoot a.lo false).2)) rfl rfl ?_)
      refine ar_nil ?_
      refine ac_seq ?_
      refine ac_region_lit ?_
      refine ao 23 rfl rfl (st_fa (g := g0) (off := 0) rfl fa26_1 rfl ?_)
      refine ao 24 rfl rfl (st_ldc (g := g0) (off := 1) (v := .int .i64 a.hi) cell3 1 rfl rfl rfl rfl rfl ?_)
      refine ao 25 rfl rfl (st_cf (vs := [.int .i64 a.hi, .bool true]) (r := .tuple #[.int .i64 ((rRoot a.hi true).1), .bool ((rRoot a.hi true).2)]) (c_rRoot a.hi true) Try.func113 rfl (by decide) rfl rfl rfl ?_)
      refine ao 22 rfl rfl (st_move (v := .tuple #[.int .i64 ((rRoot a.hi true).1), .bool ((rRoot a.hi true).2)]) rfl rfl ?_)
      refine ao 26 rfl rfl (st_ex (vs := [.int .i64 ((rRoot a.hi true).1), .bool ((rRoot a.hi true).2)]) (v := .int .i64 ((rRoot a.hi true).1)) rfl rfl rfl ?_)
      refine ao 27 rfl rfl (st_ex (vs := [.int .i64 ((rRoot a.hi true).1), .bool ((rRoot a.hi true).2)]) (v := .bool ((rRoot a.hi true).2)) rfl rfl rfl ?_)
      refine ao 5 rfl rfl (st_assign (v := .int .i64 ((rRoot a.hi true).1)) rfl rfl ?_)
      refine ao 6 rfl rfl (st_assign (v := .bool ((rRoot a.hi true).2)) rfl rfl ?_)
      refine ar_nil ?_
      refine ac_seq ?_
      refine ac_region_lit ?_
      refine ao 28 rfl rfl (st_move (v := .int .i64 ((rRoot a.lo false).1)) rfl rfl ?_)
      refine ao 29 rfl rfl (st_move (v := .int .i64 ((rRoot a.hi true).1)) rfl rfl ?_)
      refine ao 30 rfl rfl (st_cf (vs := [.int .i64 ((rRoot a.lo false).1), .int .i64 ((rRoot a.hi true).1)]) (r := .agg #[.int .i64 ((rOf ((rRoot a.lo false).1) ((rRoot a.hi true).1)).lo), .int .i64 ((rOf ((rRoot a.lo false).1) ((rRoot a.hi true).1)).hi), .bool ((rOf ((rRoot a.lo false).1) ((rRoot a.hi true).1)).no)]) (c_rOf ((rRoot a.lo false).1) ((rRoot a.hi true).1)) Try.func112 rfl (by decide) rfl rfl rfl ?_)
      refine ar_op (d := none) rfl rfl (st_sta (g := g1) (off := 0) (us := [.int .i64 ((rOf ((rRoot a.lo false).1) ((rRoot a.hi true).1)).lo), .int .i64 ((rOf ((rRoot a.lo false).1) ((rRoot a.hi true).1)).hi), .bool ((rOf ((rRoot a.lo false).1) ((rRoot a.hi true).1)).no)]) (cs := [.int .i64 ((rOf ((rRoot a.lo false).1) ((rRoot a.hi true).1)).lo), .int .i64 ((rOf ((rRoot a.lo false).1) ((rRoot a.hi true).1)).hi), .bool ((rOf ((rRoot a.lo false).1) ((rRoot a.hi true).1)).no)]) agg26 0 rfl rfl rfl rfl rfl rfl rfl rfl rfl ?_)
      refine ar_nil ?_
      refine ac_ret ?_
      exact fin_eq (v := .agg #[.int .i64 ((rOf ((rRoot a.lo false).1) ((rRoot a.hi true).1)).lo), .int .i64 ((rOf ((rRoot a.lo false).1) ((rRoot a.hi true).1)).hi), .bool ((rOf ((rRoot a.lo false).1) ((rRoot a.hi true).1)).no)]) (by show _ = Iv.v (rRootIv a); rw [rRootIv, h2, h1] <;> rfl) (fin_ret (res_c (vs := [.int .i64 ((rOf ((rRoot a.lo false).1) ((rRoot a.hi true).1)).lo), .int .i64 ((rOf ((rRoot a.lo false).1) ((rRoot a.hi true).1)).hi), .bool ((rOf ((rRoot a.lo false).1) ((rRoot a.hi true).1)).no)]) agg26 0 rfl rfl rfl rfl rfl rfl))
  · refine ar_sk (d := (some 11)) (by show ((!(rRight a)) == false) = false; rw [h1]; rfl) rfl ?_
    refine ar_sk (d := (some 12)) (by show ((!(rRight a)) == false) = false; rw [h1]; rfl) rfl ?_
    refine ar_sk (d := (some 13)) (by show ((!(rRight a)) == false) = false; rw [h1]; rfl) rfl ?_
    refine ao 14 rfl rfl (st_pkt' (b := !(rRight a)) (v := .bool true) (by rw [h1]; rfl) rfl rfl rfl ?_)
    refine ar_nil ?_
    refine ac_then rfl ?_
    refine ac_seq ?_
    refine ac_region_lit ?_
    refine ao 15 rfl rfl (st_cf (vs := []) (r := .agg #[.int .i64 rNone.lo, .int .i64 rNone.hi, .bool rNone.no]) c_rNone Try.func111 rfl (by decide) rfl rfl rfl ?_)
    refine ar_op (d := none) rfl rfl (st_sta (g := g1) (off := 0) (us := [.int .i64 rNone.lo, .int .i64 rNone.hi, .bool rNone.no]) (cs := [.int .i64 rNone.lo, .int .i64 rNone.hi, .bool rNone.no]) agg26 0 rfl rfl rfl rfl rfl rfl rfl rfl rfl ?_)
    refine ar_nil ?_
    refine ac_ret ?_
    exact fin_eq (v := .agg #[.int .i64 rNone.lo, .int .i64 rNone.hi, .bool rNone.no]) (by show _ = Iv.v (rRootIv a); rw [rRootIv, h1] <;> rfl) (fin_ret (res_c (vs := [.int .i64 rNone.lo, .int .i64 rNone.hi, .bool rNone.no]) agg26 0 rfl rfl rfl rfl rfl rfl))
def rHull (a : Iv) (b : Iv) : Iv := (bif rRight a then (bif rRight b then (rOf (min a.lo b.lo) (max a.hi b.hi)) else rNone) else rNone)
def rMeet (a : Iv) (b : Iv) : Iv := (bif rRight a then (bif rRight b then (rOf (max a.lo b.lo) (min a.hi b.hi)) else rNone) else rNone)
def rMid (a : Iv) : Int := (bif rRight a then (rFloor (w64 (a.lo + a.hi)) 2) else 0)
def rHas (a : Iv) (n : Int) : Bool := (bif rRight a then (bif decide (a.lo ≤ n) then decide (n ≤ a.hi) else false) else false)
def rInside (a : Iv) (b : Iv) : Bool := (bif rRight a then (bif rRight b then (bif decide (a.lo ≥ b.lo) then decide (a.hi ≤ b.hi) else false) else false) else false)
def rSplit (a : Iv) : Iv × Iv := (bif rRight a then ((rOf a.lo (rMid a)), (rOf (rMid a) a.hi)) else (rNone, rNone))
end Go.Proofs.Ythngkopcadlciaa