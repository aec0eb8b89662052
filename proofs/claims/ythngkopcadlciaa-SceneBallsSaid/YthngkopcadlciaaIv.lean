import Derived.Test.YthngkopcadlciaaNum
import Derived.Test.YthngkopcadlciaaRoot
set_option linter.unusedVariables false
set_option linter.unusedSimpArgs false
namespace Go.Proofs.Ythngkopcadlciaa
open Go.RowKit

attribute [local irreducible] AC AR DWalk
def ivRight (a : Iv) : Bool := (bif a.no then false else (bif numIn a.lo then (bif numIn a.hi then decide (a.lo ≤ a.hi) else false) else false))
set_option maxRecDepth 100000 in
theorem c_ivRight (a : Iv) : Gets Try.prog 25 #[.agg #[.int .i64 a.lo, .int .i64 a.hi, .bool a.no]] ((fun (r : Bool) => (.bool r : Value)) (ivRight a)) := by
  refine gets_fin Try.func25 rfl rfl rfl ?_
  refine ac_seq ?_
  refine ac_region_lit ?_
  refine ao 1 rfl rfl (st_box (v := .agg #[.int .i64 a.lo, .int .i64 a.hi, .bool a.no]) (cs := [.int .i64 a.lo, .int .i64 a.hi, .bool a.no]) rfl rfl rfl fun g0 => ?_)
  refine ao 2 rfl rfl (st_assign (v := .bool false) rfl rfl ?_)
  refine ar_nil ?_
  refine ac_seq ?_
  refine ac_region_lit ?_
  refine ao 3 rfl rfl (st_fa (g := g0) (off := 0) rfl fa26_2 rfl ?_)
  refine ao 4 rfl rfl (st_ldc (g := g0) (off := 2) (v := .bool a.no) cell4 0 rfl rfl rfl rfl rfl ?_)
  refine ao 5 rfl rfl (st_un (u := .bool a.no) (v := .bool (!a.no)) rfl rfl (un_not rfl) ?_)
  refine ao 6 rfl rfl (st_move (v := .bool (!a.no)) rfl rfl ?_)
  refine bool_split (a.no) (fun h1 => ?_) (fun h1 => ?_)
  · refine ar_sk (d := (some 7)) (by show ((!a.no) == true) = false; rw [h1]; rfl) rfl ?_
    refine ar_sk (d := (some 8)) (by show ((!a.no) == true) = false; rw [h1]; rfl) rfl ?_
    refine ar_sk (d := (some 9)) (by show ((!a.no) == true) = false; rw [h1]; rfl) rfl ?_
    refine ao 10 rfl rfl (st_pkf' (b := !a.no) (v := .bool false) (by rw [h1]; rfl) rfl rfl rfl ?_)
    refine ao 11 rfl rfl (st_move (v := .bool false) rfl rfl ?_)
    refine ar_sk (d := (some 12)) rfl rfl ?_
    refine ar_sk (d := (some 13)) rfl rfl ?_
    refine ar_sk (d := (some 14)) rfl rfl ?_
    refine ao 15 rfl rfl (st_pkf (v := .bool false) rfl rfl rfl ?_)
    refine ao 16 rfl rfl (st_move (v := .bool false) rfl rfl ?_)
    refine ar_sk (d := (some 17)) rfl rfl ?_
    refine ar_sk (d := (some 18)) rfl rfl ?_
    refine ar_sk (d := (some 19)) rfl rfl ?_
    refine ar_sk (d := (some 20)) rfl rfl ?_
    refine ar_sk (d := (some 21)) rfl rfl ?_
    refine ao 22 rfl rfl (st_pkf (v := .bool false) rfl rfl rfl ?_)
    refine ao 2 rfl rfl (st_assign (v := .bool false) rfl rfl ?_)
    refine ar_nil ?_
    refine ac_ret ?_
    exact fin_eq (v := .bool false) (by show _ = (fun (r : Bool) => (.bool r : Value)) (ivRight a); rw [ivRight, h1] <;> rfl) (fin_ret (res_tmp rfl rfl))
  · refine ar_gd (d := (some 7)) (by show ((!a.no) == true) = true; rw [h1]; rfl) rfl (st_fa (g := g0) (off := 0) rfl fa26_0 rfl ?_)
    refine ar_gd (d := (some 8)) (by show ((!a.no) == true) = true; rw [h1]; rfl) rfl (st_ldc (g := g0) (off := 0) (v := .int .i64 a.lo) cell3 0 rfl rfl rfl rfl rfl ?_)
    refine ar_gd (d := (some 9)) (by show ((!a.no) == true) = true; rw [h1]; rfl) rfl (st_cf (vs := [.int .i64 a.lo]) (r := .bool (numIn a.lo)) (c_numIn a.lo) Try.func65 rfl (by decide) rfl rfl rfl ?_)
    refine ao 10 rfl rfl (st_pkt' (b := !a.no) (v := .bool (numIn a.lo)) (by rw [h1]; rfl) rfl rfl rfl ?_)
    refine ao 11 rfl rfl (st_move (v := .bool (numIn a.lo)) rfl rfl ?_)
    refine bool_split (numIn a.lo) (fun h2 => ?_) (fun h2 => ?_)
    · refine ar_gd (d := (some 12)) (by show ((numIn a.lo) == true) = true; rw [h2]; rfl) rfl (st_fa (g := g0) (off := 0) rfl fa26_1 rfl ?_)
      refine ar_gd (d := (some 13)) (by show ((numIn a.lo) == true) = true; rw [h2]; rfl) rfl (st_ldc (g := g0) (off := 1) (v := .int .i64 a.hi) cell3 0 rfl rfl rfl rfl rfl ?_)
      refine ar_gd (d := (some 14)) (by show ((numIn a.lo) == true) = true; rw [h2]; rfl) rfl (st_cf (vs := [.int .i64 a.hi]) (r := .bool (numIn a.hi)) (c_numIn a.hi) Try.func65 rfl (by decide) rfl rfl rfl ?_)
      refine ao 15 rfl rfl (st_pkt' (b := numIn a.lo) (v := .bool (numIn a.hi)) h2 rfl rfl rfl ?_)
      refine ao 16 rfl rfl (st_move (v := .bool (numIn a.hi)) rfl rfl ?_)
      refine bool_split (numIn a.hi) (fun h3 => ?_) (fun h3 => ?_)
      · refine ar_gd (d := (some 17)) (by show ((numIn a.hi) == true) = true; rw [h3]; rfl) rfl (st_fa (g := g0) (off := 0) rfl fa26_0 rfl ?_)
        refine ar_gd (d := (some 18)) (by show ((numIn a.hi) == true) = true; rw [h3]; rfl) rfl (st_ldc (g := g0) (off := 0) (v := .int .i64 a.lo) cell3 0 rfl rfl rfl rfl rfl ?_)
        refine ar_gd (d := (some 19)) (by show ((numIn a.hi) == true) = true; rw [h3]; rfl) rfl (st_fa (g := g0) (off := 0) rfl fa26_1 rfl ?_)
        refine ar_gd (d := (some 20)) (by show ((numIn a.hi) == true) = true; rw [h3]; rfl) rfl (st_ldc (g := g0) (off := 1) (v := .int .i64 a.hi) cell3 0 rfl rfl rfl rfl rfl ?_)
        refine ar_gd (d := (some 21)) (by show ((numIn a.hi) == true) = true; rw [h3]; rfl) rfl (st_bi (u := .int .i64 a.lo) (v := .int .i64 a.hi) (r := .bool (decide (a.lo ≤ a.hi))) rfl rfl rfl (bi_leq rfl) ?_)
        refine ao 22 rfl rfl (st_pkt' (b := numIn a.hi) (v := .bool (decide (a.lo ≤ a.hi))) h3 rfl rfl rfl ?_)
        refine ao 2 rfl rfl (st_assign (v := .bool (decide (a.lo ≤ a.hi))) rfl rfl ?_)
        refine ar_nil ?_
        refine ac_ret ?_
        exact fin_eq (v := .bool (decide (a.lo ≤ a.hi))) (by show _ = (fun (r : Bool) => (.bool r : Value)) (ivRight a); rw [ivRight, h3, h2, h1] <;> rfl) (fin_ret (res_tmp rfl rfl))
      · refine ar_sk (d := (some 17)) (by show ((numIn a.hi) == true) = false; rw [h3]; rfl) rfl ?_
        refine ar_sk (d := (some 18)) (by show ((numIn a.hi) == true) = false; rw [h3]; rfl) rfl ?_
        refine ar_sk (d := (some 19)) (by show ((numIn a.hi) == true) = false; rw [h3]; rfl) rfl ?_
        refine ar_sk (d := (some 20)) (by show ((numIn a.hi) == true) = false; rw [h3]; rfl) rfl ?_
        refine ar_sk (d := (some 21)) (by show ((numIn a.hi) == true) = false; rw [h3]; rfl) rfl ?_
        refine ao 22 rfl rfl (st_pkf' (b := numIn a.hi) (v := .bool false) h3 rfl rfl rfl ?_)
        refine ao 2 rfl rfl (st_assign (v := .bool false) rfl rfl ?_)
        refine ar_nil ?_
        refine ac_ret ?_
        exact fin_eq (v := .bool false) (by show _ = (fun (r : Bool) => (.bool r : Value)) (ivRight a); rw [ivRight, h3, h2, h1] <;> rfl) (fin_ret (res_tmp rfl rfl))
    · refine ar_sk (d := (some 12)) (by show ((numIn a.lo) == true) = false; rw [h2]; rfl) rfl ?_
      refine ar_sk (d := (some 13)) (by show ((numIn a.lo) == true) = false; rw [h2]; rfl) rfl ?_
      refine ar_sk (d := (some 14)) (by show ((numIn a.lo) == true) = false; rw [h2]; rfl) rfl ?_
      refine ao 15 rfl rfl (st_pkf' (b := numIn a.lo) (v := .bool false) h2 rfl rfl rfl ?_)
      refine ao 16 rfl rfl (st_move (v := .bool false) rfl rfl ?_)
      refine ar_sk (d := (some 17)) rfl rfl ?_
      refine ar_sk (d := (some 18)) rfl rfl ?_
      refine ar_sk (d := (some 19)) rfl rfl ?_
      refine ar_sk (d := (some 20)) rfl rfl ?_
      refine ar_sk (d := (some 21)) rfl rfl ?_
      refine ao 22 rfl rfl (st_pkf (v := .bool false) rfl rfl rfl ?_)
      refine ao 2 rfl rfl (st_assign (v := .bool false) rfl rfl ?_)
      refine ar_nil ?_
      refine ac_ret ?_
      exact fin_eq (v := .bool false) (by show _ = (fun (r : Bool) => (.bool r : Value)) (ivRight a); rw [ivRight, h2, h1] <;> rfl) (fin_ret (res_tmp rfl rfl))
def ivNone  : Iv := (⟨0, 0, true⟩ : Iv)
set_option maxRecDepth 100000 in
theorem c_ivNone  : Gets Try.prog 28 #[] (Iv.v ivNone) := by
  refine gets_fin Try.func28 rfl rfl rfl ?_
  refine ac_seq ?_
  refine ac_region_lit ?_
  refine ao 0 rfl rfl (st_new zero26 rfl fun g0 => ?_)
  refine ar_nil ?_
  refine ac_seq ?_
  refine ac_region_lit ?_
  refine ao 1 rfl rfl (st_bd (us := [(2, .bool true)]) (v := .agg #[.int .i64 0, .int .i64 0, .bool true]) rfl rfl (bd26_2 _) ?_)
  refine ar_op (d := none) rfl rfl (st_sta (g := g0) (off := 0) (us := [.int .i64 0, .int .i64 0, .bool true]) (cs := [.int .i64 0, .int .i64 0, .bool true]) agg26 0 rfl rfl rfl rfl rfl rfl rfl rfl rfl ?_)
  refine ar_nil ?_
  refine ac_ret ?_
  exact fin_eq (v := .agg #[.int .i64 0, .int .i64 0, .bool true]) rfl (fin_ret (res_c (vs := [.int .i64 0, .int .i64 0, .bool true]) agg26 0 rfl rfl rfl rfl rfl rfl))
def ivOf (l : Int) (h : Int) : Iv := (bif ivRight (⟨l, h, false⟩ : Iv) then (⟨l, h, false⟩ : Iv) else ivNone)
set_option maxRecDepth 100000 in
theorem c_ivOf (l : Int) (h : Int) : Gets Try.prog 70 #[.int .i64 l, .int .i64 h] (Iv.v (ivOf l h)) := by
  refine gets_fin Try.func70 rfl rfl rfl ?_
  refine ac_seq ?_
  refine ac_region_lit ?_
  refine ao 4 rfl rfl (st_new zero26 rfl fun g0 => ?_)
  refine ar_nil ?_
  refine ac_seq ?_
  refine ac_region_lit ?_
  refine ao 6 rfl rfl (st_move (v := .int .i64 l) rfl rfl ?_)
  refine ao 7 rfl rfl (st_move (v := .int .i64 h) rfl rfl ?_)
  refine ao 8 rfl rfl (st_bd (us := [(0, .int .i64 l), (1, .int .i64 h)]) (v := .agg #[.int .i64 l, .int .i64 h, .bool false]) rfl rfl (bd26_0_1 _ _) ?_)
  refine ao 5 rfl rfl (st_new zero26 rfl fun g1 => ?_)
  refine ar_op (d := none) rfl rfl (st_sta (g := g1) (off := 0) (us := [.int .i64 l, .int .i64 h, .bool false]) (cs := [.int .i64 l, .int .i64 h, .bool false]) agg26 0 rfl rfl rfl rfl rfl rfl rfl rfl rfl ?_)
  refine ar_nil ?_
  refine ac_seq ?_
  refine ac_seq ?_
  refine ac_region_lit ?_
  refine ao 9 rfl rfl (st_lda (g := g1) (off := 0) (vs := [.int .i64 l, .int .i64 h, .bool false]) agg26 0 rfl rfl rfl rfl rfl rfl ?_)
  refine ao 10 rfl rfl (st_cf (vs := [.agg #[.int .i64 l, .int .i64 h, .bool false]]) (r := .bool (ivRight (⟨l, h, false⟩ : Iv))) (c_ivRight (⟨l, h, false⟩ : Iv)) Try.func25 rfl (by decide) rfl rfl rfl ?_)
  refine ao 11 rfl rfl (st_un (u := .bool (ivRight (⟨l, h, false⟩ : Iv))) (v := .bool (!(ivRight (⟨l, h, false⟩ : Iv)))) rfl rfl (un_not rfl) ?_)
  refine ar_nil ?_
  refine bool_split (ivRight (⟨l, h, false⟩ : Iv)) (fun h1 => ?_) (fun h1 => ?_)
  · refine ac_else' (b := !(ivRight (⟨l, h, false⟩ : Iv))) (by rw [h1]; rfl) rfl ?_
    refine ac_skip ?_
    refine ac_seq ?_
    refine ac_region_lit ?_
    refine ao 13 rfl rfl (st_lda (g := g1) (off := 0) (vs := [.int .i64 l, .int .i64 h, .bool false]) agg26 0 rfl rfl rfl rfl rfl rfl ?_)
    refine ar_op (d := none) rfl rfl (st_sta (g := g0) (off := 0) (us := [.int .i64 l, .int .i64 h, .bool false]) (cs := [.int .i64 l, .int .i64 h, .bool false]) agg26 1 rfl rfl rfl rfl rfl rfl rfl rfl rfl ?_)
    refine ar_nil ?_
    refine ac_ret ?_
    exact fin_eq (v := .agg #[.int .i64 l, .int .i64 h, .bool false]) (by show _ = Iv.v (ivOf l h); rw [ivOf, h1] <;> rfl) (fin_ret (res_c (vs := [.int .i64 l, .int .i64 h, .bool false]) agg26 1 rfl rfl rfl rfl rfl rfl))
  · refine ac_then' (b := !(ivRight (⟨l, h, false⟩ : Iv))) (by rw [h1]; rfl) rfl ?_
    refine ac_seq ?_
    refine ac_region_lit ?_
    refine ao 12 rfl rfl (st_cf (vs := []) (r := .agg #[.int .i64 ivNone.lo, .int .i64 ivNone.hi, .bool ivNone.no]) c_ivNone Try.func28 rfl (by decide) rfl rfl rfl ?_)
    refine ar_op (d := none) rfl rfl (st_sta (g := g0) (off := 0) (us := [.int .i64 ivNone.lo, .int .i64 ivNone.hi, .bool ivNone.no]) (cs := [.int .i64 ivNone.lo, .int .i64 ivNone.hi, .bool ivNone.no]) agg26 1 rfl rfl rfl rfl rfl rfl rfl rfl rfl ?_)
    refine ar_nil ?_
    refine ac_ret ?_
    exact fin_eq (v := .agg #[.int .i64 ivNone.lo, .int .i64 ivNone.hi, .bool ivNone.no]) (by show _ = Iv.v (ivOf l h); rw [ivOf, h1] <;> rfl) (fin_ret (res_c (vs := [.int .i64 ivNone.lo, .int .i64 ivNone.hi, .bool ivNone.no]) agg26 1 rfl rfl rfl rfl rfl rfl))
def ivPoint (n : Int) : Iv := (ivOf n n)
set_option maxRecDepth 100000 in
theorem c_ivPoint (n : Int) : Gets Try.prog 29 #[.int .i64 n] (Iv.v (ivPoint n)) := by
  refine gets_fin Try.func29 rfl rfl rfl ?_
  refine ac_seq ?_
  refine ac_region_lit ?_
  refine ao 2 rfl rfl (st_new zero26 rfl fun g0 => ?_)
  refine ar_nil ?_
  refine ac_seq ?_
  refine ac_region_lit ?_
  refine ao 3 rfl rfl (st_move (v := .int .i64 n) rfl rfl ?_)
  refine ao 4 rfl rfl (st_move (v := .int .i64 n) rfl rfl ?_)
  refine ao 5 rfl rfl (st_cf (vs := [.int .i64 n, .int .i64 n]) (r := .agg #[.int .i64 ((ivOf n n).lo), .int .i64 ((ivOf n n).hi), .bool ((ivOf n n).no)]) (c_ivOf n n) Try.func70 rfl (by decide) rfl rfl rfl ?_)
  refine ar_op (d := none) rfl rfl (st_sta (g := g0) (off := 0) (us := [.int .i64 ((ivOf n n).lo), .int .i64 ((ivOf n n).hi), .bool ((ivOf n n).no)]) (cs := [.int .i64 ((ivOf n n).lo), .int .i64 ((ivOf n n).hi), .bool ((ivOf n n).no)]) agg26 0 rfl rfl rfl rfl rfl rfl rfl rfl rfl ?_)
  refine ar_nil ?_
  refine ac_ret ?_
  exact fin_eq (v := .agg #[.int .i64 ((ivOf n n).lo), .int .i64 ((ivOf n n).hi), .bool ((ivOf n n).no)]) rfl (fin_ret (res_c (vs := [.int .i64 ((ivOf n n).lo), .int .i64 ((ivOf n n).hi), .bool ((ivOf n n).no)]) agg26 0 rfl rfl rfl rfl rfl rfl))
def ivWhole (n : Int) : Iv := (bif numIn n then (ivPoint (w64 (n * 65536))) else ivNone)
set_option maxRecDepth 100000 in
theorem c_ivWhole (n : Int) : Gets Try.prog 21 #[.int .i64 n] (Iv.v (ivWhole n)) := by
  refine gets_fin Try.func21 rfl rfl rfl ?_
  refine ac_seq ?_
  refine ac_region_lit ?_
  refine ao 2 rfl rfl (st_new zero26 rfl fun g0 => ?_)
  refine ar_nil ?_
  refine ac_seq ?_
  refine ac_seq ?_
  refine ac_region_lit ?_
  refine ao 3 rfl rfl (st_move (v := .int .i64 n) rfl rfl ?_)
  refine ao 4 rfl rfl (st_cf (vs := [.int .i64 n]) (r := .bool (numIn n)) (c_numIn n) Try.func65 rfl (by decide) rfl rfl rfl ?_)
  refine ao 5 rfl rfl (st_un (u := .bool (numIn n)) (v := .bool (!(numIn n))) rfl rfl (un_not rfl) ?_)
  refine ar_nil ?_
  refine bool_split (numIn n) (fun h1 => ?_) (fun h1 => ?_)
  · refine ac_else' (b := !(numIn n)) (by rw [h1]; rfl) rfl ?_
    refine ac_skip ?_
    refine ac_seq ?_
    refine ac_region_lit ?_
    refine ao 7 rfl rfl (st_move (v := .int .i64 n) rfl rfl ?_)
    refine ao 8 rfl rfl (st_bi (u := .int .i64 n) (v := .int .i64 65536) (r := .int .i64 (w64 (n * 65536))) rfl rfl rfl (bi_mul rfl) ?_)
    refine ao 9 rfl rfl (st_cf (vs := [.int .i64 (w64 (n * 65536))]) (r := .agg #[.int .i64 ((ivPoint (w64 (n * 65536))).lo), .int .i64 ((ivPoint (w64 (n * 65536))).hi), .bool ((ivPoint (w64 (n * 65536))).no)]) (c_ivPoint (w64 (n * 65536))) Try.func29 rfl (by decide) rfl rfl rfl ?_)
    refine ar_op (d := none) rfl rfl (st_sta (g := g0) (off := 0) (us := [.int .i64 ((ivPoint (w64 (n * 65536))).lo), .int .i64 ((ivPoint (w64 (n * 65536))).hi), .bool ((ivPoint (w64 (n * 65536))).no)]) (cs := [.int .i64 ((ivPoint (w64 (n * 65536))).lo), .int .i64 ((ivPoint (w64 (n * 65536))).hi), .bool ((ivPoint (w64 (n * 65536))).no)]) agg26 0 rfl rfl rfl rfl rfl rfl rfl rfl rfl ?_)
    refine ar_nil ?_
    refine ac_ret ?_
    exact fin_eq (v := .agg #[.int .i64 ((ivPoint (w64 (n * 65536))).lo), .int .i64 ((ivPoint (w64 (n * 65536))).hi), .bool ((ivPoint (w64 (n * 65536))).no)]) (by show _ = Iv.v (ivWhole n); rw [ivWhole, h1] <;> rfl) (fin_ret (res_c (vs := [.int .i64 ((ivPoint (w64 (n * 65536))).lo), .int .i64 ((ivPoint (w64 (n * 65536))).hi), .bool ((ivPoint (w64 (n * 65536))).no)]) agg26 0 rfl rfl rfl rfl rfl rfl))
  · refine ac_then' (b := !(numIn n)) (by rw [h1]; rfl) rfl ?_
    refine ac_seq ?_
    refine ac_region_lit ?_
    refine ao 6 rfl rfl (st_cf (vs := []) (r := .agg #[.int .i64 ivNone.lo, .int .i64 ivNone.hi, .bool ivNone.no]) c_ivNone Try.func28 rfl (by decide) rfl rfl rfl ?_)
    refine ar_op (d := none) rfl rfl (st_sta (g := g0) (off := 0) (us := [.int .i64 ivNone.lo, .int .i64 ivNone.hi, .bool ivNone.no]) (cs := [.int .i64 ivNone.lo, .int .i64 ivNone.hi, .bool ivNone.no]) agg26 0 rfl rfl rfl rfl rfl rfl rfl rfl rfl ?_)
    refine ar_nil ?_
    refine ac_ret ?_
    exact fin_eq (v := .agg #[.int .i64 ivNone.lo, .int .i64 ivNone.hi, .bool ivNone.no]) (by show _ = Iv.v (ivWhole n); rw [ivWhole, h1] <;> rfl) (fin_ret (res_c (vs := [.int .i64 ivNone.lo, .int .i64 ivNone.hi, .bool ivNone.no]) agg26 0 rfl rfl rfl rfl rfl rfl))
def ivBoth (a : Iv) (b : Iv) : Bool := (bif ivRight a then ivRight b else false)
set_option maxRecDepth 100000 in
theorem c_ivBoth (a : Iv) (b : Iv) : Gets Try.prog 69 #[.agg #[.int .i64 a.lo, .int .i64 a.hi, .bool a.no], .agg #[.int .i64 b.lo, .int .i64 b.hi, .bool b.no]] ((fun (r : Bool) => (.bool r : Value)) (ivBoth a b)) := by
  refine gets_fin Try.func69 rfl rfl rfl ?_
  refine ac_seq ?_
  refine ac_region_lit ?_
  refine ao 2 rfl rfl (st_box (v := .agg #[.int .i64 a.lo, .int .i64 a.hi, .bool a.no]) (cs := [.int .i64 a.lo, .int .i64 a.hi, .bool a.no]) rfl rfl rfl fun g0 => ?_)
  refine ao 3 rfl rfl (st_box (v := .agg #[.int .i64 b.lo, .int .i64 b.hi, .bool b.no]) (cs := [.int .i64 b.lo, .int .i64 b.hi, .bool b.no]) rfl rfl rfl fun g1 => ?_)
  refine ao 4 rfl rfl (st_assign (v := .bool false) rfl rfl ?_)
  refine ar_nil ?_
  refine ac_seq ?_
  refine ac_region_lit ?_
  refine ao 5 rfl rfl (st_lda (g := g0) (off := 0) (vs := [.int .i64 a.lo, .int .i64 a.hi, .bool a.no]) agg26 1 rfl rfl rfl rfl rfl rfl ?_)
  refine ao 6 rfl rfl (st_cf (vs := [.agg #[.int .i64 a.lo, .int .i64 a.hi, .bool a.no]]) (r := .bool (ivRight a)) (c_ivRight a) Try.func25 rfl (by decide) rfl rfl rfl ?_)
  refine ao 7 rfl rfl (st_move (v := .bool (ivRight a)) rfl rfl ?_)
  refine bool_split (ivRight a) (fun h1 => ?_) (fun h1 => ?_)
  · refine ar_gd (d := (some 8)) (by show ((ivRight a) == true) = true; rw [h1]; rfl) rfl (st_lda (g := g1) (off := 0) (vs := [.int .i64 b.lo, .int .i64 b.hi, .bool b.no]) agg26 0 rfl rfl rfl rfl rfl rfl ?_)
    refine ar_gd (d := (some 9)) (by show ((ivRight a) == true) = true; rw [h1]; rfl) rfl (st_cf (vs := [.agg #[.int .i64 b.lo, .int .i64 b.hi, .bool b.no]]) (r := .bool (ivRight b)) (c_ivRight b) Try.func25 rfl (by decide) rfl rfl rfl ?_)
    refine ao 10 rfl rfl (st_pkt' (b := ivRight a) (v := .bool (ivRight b)) h1 rfl rfl rfl ?_)
    refine ao 4 rfl rfl (st_assign (v := .bool (ivRight b)) rfl rfl ?_)
    refine ar_nil ?_
    refine ac_ret ?_
    exact fin_eq (v := .bool (ivRight b)) (by show _ = (fun (r : Bool) => (.bool r : Value)) (ivBoth a b); rw [ivBoth, h1] <;> rfl) (fin_ret (res_tmp rfl rfl))
  · refine ar_sk (d := (some 8)) (by show ((ivRight a) == true) = false; rw [h1]; rfl) rfl ?_
    refine ar_sk (d := (some 9)) (by show ((ivRight a) == true) = false; rw [h1]; rfl) rfl ?_
    refine ao 10 rfl rfl (st_pkf' (b := ivRight a) (v := .bool false) h1 rfl rfl rfl ?_)
    refine ao 4 rfl rfl (st_assign (v := .bool false) rfl rfl ?_)
    refine ar_nil ?_
    refine ac_ret ?_
    exact fin_eq (v := .bool false) (by show _ = (fun (r : Bool) => (.bool r : Value)) (ivBoth a b); rw [ivBoth, h1] <;> rfl) (fin_ret (res_tmp rfl rfl))
def ivAdd (a : Iv) (b : Iv) : Iv := (bif ivBoth a b then (ivOf (w64 (a.lo + b.lo)) (w64 (a.hi + b.hi))) else ivNone)
set_option maxRecDepth 100000 in
theorem c_ivAdd (a : Iv) (b : Iv) : Gets Try.prog 67 #[.agg #[.int .i64 a.lo, .int .i64 a.hi, .bool a.no], .agg #[.int .i64 b.lo, .int .i64 b.hi, .bool b.no]] (Iv.v (ivAdd a b)) := by
  refine gets_fin Try.func67 rfl rfl rfl ?_
  refine ac_seq ?_
  refine ac_region_lit ?_
  refine ao 2 rfl rfl (st_box (v := .agg #[.int .i64 a.lo, .int .i64 a.hi, .bool a.no]) (cs := [.int .i64 a.lo, .int .i64 a.hi, .bool a.no]) rfl rfl rfl fun g0 => ?_)
  refine ao 3 rfl rfl (st_box (v := .agg #[.int .i64 b.lo, .int .i64 b.hi, .bool b.no]) (cs := [.int .i64 b.lo, .int .i64 b.hi, .bool b.no]) rfl rfl rfl fun g1 => ?_)
  refine ao 4 rfl rfl (st_new zero26 rfl fun g2 => ?_)
  refine ar_nil ?_
  refine ac_seq ?_
  refine ac_seq ?_
  refine ac_region_lit ?_
  refine ao 5 rfl rfl (st_lda (g := g0) (off := 0) (vs := [.int .i64 a.lo, .int .i64 a.hi, .bool a.no]) agg26 2 rfl rfl rfl rfl rfl rfl ?_)
  refine ao 6 rfl rfl (st_lda (g := g1) (off := 0) (vs := [.int .i64 b.lo, .int .i64 b.hi, .bool b.no]) agg26 1 rfl rfl rfl rfl rfl rfl ?_)
  refine ao 7 rfl rfl (st_cf (vs := [.agg #[.int .i64 a.lo, .int .i64 a.hi, .bool a.no], .agg #[.int .i64 b.lo, .int .i64 b.hi, .bool b.no]]) (r := .bool (ivBoth a b)) (c_ivBoth a b) Try.func69 rfl (by decide) rfl rfl rfl ?_)
  refine ao 8 rfl rfl (st_un (u := .bool (ivBoth a b)) (v := .bool (!(ivBoth a b))) rfl rfl (un_not rfl) ?_)
  refine ar_nil ?_
  refine bool_split (ivBoth a b) (fun h1 => ?_) (fun h1 => ?_)
  · refine ac_else' (b := !(ivBoth a b)) (by rw [h1]; rfl) rfl ?_
    refine ac_skip ?_
    refine ac_seq ?_
    refine ac_region_lit ?_
    refine ao 10 rfl rfl (st_fa (g := g0) (off := 0) rfl fa26_0 rfl ?_)
    refine ao 11 rfl rfl (st_ldc (g := g0) (off := 0) (v := .int .i64 a.lo) cell3 2 rfl rfl rfl rfl rfl ?_)
    refine ao 12 rfl rfl (st_fa (g := g1) (off := 0) rfl fa26_0 rfl ?_)
    refine ao 13 rfl rfl (st_ldc (g := g1) (off := 0) (v := .int .i64 b.lo) cell3 1 rfl rfl rfl rfl rfl ?_)
    refine ao 14 rfl rfl (st_bi (u := .int .i64 a.lo) (v := .int .i64 b.lo) (r := .int .i64 (w64 (a.lo + b.lo))) rfl rfl rfl (bi_add rfl) ?_)
    refine ao 15 rfl rfl (st_fa (g := g0) (off := 0) rfl fa26_1 rfl ?_)
    refine ao 16 rfl rfl (st_ldc (g := g0) (off := 1) (v := .int .i64 a.hi) cell3 2 rfl rfl rfl rfl rfl ?_)
    refine ao 17 rfl rfl (st_fa (g := g1) (off := 0) rfl fa26_1 rfl ?_)
    refine ao 18 rfl rfl (st_ldc (g := g1) (off := 1) (v := .int .i64 b.hi) cell3 1 rfl rfl rfl rfl rfl ?_)
    refine ao 19 rfl rfl (st_bi (u := .int .i64 a.hi) (v := .int .i64 b.hi) (r := .int .i64 (w64 (a.hi + b.hi))) rfl rfl rfl (bi_add rfl) ?_)
    refine ao 20 rfl rfl (st_cf (vs := [.int .i64 (w64 (a.lo + b.lo)), .int .i64 (w64 (a.hi + b.hi))]) (r := .agg #[.int .i64 ((ivOf (w64 (a.lo + b.lo)) (w64 (a.hi + b.hi))).lo), .int .i64 ((ivOf (w64 (a.lo + b.lo)) (w64 (a.hi + b.hi))).hi), .bool ((ivOf (w64 (a.lo + b.lo)) (w64 (a.hi + b.hi))).no)]) (c_ivOf (w64 (a.lo + b.lo)) (w64 (a.hi + b.hi))) Try.func70 rfl (by decide) rfl rfl rfl ?_)
    refine ar_op (d := none) rfl rfl (st_sta (g := g2) (off := 0) (us := [.int .i64 ((ivOf (w64 (a.lo + b.lo)) (w64 (a.hi + b.hi))).lo), .int .i64 ((ivOf (w64 (a.lo + b.lo)) (w64 (a.hi + b.hi))).hi), .bool ((ivOf (w64 (a.lo + b.lo)) (w64 (a.hi + b.hi))).no)]) (cs := [.int .i64 ((ivOf (w64 (a.lo + b.lo)) (w64 (a.hi + b.hi))).lo), .int .i64 ((ivOf (w64 (a.lo + b.lo)) (w64 (a.hi + b.hi))).hi), .bool ((ivOf (w64 (a.lo + b.lo)) (w64 (a.hi + b.hi))).no)]) agg26 0 rfl rfl rfl rfl rfl rfl rfl rfl rfl ?_)
    refine ar_nil ?_
    refine ac_ret ?_
    exact fin_eq (v := .agg #[.int .i64 ((ivOf (w64 (a.lo + b.lo)) (w64 (a.hi + b.hi))).lo), .int .i64 ((ivOf (w64 (a.lo + b.lo)) (w64 (a.hi + b.hi))).hi), .bool ((ivOf (w64 (a.lo + b.lo)) (w64 (a.hi + b.hi))).no)]) (by show _ = Iv.v (ivAdd a b); rw [ivAdd, h1] <;> rfl) (fin_ret (res_c (vs := [.int .i64 ((ivOf (w64 (a.lo + b.lo)) (w64 (a.hi + b.hi))).lo), .int .i64 ((ivOf (w64 (a.lo + b.lo)) (w64 (a.hi + b.hi))).hi), .bool ((ivOf (w64 (a.lo + b.lo)) (w64 (a.hi + b.hi))).no)]) agg26 0 rfl rfl rfl rfl rfl rfl))
  · refine ac_then' (b := !(ivBoth a b)) (by rw [h1]; rfl) rfl ?_
    refine ac_seq ?_
    refine ac_region_lit ?_
    refine ao 9 rfl rfl (st_cf (vs := []) (r := .agg #[.int .i64 ivNone.lo, .int .i64 ivNone.hi, .bool ivNone.no]) c_ivNone Try.func28 rfl (by decide) rfl rfl rfl ?_)
    refine ar_op (d := none) rfl rfl (st_sta (g := g2) (off := 0) (us := [.int .i64 ivNone.lo, .int .i64 ivNone.hi, .bool ivNone.no]) (cs := [.int .i64 ivNone.lo, .int .i64 ivNone.hi, .bool ivNone.no]) agg26 0 rfl rfl rfl rfl rfl rfl rfl rfl rfl ?_)
    refine ar_nil ?_
    refine ac_ret ?_
    exact fin_eq (v := .agg #[.int .i64 ivNone.lo, .int .i64 ivNone.hi, .bool ivNone.no]) (by show _ = Iv.v (ivAdd a b); rw [ivAdd, h1] <;> rfl) (fin_ret (res_c (vs := [.int .i64 ivNone.lo, .int .i64 ivNone.hi, .bool ivNone.no]) agg26 0 rfl rfl rfl rfl rfl rfl))
def ivNeg (a : Iv) : Iv := (bif ivRight a then (ivOf (w64 (0 - a.hi)) (w64 (0 - a.lo))) else ivNone)
set_option maxRecDepth 100000 in
theorem c_ivNeg (a : Iv) : Gets Try.prog 39 #[.agg #[.int .i64 a.lo, .int .i64 a.hi, .bool a.no]] (Iv.v (ivNeg a)) := by
  refine gets_fin Try.func39 rfl rfl rfl ?_
  refine ac_seq ?_
  refine ac_region_lit ?_
  refine ao 1 rfl rfl (st_box (v := .agg #[.int .i64 a.lo, .int .i64 a.hi, .bool a.no]) (cs := [.int .i64 a.lo, .int .i64 a.hi, .bool a.no]) rfl rfl rfl fun g0 => ?_)
  refine ao 2 rfl rfl (st_new zero26 rfl fun g1 => ?_)
  refine ar_nil ?_
  refine ac_seq ?_
  refine ac_seq ?_
  refine ac_region_lit ?_
  refine ao 3 rfl rfl (st_lda (g := g0) (off := 0) (vs := [.int .i64 a.lo, .int .i64 a.hi, .bool a.no]) agg26 1 rfl rfl rfl rfl rfl rfl ?_)
  refine ao 4 rfl rfl (st_cf (vs := [.agg #[.int .i64 a.lo, .int .i64 a.hi, .bool a.no]]) (r := .bool (ivRight a)) (c_ivRight a) Try.func25 rfl (by decide) rfl rfl rfl ?_)
  refine ao 5 rfl rfl (st_un (u := .bool (ivRight a)) (v := .bool (!(ivRight a))) rfl rfl (un_not rfl) ?_)
  refine ar_nil ?_
  refine bool_split (ivRight a) (fun h1 => ?_) (fun h1 => ?_)
  · refine ac_else' (b := !(ivRight a)) (by rw [h1]; rfl) rfl ?_
    refine ac_skip ?_
    refine ac_seq ?_
    refine ac_region_lit ?_
    refine ao 7 rfl rfl (st_fa (g := g0) (off := 0) rfl fa26_1 rfl ?_)
    refine ao 8 rfl rfl (st_ldc (g := g0) (off := 1) (v := .int .i64 a.hi) cell3 1 rfl rfl rfl rfl rfl ?_)
    refine ao 9 rfl rfl (st_un (u := .int .i64 a.hi) (v := .int .i64 (w64 (0 - a.hi))) rfl rfl (un_neg rfl) ?_)
    refine ao 10 rfl rfl (st_fa (g := g0) (off := 0) rfl fa26_0 rfl ?_)
    refine ao 11 rfl rfl (st_ldc (g := g0) (off := 0) (v := .int .i64 a.lo) cell3 1 rfl rfl rfl rfl rfl ?_)
    refine ao 12 rfl rfl (st_un (u := .int .i64 a.lo) (v := .int .i64 (w64 (0 - a.lo))) rfl rfl (un_neg rfl) ?_)
    refine ao 13 rfl rfl (st_cf (vs := [.int .i64 (w64 (0 - a.hi)), .int .i64 (w64 (0 - a.lo))]) (r := .agg #[.int .i64 ((ivOf (w64 (0 - a.hi)) (w64 (0 - a.lo))).lo), .int .i64 ((ivOf (w64 (0 - a.hi)) (w64 (0 - a.lo))).hi), .bool ((ivOf (w64 (0 - a.hi)) (w64 (0 - a.lo))).no)]) (c_ivOf (w64 (0 - a.hi)) (w64 (0 - a.lo))) Try.func70 rfl (by decide) rfl rfl rfl ?_)
    refine ar_op (d := none) rfl rfl (st_sta (g := g1) (off := 0) (us := [.int .i64 ((ivOf (w64 (0 - a.hi)) (w64 (0 - a.lo))).lo), .int .i64 ((ivOf (w64 (0 - a.hi)) (w64 (0 - a.lo))).hi), .bool ((ivOf (w64 (0 - a.hi)) (w64 (0 - a.lo))).no)]) (cs := [.int .i64 ((ivOf (w64 (0 - a.hi)) (w64 (0 - a.lo))).lo), .int .i64 ((ivOf (w64 (0 - a.hi)) (w64 (0 - a.lo))).hi), .bool ((ivOf (w64 (0 - a.hi)) (w64 (0 - a.lo))).no)]) agg26 0 rfl rfl rfl rfl rfl rfl rfl rfl rfl ?_)
    refine ar_nil ?_
    refine ac_ret ?_
    exact fin_eq (v := .agg #[.int .i64 ((ivOf (w64 (0 - a.hi)) (w64 (0 - a.lo))).lo), .int .i64 ((ivOf (w64 (0 - a.hi)) (w64 (0 - a.lo))).hi), .bool ((ivOf (w64 (0 - a.hi)) (w64 (0 - a.lo))).no)]) (by show _ = Iv.v (ivNeg a); rw [ivNeg, h1] <;> rfl) (fin_ret (res_c (vs := [.int .i64 ((ivOf (w64 (0 - a.hi)) (w64 (0 - a.lo))).lo), .int .i64 ((ivOf (w64 (0 - a.hi)) (w64 (0 - a.lo))).hi), .bool ((ivOf (w64 (0 - a.hi)) (w64 (0 - a.lo))).no)]) agg26 0 rfl rfl rfl rfl rfl rfl))
  · refine ac_then' (b := !(ivRight a)) (by rw [h1]; rfl) rfl ?_
    refine ac_seq ?_
    refine ac_region_lit ?_
    refine ao 6 rfl rfl (st_cf (vs := []) (r := .agg #[.int .i64 ivNone.lo, .int .i64 ivNone.hi, .bool ivNone.no]) c_ivNone Try.func28 rfl (by decide) rfl rfl rfl ?_)
    refine ar_op (d := none) rfl rfl (st_sta (g := g1) (off := 0) (us := [.int .i64 ivNone.lo, .int .i64 ivNone.hi, .bool ivNone.no]) (cs := [.int .i64 ivNone.lo, .int .i64 ivNone.hi, .bool ivNone.no]) agg26 0 rfl rfl rfl rfl rfl rfl rfl rfl rfl ?_)
    refine ar_nil ?_
    refine ac_ret ?_
    exact fin_eq (v := .agg #[.int .i64 ivNone.lo, .int .i64 ivNone.hi, .bool ivNone.no]) (by show _ = Iv.v (ivNeg a); rw [ivNeg, h1] <;> rfl) (fin_ret (res_c (vs := [.int .i64 ivNone.lo, .int .i64 ivNone.hi, .bool ivNone.no]) agg26 0 rfl rfl rfl rfl rfl rfl))
def ivSub (a : Iv) (b : Iv) : Iv := (ivAdd a (ivNeg b))
set_option maxRecDepth 100000 in
theorem c_ivSub (a : Iv) (b : Iv) : Gets Try.prog 30 #[.agg #[.int .i64 a.lo, .int .i64 a.hi, .bool a.no], .agg #[.int .i64 b.lo, .int .i64 b.hi, .bool b.no]] (Iv.v (ivSub a b)) := by
  refine gets_fin Try.func30 rfl rfl rfl ?_
  refine ac_seq ?_
  refine ac_region_lit ?_
  refine ao 2 rfl rfl (st_box (v := .agg #[.int .i64 a.lo, .int .i64 a.hi, .bool a.no]) (cs := [.int .i64 a.lo, .int .i64 a.hi, .bool a.no]) rfl rfl rfl fun g0 => ?_)
  refine ao 3 rfl rfl (st_box (v := .agg #[.int .i64 b.lo, .int .i64 b.hi, .bool b.no]) (cs := [.int .i64 b.lo, .int .i64 b.hi, .bool b.no]) rfl rfl rfl fun g1 => ?_)
  refine ao 4 rfl rfl (st_new zero26 rfl fun g2 => ?_)
  refine ar_nil ?_
  refine ac_seq ?_
  refine ac_draw0 (id := 1) [0, 1, 2, 3] [4] _ (by kernel_rfl) follows rfl  ?_
  refine dw_op (d := (some 5)) (.agg #[.int .i64 a.lo, .int .i64 a.hi, .bool a.no]) rfl rfl rfl (st_lda (g := g0) (off := 0) (vs := [.int .i64 a.lo, .int .i64 a.hi, .bool a.no]) agg26 2 rfl rfl rfl rfl rfl rfl ⟨rfl, rfl⟩) ?_
  refine dw_op (d := (some 6)) (.agg #[.int .i64 b.lo, .int .i64 b.hi, .bool b.no]) rfl rfl rfl (st_lda (g := g1) (off := 0) (vs := [.int .i64 b.lo, .int .i64 b.hi, .bool b.no]) agg26 1 rfl rfl rfl rfl rfl rfl ⟨rfl, rfl⟩) ?_
  refine dw_op (d := (some 7)) (.agg #[.int .i64 ((ivNeg b).lo), .int .i64 ((ivNeg b).hi), .bool ((ivNeg b).no)]) rfl rfl rfl (st_cf (vs := [.agg #[.int .i64 b.lo, .int .i64 b.hi, .bool b.no]]) (r := .agg #[.int .i64 ((ivNeg b).lo), .int .i64 ((ivNeg b).hi), .bool ((ivNeg b).no)]) (c_ivNeg b) Try.func39 rfl (by decide) rfl rfl rfl ⟨rfl, rfl⟩) ?_
  refine dw_op (d := (some 8)) (.agg #[.int .i64 ((ivAdd a (ivNeg b)).lo), .int .i64 ((ivAdd a (ivNeg b)).hi), .bool ((ivAdd a (ivNeg b)).no)]) rfl rfl rfl (st_cf (vs := [.agg #[.int .i64 a.lo, .int .i64 a.hi, .bool a.no], .agg #[.int .i64 ((ivNeg b).lo), .int .i64 ((ivNeg b).hi), .bool ((ivNeg b).no)]]) (r := .agg #[.int .i64 ((ivAdd a (ivNeg b)).lo), .int .i64 ((ivAdd a (ivNeg b)).hi), .bool ((ivAdd a (ivNeg b)).no)]) (c_ivAdd a (ivNeg b)) Try.func67 rfl (by decide) rfl rfl rfl ⟨rfl, rfl⟩) ?_
  refine dw_nil ?_
  refine ar_op (d := none) rfl rfl (st_sta (g := g2) (off := 0) (us := [.int .i64 ((ivAdd a (ivNeg b)).lo), .int .i64 ((ivAdd a (ivNeg b)).hi), .bool ((ivAdd a (ivNeg b)).no)]) (cs := [.int .i64 ((ivAdd a (ivNeg b)).lo), .int .i64 ((ivAdd a (ivNeg b)).hi), .bool ((ivAdd a (ivNeg b)).no)]) agg26 0 rfl rfl rfl rfl rfl rfl rfl rfl rfl ?_)
  refine ar_nil ?_
  refine ac_ret ?_
  exact fin_eq (v := .agg #[.int .i64 ((ivAdd a (ivNeg b)).lo), .int .i64 ((ivAdd a (ivNeg b)).hi), .bool ((ivAdd a (ivNeg b)).no)]) rfl (fin_ret (res_c (vs := [.int .i64 ((ivAdd a (ivNeg b)).lo), .int .i64 ((ivAdd a (ivNeg b)).hi), .bool ((ivAdd a (ivNeg b)).no)]) agg26 0 rfl rfl rfl rfl rfl rfl))
def ivTimes_e0 (a : Iv) (k : Int) : Iv := (ivOf (min (w64 (k * a.lo)) (w64 (k * a.hi))) (max (w64 (k * a.lo)) (w64 (k * a.hi))))
def ivTimes (a : Iv) (k : Int) : Iv := (bif ivRight a then (bif numIn k then (ivTimes_e0 a k) else ivNone) else ivNone)
set_option maxRecDepth 100000 in
theorem c_ivTimes (a : Iv) (k : Int) : Gets Try.prog 31 #[.agg #[.int .i64 a.lo, .int .i64 a.hi, .bool a.no], .int .i64 k] (Iv.v (ivTimes a k)) := by
  refine gets_fin Try.func31 rfl rfl rfl ?_
  refine ac_seq ?_
  refine ac_region_lit ?_
  refine ao 2 rfl rfl (st_box (v := .agg #[.int .i64 a.lo, .int .i64 a.hi, .bool a.no]) (cs := [.int .i64 a.lo, .int .i64 a.hi, .bool a.no]) rfl rfl rfl fun g0 => ?_)
  refine ao 4 rfl rfl (st_new zero26 rfl fun g1 => ?_)
  refine ar_nil ?_
  refine ac_seq ?_
  refine ac_seq ?_
  refine ac_region_lit ?_
  refine ao 5 rfl rfl (st_lda (g := g0) (off := 0) (vs := [.int .i64 a.lo, .int .i64 a.hi, .bool a.no]) agg26 1 rfl rfl rfl rfl rfl rfl ?_)
  refine ao 6 rfl rfl (st_cf (vs := [.agg #[.int .i64 a.lo, .int .i64 a.hi, .bool a.no]]) (r := .bool (ivRight a)) (c_ivRight a) Try.func25 rfl (by decide) rfl rfl rfl ?_)
  refine ao 7 rfl rfl (st_un (u := .bool (ivRight a)) (v := .bool (!(ivRight a))) rfl rfl (un_not rfl) ?_)
  refine ao 8 rfl rfl (st_move (v := .bool (!(ivRight a))) rfl rfl ?_)
  refine bool_split (ivRight a) (fun h1 => ?_) (fun h1 => ?_)
  · refine ar_gd (d := (some 9)) (by show ((!(ivRight a)) == false) = true; rw [h1]; rfl) rfl (st_move (v := .int .i64 k) rfl rfl ?_)
    refine ar_gd (d := (some 10)) (by show ((!(ivRight a)) == false) = true; rw [h1]; rfl) rfl (st_cf (vs := [.int .i64 k]) (r := .bool (numIn k)) (c_numIn k) Try.func65 rfl (by decide) rfl rfl rfl ?_)
    refine ar_gd (d := (some 11)) (by show ((!(ivRight a)) == false) = true; rw [h1]; rfl) rfl (st_un (u := .bool (numIn k)) (v := .bool (!(numIn k))) rfl rfl (un_not rfl) ?_)
    refine ao 12 rfl rfl (st_pkf' (b := !(ivRight a)) (v := .bool (!(numIn k))) (by rw [h1]; rfl) rfl rfl rfl ?_)
    refine ar_nil ?_
    refine bool_split (numIn k) (fun h2 => ?_) (fun h2 => ?_)
    · refine ac_else' (b := !(numIn k)) (by rw [h2]; rfl) rfl ?_
      refine ac_skip ?_
      refine ac_seq ?_
      refine ac_region_lit ?_
      refine ao 14 rfl rfl (st_move (v := .int .i64 k) rfl rfl ?_)
      refine ao 15 rfl rfl (st_fa (g := g0) (off := 0) rfl fa26_0 rfl ?_)
      refine ao 16 rfl rfl (st_ldc (g := g0) (off := 0) (v := .int .i64 a.lo) cell3 1 rfl rfl rfl rfl rfl ?_)
      refine ao 17 rfl rfl (st_bi (u := .int .i64 k) (v := .int .i64 a.lo) (r := .int .i64 (w64 (k * a.lo))) rfl rfl rfl (bi_mul rfl) ?_)
      refine ao 18 rfl rfl (st_move (v := .int .i64 k) rfl rfl ?_)
      refine ao 19 rfl rfl (st_fa (g := g0) (off := 0) rfl fa26_1 rfl ?_)
      refine ao 20 rfl rfl (st_ldc (g := g0) (off := 1) (v := .int .i64 a.hi) cell3 1 rfl rfl rfl rfl rfl ?_)
      refine ao 21 rfl rfl (st_bi (u := .int .i64 k) (v := .int .i64 a.hi) (r := .int .i64 (w64 (k * a.hi))) rfl rfl rfl (bi_mul rfl) ?_)
      refine ao 22 rfl rfl (st_mn (x := (w64 (k * a.lo))) (y := (w64 (k * a.hi))) (c := (min (w64 (k * a.lo)) (w64 (k * a.hi)))) rfl rfl rfl ?_)
      refine ao 23 rfl rfl (st_move (v := .int .i64 k) rfl rfl ?_)
      refine ao 24 rfl rfl (st_fa (g := g0) (off := 0) rfl fa26_0 rfl ?_)
      refine ao 25 rfl rfl (st_ldc (g := g0) (off := 0) (v := .int .i64 a.lo) cell3 1 rfl rfl rfl rfl rfl ?_)
      refine ao 26 rfl rfl (st_bi (u := .int .i64 k) (v := .int .i64 a.lo) (r := .int .i64 (w64 (k * a.lo))) rfl rfl rfl (bi_mul rfl) ?_)
      refine ao 27 rfl rfl (st_move (v := .int .i64 k) rfl rfl ?_)
      refine ao 28 rfl rfl (st_fa (g := g0) (off := 0) rfl fa26_1 rfl ?_)
      refine ao 29 rfl rfl (st_ldc (g := g0) (off := 1) (v := .int .i64 a.hi) cell3 1 rfl rfl rfl rfl rfl ?_)
      refine ao 30 rfl rfl (st_bi (u := .int .i64 k) (v := .int .i64 a.hi) (r := .int .i64 (w64 (k * a.hi))) rfl rfl rfl (bi_mul rfl) ?_)
      refine ao 31 rfl rfl (st_mx (x := (w64 (k * a.lo))) (y := (w64 (k * a.hi))) (c := (max (w64 (k * a.lo)) (w64 (k * a.hi)))) rfl rfl rfl ?_)
      refine ao 32 rfl rfl (st_cf (vs := [.int .i64 (min (w64 (k * a.lo)) (w64 (k * a.hi))), .int .i64 (max (w64 (k * a.lo)) (w64 (k * a.hi)))]) (r := .agg #[.int .i64 ((ivTimes_e0 a k).lo), .int .i64 ((ivTimes_e0 a k).hi), .bool ((ivTimes_e0 a k).no)]) (c_ivOf (min (w64 (k * a.lo)) (w64 (k * a.hi))) (max (w64 (k * a.lo)) (w64 (k * a.hi)))) Try.func70 rfl (by decide) rfl rfl rfl ?_)
      refine ar_op (d := none) rfl rfl (st_sta (g := g1) (off := 0) (us := [.int .i64 ((ivTimes_e0 a k).lo), .int .i64 ((ivTimes_e0 a k).hi), .bool ((ivTimes_e0 a k).no)]) (cs := [.int .i64 ((ivTimes_e0 a k).lo), .int .i64 ((ivTimes_e0 a k).hi), .bool ((ivTimes_e0 a k).no)]) agg26 0 rfl rfl rfl rfl rfl rfl rfl rfl rfl ?_)
      refine ar_nil ?_
      refine ac_ret ?_
      exact fin_eq (v := .agg #[.int .i64 ((ivTimes_e0 a k).lo), .int .i64 ((ivTimes_e0 a k).hi), .bool ((ivTimes_e0 a k).no)]) (by show _ = Iv.v (ivTimes a k); rw [ivTimes, h2, h1] <;> rfl) (fin_ret (res_c (vs := [.int .i64 ((ivTimes_e0 a k).lo), .int .i64 ((ivTimes_e0 a k).hi), .bool ((ivTimes_e0 a k).no)]) agg26 0 rfl rfl rfl rfl rfl rfl))
    · refine ac_then' (b := !(numIn k)) (by rw [h2]; rfl) rfl ?_
      refine ac_seq ?_
      refine ac_region_lit ?_
      refine ao 13 rfl rfl (st_cf (vs := []) (r := .agg #[.int .i64 ivNone.lo, .int .i64 ivNone.hi, .bool ivNone.no]) c_ivNone Try.func28 rfl (by decide) rfl rfl rfl ?_)
      refine ar_op (d := none) rfl rfl (st_sta (g := g1) (off := 0) (us := [.int .i64 ivNone.lo, .int .i64 ivNone.hi, .bool ivNone.no]) (cs := [.int .i64 ivNone.lo, .int .i64 ivNone.hi, .bool ivNone.no]) agg26 0 rfl rfl rfl rfl rfl rfl rfl rfl rfl ?_)
      refine ar_nil ?_
      refine ac_ret ?_
      exact fin_eq (v := .agg #[.int .i64 ivNone.lo, .int .i64 ivNone.hi, .bool ivNone.no]) (by show _ = Iv.v (ivTimes a k); rw [ivTimes, h2, h1] <;> rfl) (fin_ret (res_c (vs := [.int .i64 ivNone.lo, .int .i64 ivNone.hi, .bool ivNone.no]) agg26 0 rfl rfl rfl rfl rfl rfl))
  · refine ar_sk (d := (some 9)) (by show ((!(ivRight a)) == false) = false; rw [h1]; rfl) rfl ?_
    refine ar_sk (d := (some 10)) (by show ((!(ivRight a)) == false) = false; rw [h1]; rfl) rfl ?_
    refine ar_sk (d := (some 11)) (by show ((!(ivRight a)) == false) = false; rw [h1]; rfl) rfl ?_
    refine ao 12 rfl rfl (st_pkt' (b := !(ivRight a)) (v := .bool true) (by rw [h1]; rfl) rfl rfl rfl ?_)
    refine ar_nil ?_
    refine ac_then rfl ?_
    refine ac_seq ?_
    refine ac_region_lit ?_
    refine ao 13 rfl rfl (st_cf (vs := []) (r := .agg #[.int .i64 ivNone.lo, .int .i64 ivNone.hi, .bool ivNone.no]) c_ivNone Try.func28 rfl (by decide) rfl rfl rfl ?_)
    refine ar_op (d := none) rfl rfl (st_sta (g := g1) (off := 0) (us := [.int .i64 ivNone.lo, .int .i64 ivNone.hi, .bool ivNone.no]) (cs := [.int .i64 ivNone.lo, .int .i64 ivNone.hi, .bool ivNone.no]) agg26 0 rfl rfl rfl rfl rfl rfl rfl rfl rfl ?_)
    refine ar_nil ?_
    refine ac_ret ?_
    exact fin_eq (v := .agg #[.int .i64 ivNone.lo, .int .i64 ivNone.hi, .bool ivNone.no]) (by show _ = Iv.v (ivTimes a k); rw [ivTimes, h1] <;> rfl) (fin_ret (res_c (vs := [.int .i64 ivNone.lo, .int .i64 ivNone.hi, .bool ivNone.no]) agg26 0 rfl rfl rfl rfl rfl rfl))
def ivSqr_e0 (a : Iv) : Int × Bool := (numMul (max (w64 (0 - a.lo)) a.hi) (max (w64 (0 - a.lo)) a.hi) true)
def ivSqr_e1 (a : Iv) : Int × Bool := (numMul (max (max a.lo (w64 (0 - a.hi))) 0) (max (max a.lo (w64 (0 - a.hi))) 0) false)
def ivSqr (a : Iv) : Iv := (bif ivRight a then (bif (ivSqr_e0 a).2 then (ivOf ((ivSqr_e1 a).1) ((ivSqr_e0 a).1)) else ivNone) else ivNone)
set_option maxRecDepth 100000 in
theorem c_ivSqr (a : Iv) : Gets Try.prog 94 #[.agg #[.int .i64 a.lo, .int .i64 a.hi, .bool a.no]] (Iv.v (ivSqr a)) := by
  refine gets_fin Try.func94 rfl rfl rfl ?_
  refine ac_seq ?_
  refine ac_region_lit ?_
  refine ao 1 rfl rfl (st_box (v := .agg #[.int .i64 a.lo, .int .i64 a.hi, .bool a.no]) (cs := [.int .i64 a.lo, .int .i64 a.hi, .bool a.no]) rfl rfl rfl fun g0 => ?_)
  refine ao 2 rfl rfl (st_new zero26 rfl fun g1 => ?_)
  refine ar_nil ?_
  refine ac_seq ?_
  refine ac_seq ?_
  refine ac_region_lit ?_
  refine ao 9 rfl rfl (st_lda (g := g0) (off := 0) (vs := [.int .i64 a.lo, .int .i64 a.hi, .bool a.no]) agg26 1 rfl rfl rfl rfl rfl rfl ?_)
  refine ao 10 rfl rfl (st_cf (vs := [.agg #[.int .i64 a.lo, .int .i64 a.hi, .bool a.no]]) (r := .bool (ivRight a)) (c_ivRight a) Try.func25 rfl (by decide) rfl rfl rfl ?_)
  refine ao 11 rfl rfl (st_un (u := .bool (ivRight a)) (v := .bool (!(ivRight a))) rfl rfl (un_not rfl) ?_)
  refine ar_nil ?_
  refine bool_split (ivRight a) (fun h1 => ?_) (fun h1 => ?_)
  · refine ac_else' (b := !(ivRight a)) (by rw [h1]; rfl) rfl ?_
    refine ac_skip ?_
    refine ac_seq ?_
    refine ac_draw0 (id := 3) [0, 1, 2, 3, 4, 5, 6, 7, 8, 9, 10, 11, 12, 13] [] _ (by kernel_rfl) follows rfl  ?_
    refine dw_op (d := (some 13)) (.pointer (some ⟨g0, 0, none⟩)) rfl rfl rfl (st_fa (g := g0) (off := 0) rfl fa26_0 rfl ⟨rfl, rfl⟩) ?_
    refine dw_op (d := (some 14)) (.int .i64 a.lo) rfl rfl rfl (st_ldc (g := g0) (off := 0) (v := .int .i64 a.lo) cell3 1 rfl rfl rfl rfl rfl ⟨rfl, rfl⟩) ?_
    refine dw_op (d := (some 15)) (.int .i64 (w64 (0 - a.lo))) rfl rfl rfl (st_un (u := .int .i64 a.lo) (v := .int .i64 (w64 (0 - a.lo))) rfl rfl (un_neg rfl) ⟨rfl, rfl⟩) ?_
    refine dw_op (d := (some 16)) (.pointer (some ⟨g0, 1, none⟩)) rfl rfl rfl (st_fa (g := g0) (off := 0) rfl fa26_1 rfl ⟨rfl, rfl⟩) ?_
    refine dw_op (d := (some 17)) (.int .i64 a.hi) rfl rfl rfl (st_ldc (g := g0) (off := 1) (v := .int .i64 a.hi) cell3 1 rfl rfl rfl rfl rfl ⟨rfl, rfl⟩) ?_
    refine dw_op (d := (some 18)) (.int .i64 (max (w64 (0 - a.lo)) a.hi)) rfl rfl rfl (st_mx (x := (w64 (0 - a.lo))) (y := a.hi) (c := (max (w64 (0 - a.lo)) a.hi)) rfl rfl rfl ⟨rfl, rfl⟩) ?_
    refine dw_op (d := (some 19)) (.pointer (some ⟨g0, 0, none⟩)) rfl rfl rfl (st_fa (g := g0) (off := 0) rfl fa26_0 rfl ⟨rfl, rfl⟩) ?_
    refine dw_op (d := (some 20)) (.int .i64 a.lo) rfl rfl rfl (st_ldc (g := g0) (off := 0) (v := .int .i64 a.lo) cell3 1 rfl rfl rfl rfl rfl ⟨rfl, rfl⟩) ?_
    refine dw_op (d := (some 21)) (.pointer (some ⟨g0, 1, none⟩)) rfl rfl rfl (st_fa (g := g0) (off := 0) rfl fa26_1 rfl ⟨rfl, rfl⟩) ?_
    refine dw_op (d := (some 22)) (.int .i64 a.hi) rfl rfl rfl (st_ldc (g := g0) (off := 1) (v := .int .i64 a.hi) cell3 1 rfl rfl rfl rfl rfl ⟨rfl, rfl⟩) ?_
    refine dw_op (d := (some 23)) (.int .i64 (w64 (0 - a.hi))) rfl rfl rfl (st_un (u := .int .i64 a.hi) (v := .int .i64 (w64 (0 - a.hi))) rfl rfl (un_neg rfl) ⟨rfl, rfl⟩) ?_
    refine dw_op (d := (some 24)) (.int .i64 (max (max a.lo (w64 (0 - a.hi))) 0)) rfl rfl rfl (st_mx3 (x := a.lo) (y := (w64 (0 - a.hi))) (z := 0) (c := (max (max a.lo (w64 (0 - a.hi))) 0)) rfl rfl rfl ⟨rfl, rfl⟩) ?_
    refine dw_op (d := (some 3)) (.int .i64 (max (w64 (0 - a.lo)) a.hi)) rfl rfl rfl (st_assign (v := .int .i64 (max (w64 (0 - a.lo)) a.hi)) rfl rfl ⟨rfl, rfl⟩) ?_
    refine dw_op (d := (some 4)) (.int .i64 (max (max a.lo (w64 (0 - a.hi))) 0)) rfl rfl rfl (st_assign (v := .int .i64 (max (max a.lo (w64 (0 - a.hi))) 0)) rfl rfl ⟨rfl, rfl⟩) ?_
    refine dw_nil ?_
    refine ar_nil ?_
    refine ac_seq ?_
    refine ac_region_lit ?_
    refine ao 26 rfl rfl (st_move (v := .int .i64 (max (w64 (0 - a.lo)) a.hi)) rfl rfl ?_)
    refine ao 27 rfl rfl (st_move (v := .int .i64 (max (w64 (0 - a.lo)) a.hi)) rfl rfl ?_)
    refine ao 28 rfl rfl (st_cf (vs := [.int .i64 (max (w64 (0 - a.lo)) a.hi), .int .i64 (max (w64 (0 - a.lo)) a.hi), .bool true]) (r := .tuple #[.int .i64 ((ivSqr_e0 a).1), .bool ((ivSqr_e0 a).2)]) (c_numMul (max (w64 (0 - a.lo)) a.hi) (max (w64 (0 - a.lo)) a.hi) true) Try.func100 rfl (by decide) rfl rfl rfl ?_)
    refine ao 25 rfl rfl (st_move (v := .tuple #[.int .i64 ((ivSqr_e0 a).1), .bool ((ivSqr_e0 a).2)]) rfl rfl ?_)
    refine ao 29 rfl rfl (st_ex (vs := [.int .i64 ((ivSqr_e0 a).1), .bool ((ivSqr_e0 a).2)]) (v := .int .i64 ((ivSqr_e0 a).1)) rfl rfl rfl ?_)
    refine ao 30 rfl rfl (st_ex (vs := [.int .i64 ((ivSqr_e0 a).1), .bool ((ivSqr_e0 a).2)]) (v := .bool ((ivSqr_e0 a).2)) rfl rfl rfl ?_)
    refine ao 5 rfl rfl (st_assign (v := .int .i64 ((ivSqr_e0 a).1)) rfl rfl ?_)
    refine ao 6 rfl rfl (st_assign (v := .bool ((ivSqr_e0 a).2)) rfl rfl ?_)
    refine ar_nil ?_
    refine ac_seq ?_
    refine ac_region_lit ?_
    refine ao 32 rfl rfl (st_move (v := .int .i64 (max (max a.lo (w64 (0 - a.hi))) 0)) rfl rfl ?_)
    refine ao 33 rfl rfl (st_move (v := .int .i64 (max (max a.lo (w64 (0 - a.hi))) 0)) rfl rfl ?_)
    refine ao 34 rfl rfl (st_cf (vs := [.int .i64 (max (max a.lo (w64 (0 - a.hi))) 0), .int .i64 (max (max a.lo (w64 (0 - a.hi))) 0), .bool false]) (r := .tuple #[.int .i64 ((ivSqr_e1 a).1), .bool ((ivSqr_e1 a).2)]) (c_numMul (max (max a.lo (w64 (0 - a.hi))) 0) (max (max a.lo (w64 (0 - a.hi))) 0) false) Try.func100 rfl (by decide) rfl rfl rfl ?_)
    refine ao 31 rfl rfl (st_move (v := .tuple #[.int .i64 ((ivSqr_e1 a).1), .bool ((ivSqr_e1 a).2)]) rfl rfl ?_)
    refine ao 35 rfl rfl (st_ex (vs := [.int .i64 ((ivSqr_e1 a).1), .bool ((ivSqr_e1 a).2)]) (v := .int .i64 ((ivSqr_e1 a).1)) rfl rfl rfl ?_)
    refine ao 36 rfl rfl (st_ex (vs := [.int .i64 ((ivSqr_e1 a).1), .bool ((ivSqr_e1 a).2)]) (v := .bool ((ivSqr_e1 a).2)) rfl rfl rfl ?_)
    refine ao 7 rfl rfl (st_assign (v := .int .i64 ((ivSqr_e1 a).1)) rfl rfl ?_)
    refine ao 8 rfl rfl (st_assign (v := .bool ((ivSqr_e1 a).2)) rfl rfl ?_)
    refine ar_nil ?_
    refine ac_seq ?_
    refine ac_seq ?_
    refine ac_region_lit ?_
    refine ao 37 rfl rfl (st_move (v := .bool ((ivSqr_e0 a).2)) rfl rfl ?_)
    refine ao 38 rfl rfl (st_un (u := .bool ((ivSqr_e0 a).2)) (v := .bool (!((ivSqr_e0 a).2))) rfl rfl (un_not rfl) ?_)
    refine ar_nil ?_
    refine bool_split ((ivSqr_e0 a).2) (fun h2 => ?_) (fun h2 => ?_)
    · refine ac_else' (b := !((ivSqr_e0 a).2)) (by rw [h2]; rfl) rfl ?_
      refine ac_skip ?_
      refine ac_seq ?_
      refine ac_region_lit ?_
      refine ao 40 rfl rfl (st_move (v := .int .i64 ((ivSqr_e1 a).1)) rfl rfl ?_)
      refine ao 41 rfl rfl (st_move (v := .int .i64 ((ivSqr_e0 a).1)) rfl rfl ?_)
      refine ao 42 rfl rfl (st_cf (vs := [.int .i64 ((ivSqr_e1 a).1), .int .i64 ((ivSqr_e0 a).1)]) (r := .agg #[.int .i64 ((ivOf ((ivSqr_e1 a).1) ((ivSqr_e0 a).1)).lo), .int .i64 ((ivOf ((ivSqr_e1 a).1) ((ivSqr_e0 a).1)).hi), .bool ((ivOf ((ivSqr_e1 a).1) ((ivSqr_e0 a).1)).no)]) (c_ivOf ((ivSqr_e1 a).1) ((ivSqr_e0 a).1)) Try.func70 rfl (by decide) rfl rfl rfl ?_)
      refine ar_op (d := none) rfl rfl (st_sta (g := g1) (off := 0) (us := [.int .i64 ((ivOf ((ivSqr_e1 a).1) ((ivSqr_e0 a).1)).lo), .int .i64 ((ivOf ((ivSqr_e1 a).1) ((ivSqr_e0 a).1)).hi), .bool ((ivOf ((ivSqr_e1 a).1) ((ivSqr_e0 a).1)).no)]) (cs := [.int .i64 ((ivOf ((ivSqr_e1 a).1) ((ivSqr_e0 a).1)).lo), .int .i64 ((ivOf ((ivSqr_e1 a).1) ((ivSqr_e0 a).1)).hi), .bool ((ivOf ((ivSqr_e1 a).1) ((ivSqr_e0 a).1)).no)]) agg26 0 rfl rfl rfl rfl rfl rfl rfl rfl rfl ?_)
      refine ar_nil ?_
      refine ac_ret ?_
      exact fin_eq (v := .agg #[.int .i64 ((ivOf ((ivSqr_e1 a).1) ((ivSqr_e0 a).1)).lo), .int .i64 ((ivOf ((ivSqr_e1 a).1) ((ivSqr_e0 a).1)).hi), .bool ((ivOf ((ivSqr_e1 a).1) ((ivSqr_e0 a).1)).no)]) (by show _ = Iv.v (ivSqr a); rw [ivSqr, h2, h1] <;> rfl) (fin_ret (res_c (vs := [.int .i64 ((ivOf ((ivSqr_e1 a).1) ((ivSqr_e0 a).1)).lo), .int .i64 ((ivOf ((ivSqr_e1 a).1) ((ivSqr_e0 a).1)).hi), .bool ((ivOf ((ivSqr_e1 a).1) ((ivSqr_e0 a).1)).no)]) agg26 0 rfl rfl rfl rfl rfl rfl))
    · refine ac_then' (b := !((ivSqr_e0 a).2)) (by rw [h2]; rfl) rfl ?_
      refine ac_seq ?_
      refine ac_region_lit ?_
      refine ao 39 rfl rfl (st_cf (vs := []) (r := .agg #[.int .i64 ivNone.lo, .int .i64 ivNone.hi, .bool ivNone.no]) c_ivNone Try.func28 rfl (by decide) rfl rfl rfl ?_)
      refine ar_op (d := none) rfl rfl (st_sta (g := g1) (off := 0) (us := [.int .i64 ivNone.lo, .int .i64 ivNone.hi, .bool ivNone.no]) (cs := [.int .i64 ivNone.lo, .int .i64 ivNone.hi, .bool ivNone.no]) agg26 0 rfl rfl rfl rfl rfl rfl rfl rfl rfl ?_)
      refine ar_nil ?_
      refine ac_ret ?_
      exact fin_eq (v := .agg #[.int .i64 ivNone.lo, .int .i64 ivNone.hi, .bool ivNone.no]) (by show _ = Iv.v (ivSqr a); rw [ivSqr, h2, h1] <;> rfl) (fin_ret (res_c (vs := [.int .i64 ivNone.lo, .int .i64 ivNone.hi, .bool ivNone.no]) agg26 0 rfl rfl rfl rfl rfl rfl))
  · refine ac_then' (b := !(ivRight a)) (by rw [h1]; rfl) rfl ?_
    refine ac_seq ?_
    refine ac_region_lit ?_
    refine ao 12 rfl rfl (st_cf (vs := []) (r := .agg #[.int .i64 ivNone.lo, .int .i64 ivNone.hi, .bool ivNone.no]) c_ivNone Try.func28 rfl (by decide) rfl rfl rfl ?_)
    refine ar_op (d := none) rfl rfl (st_sta (g := g1) (off := 0) (us := [.int .i64 ivNone.lo, .int .i64 ivNone.hi, .bool ivNone.no]) (cs := [.int .i64 ivNone.lo, .int .i64 ivNone.hi, .bool ivNone.no]) agg26 0 rfl rfl rfl rfl rfl rfl rfl rfl rfl ?_)
    refine ar_nil ?_
    refine ac_ret ?_
    exact fin_eq (v := .agg #[.int .i64 ivNone.lo, .int .i64 ivNone.hi, .bool ivNone.no]) (by show _ = Iv.v (ivSqr a); rw [ivSqr, h1] <;> rfl) (fin_ret (res_c (vs := [.int .i64 ivNone.lo, .int .i64 ivNone.hi, .bool ivNone.no]) agg26 0 rfl rfl rfl rfl rfl rfl))
def ivHas (a : Iv) (n : Int) : Bool := (bif ivRight a then (bif decide (a.lo ≤ n) then decide (n ≤ a.hi) else false) else false)
set_option maxRecDepth 100000 in
theorem c_ivHas (a : Iv) (n : Int) : Gets Try.prog 24 #[.agg #[.int .i64 a.lo, .int .i64 a.hi, .bool a.no], .int .i64 n] ((fun (r : Bool) => (.bool r : Value)) (ivHas a n)) := by
  refine gets_fin Try.func24 rfl rfl rfl ?_
  refine ac_seq ?_
  refine ac_region_lit ?_
  refine ao 2 rfl rfl (st_box (v := .agg #[.int .i64 a.lo, .int .i64 a.hi, .bool a.no]) (cs := [.int .i64 a.lo, .int .i64 a.hi, .bool a.no]) rfl rfl rfl fun g0 => ?_)
  refine ao 4 rfl rfl (st_assign (v := .bool false) rfl rfl ?_)
  refine ar_nil ?_
  refine ac_seq ?_
  refine ac_region_lit ?_
  refine ao 5 rfl rfl (st_lda (g := g0) (off := 0) (vs := [.int .i64 a.lo, .int .i64 a.hi, .bool a.no]) agg26 0 rfl rfl rfl rfl rfl rfl ?_)
  refine ao 6 rfl rfl (st_cf (vs := [.agg #[.int .i64 a.lo, .int .i64 a.hi, .bool a.no]]) (r := .bool (ivRight a)) (c_ivRight a) Try.func25 rfl (by decide) rfl rfl rfl ?_)
  refine ao 7 rfl rfl (st_move (v := .bool (ivRight a)) rfl rfl ?_)
  refine bool_split (ivRight a) (fun h1 => ?_) (fun h1 => ?_)
  · refine ar_gd (d := (some 8)) (by show ((ivRight a) == true) = true; rw [h1]; rfl) rfl (st_fa (g := g0) (off := 0) rfl fa26_0 rfl ?_)
    refine ar_gd (d := (some 9)) (by show ((ivRight a) == true) = true; rw [h1]; rfl) rfl (st_ldc (g := g0) (off := 0) (v := .int .i64 a.lo) cell3 0 rfl rfl rfl rfl rfl ?_)
    refine ar_gd (d := (some 10)) (by show ((ivRight a) == true) = true; rw [h1]; rfl) rfl (st_move (v := .int .i64 n) rfl rfl ?_)
    refine ar_gd (d := (some 11)) (by show ((ivRight a) == true) = true; rw [h1]; rfl) rfl (st_bi (u := .int .i64 a.lo) (v := .int .i64 n) (r := .bool (decide (a.lo ≤ n))) rfl rfl rfl (bi_leq rfl) ?_)
    refine ao 12 rfl rfl (st_pkt' (b := ivRight a) (v := .bool (decide (a.lo ≤ n))) h1 rfl rfl rfl ?_)
    refine ao 13 rfl rfl (st_move (v := .bool (decide (a.lo ≤ n))) rfl rfl ?_)
    refine bool_split (decide (a.lo ≤ n)) (fun h2 => ?_) (fun h2 => ?_)
    · refine ar_gd (d := (some 14)) (by show ((decide (a.lo ≤ n)) == true) = true; rw [h2]; rfl) rfl (st_move (v := .int .i64 n) rfl rfl ?_)
      refine ar_gd (d := (some 15)) (by show ((decide (a.lo ≤ n)) == true) = true; rw [h2]; rfl) rfl (st_fa (g := g0) (off := 0) rfl fa26_1 rfl ?_)
      refine ar_gd (d := (some 16)) (by show ((decide (a.lo ≤ n)) == true) = true; rw [h2]; rfl) rfl (st_ldc (g := g0) (off := 1) (v := .int .i64 a.hi) cell3 0 rfl rfl rfl rfl rfl ?_)
      refine ar_gd (d := (some 17)) (by show ((decide (a.lo ≤ n)) == true) = true; rw [h2]; rfl) rfl (st_bi (u := .int .i64 n) (v := .int .i64 a.hi) (r := .bool (decide (n ≤ a.hi))) rfl rfl rfl (bi_leq rfl) ?_)
      refine ao 18 rfl rfl (st_pkt' (b := decide (a.lo ≤ n)) (v := .bool (decide (n ≤ a.hi))) h2 rfl rfl rfl ?_)
      refine ao 4 rfl rfl (st_assign (v := .bool (decide (n ≤ a.hi))) rfl rfl ?_)
      refine ar_nil ?_
      refine ac_ret ?_
      exact fin_eq (v := .bool (decide (n ≤ a.hi))) (by show _ = (fun (r : Bool) => (.bool r : Value)) (ivHas a n); rw [ivHas, h2, h1] <;> rfl) (fin_ret (res_tmp rfl rfl))
    · refine ar_sk (d := (some 14)) (by show ((decide (a.lo ≤ n)) == true) = false; rw [h2]; rfl) rfl ?_
      refine ar_sk (d := (some 15)) (by show ((decide (a.lo ≤ n)) == true) = false; rw [h2]; rfl) rfl ?_
      refine ar_sk (d := (some 16)) (by show ((decide (a.lo ≤ n)) == true) = false; rw [h2]; rfl) rfl ?_
      refine ar_sk (d := (some 17)) (by show ((decide (a.lo ≤ n)) == true) = false; rw [h2]; rfl) rfl ?_
      refine ao 18 rfl rfl (st_pkf' (b := decide (a.lo ≤ n)) (v := .bool false) h2 rfl rfl rfl ?_)
      refine ao 4 rfl rfl (st_assign (v := .bool false) rfl rfl ?_)
      refine ar_nil ?_
      refine ac_ret ?_
      exact fin_eq (v := .bool false) (by show _ = (fun (r : Bool) => (.bool r : Value)) (ivHas a n); rw [ivHas, h2, h1] <;> rfl) (fin_ret (res_tmp rfl rfl))
  · refine ar_sk (d := (some 8)) (by show ((ivRight a) == true) = false; rw [h1]; rfl) rfl ?_
    refine ar_sk (d := (some 9)) (by show ((ivRight a) == true) = false; rw [h1]; rfl) rfl ?_
    refine ar_sk (d := (some 10)) (by show ((ivRight a) == true) = false; rw [h1]; rfl) rfl ?_
    refine ar_sk (d := (some 11)) (by show ((ivRight a) == true) = false; rw [h1]; rfl) rfl ?_
    refine ao 12 rfl rfl (st_pkf' (b := ivRight a) (v := .bool false) h1 rfl rfl rfl ?_)
    refine ao 13 rfl rfl (st_move (v := .bool false) rfl rfl ?_)
    refine ar_sk (d := (some 14)) rfl rfl ?_
    refine ar_sk (d := (some 15)) rfl rfl ?_
    refine ar_sk (d := (some 16)) rfl rfl ?_
    refine ar_sk (d := (some 17)) rfl rfl ?_
    refine ao 18 rfl rfl (st_pkf (v := .bool false) rfl rfl rfl ?_)
    refine ao 4 rfl rfl (st_assign (v := .bool false) rfl rfl ?_)
    refine ar_nil ?_
    refine ac_ret ?_
    exact fin_eq (v := .bool false) (by show _ = (fun (r : Bool) => (.bool r : Value)) (ivHas a n); rw [ivHas, h1] <;> rfl) (fin_ret (res_tmp rfl rfl))
def ivInside (a : Iv) (b : Iv) : Bool := (bif ivBoth a b then (bif decide (b.lo ≤ a.lo) then decide (a.hi ≤ b.hi) else false) else false)
set_option maxRecDepth 100000 in
theorem c_ivInside (a : Iv) (b : Iv) : Gets Try.prog 26 #[.agg #[.int .i64 a.lo, .int .i64 a.hi, .bool a.no], .agg #[.int .i64 b.lo, .int .i64 b.hi, .bool b.no]] ((fun (r : Bool) => (.bool r : Value)) (ivInside a b)) := by
  refine gets_fin Try.func26 rfl rfl rfl ?_
  refine ac_seq ?_
  refine ac_region_lit ?_
  refine ao 2 rfl rfl (st_box (v := .agg #[.int .i64 a.lo, .int .i64 a.hi, .bool a.no]) (cs := [.int .i64 a.lo, .int .i64 a.hi, .bool a.no]) rfl rfl rfl fun g0 => ?_)
  refine ao 3 rfl rfl (st_box (v := .agg #[.int .i64 b.lo, .int .i64 b.hi, .bool b.no]) (cs := [.int .i64 b.lo, .int .i64 b.hi, .bool b.no]) rfl rfl rfl fun g1 => ?_)
  refine ao 4 rfl rfl (st_assign (v := .bool false) rfl rfl ?_)
  refine ar_nil ?_
  refine ac_seq ?_
  refine ac_region_lit ?_
  refine ao 5 rfl rfl (st_lda (g := g0) (off := 0) (vs := [.int .i64 a.lo, .int .i64 a.hi, .bool a.no]) agg26 1 rfl rfl rfl rfl rfl rfl ?_)
  refine ao 6 rfl rfl (st_lda (g := g1) (off := 0) (vs := [.int .i64 b.lo, .int .i64 b.hi, .bool b.no]) agg26 0 rfl rfl rfl rfl rfl rfl ?_)
  refine ao 7 rfl rfl (st_cf (vs := [.agg #[.int .i64 a.lo, .int .i64 a.hi, .bool a.no], .agg #[.int .i64 b.lo, .int .i64 b.hi, .bool b.no]]) (r := .bool (ivBoth a b)) (c_ivBoth a b) Try.func69 rfl (by decide) rfl rfl rfl ?_)
  refine ao 8 rfl rfl (st_move (v := .bool (ivBoth a b)) rfl rfl ?_)
  refine bool_split (ivBoth a b) (fun h1 => ?_) (fun h1 => ?_)
  · refine ar_gd (d := (some 9)) (by show ((ivBoth a b) == true) = true; rw [h1]; rfl) rfl (st_fa (g := g1) (off := 0) rfl fa26_0 rfl ?_)
    refine ar_gd (d := (some 10)) (by show ((ivBoth a b) == true) = true; rw [h1]; rfl) rfl (st_ldc (g := g1) (off := 0) (v := .int .i64 b.lo) cell3 0 rfl rfl rfl rfl rfl ?_)
    refine ar_gd (d := (some 11)) (by show ((ivBoth a b) == true) = true; rw [h1]; rfl) rfl (st_fa (g := g0) (off := 0) rfl fa26_0 rfl ?_)
    refine ar_gd (d := (some 12)) (by show ((ivBoth a b) == true) = true; rw [h1]; rfl) rfl (st_ldc (g := g0) (off := 0) (v := .int .i64 a.lo) cell3 1 rfl rfl rfl rfl rfl ?_)
    refine ar_gd (d := (some 13)) (by show ((ivBoth a b) == true) = true; rw [h1]; rfl) rfl (st_bi (u := .int .i64 b.lo) (v := .int .i64 a.lo) (r := .bool (decide (b.lo ≤ a.lo))) rfl rfl rfl (bi_leq rfl) ?_)
    refine ao 14 rfl rfl (st_pkt' (b := ivBoth a b) (v := .bool (decide (b.lo ≤ a.lo))) h1 rfl rfl rfl ?_)
    refine ao 15 rfl rfl (st_move (v := .bool (decide (b.lo ≤ a.lo))) rfl rfl ?_)
    refine bool_split (decide (b.lo ≤ a.lo)) (fun h2 => ?_) (fun h2 => ?_)
    · refine ar_gd (d := (some 16)) (by show ((decide (b.lo ≤ a.lo)) == true) = true; rw [h2]; rfl) rfl (st_fa (g := g0) (off := 0) rfl fa26_1 rfl ?_)
      refine ar_gd (d := (some 17)) (by show ((decide (b.lo ≤ a.lo)) == true) = true; rw [h2]; rfl) rfl (st_ldc (g := g0) (off := 1) (v := .int .i64 a.hi) cell3 1 rfl rfl rfl rfl rfl ?_)
      refine ar_gd (d := (some 18)) (by show ((decide (b.lo ≤ a.lo)) == true) = true; rw [h2]; rfl) rfl (st_fa (g := g1) (off := 0) rfl fa26_1 rfl ?_)
      refine ar_gd (d := (some 19)) (by show ((decide (b.lo ≤ a.lo)) == true) = true; rw [h2]; rfl) rfl (st_ldc (g := g1) (off := 1) (v := .int .i64 b.hi) cell3 0 rfl rfl rfl rfl rfl ?_)
      refine ar_gd (d := (some 20)) (by show ((decide (b.lo ≤ a.lo)) == true) = true; rw [h2]; rfl) rfl (st_bi (u := .int .i64 a.hi) (v := .int .i64 b.hi) (r := .bool (decide (a.hi ≤ b.hi))) rfl rfl rfl (bi_leq rfl) ?_)
      refine ao 21 rfl rfl (st_pkt' (b := decide (b.lo ≤ a.lo)) (v := .bool (decide (a.hi ≤ b.hi))) h2 rfl rfl rfl ?_)
      refine ao 4 rfl rfl (st_assign (v := .bool (decide (a.hi ≤ b.hi))) rfl rfl ?_)
      refine ar_nil ?_
      refine ac_ret ?_
      exact fin_eq (v := .bool (decide (a.hi ≤ b.hi))) (by show _ = (fun (r : Bool) => (.bool r : Value)) (ivInside a b); rw [ivInside, h2, h1] <;> rfl) (fin_ret (res_tmp rfl rfl))
    · refine ar_sk (d := (some 16)) (by show ((decide (b.lo ≤ a.lo)) == true) = false; rw [h2]; rfl) rfl ?_
      refine ar_sk (d := (some 17)) (by show ((decide (b.lo ≤ a.lo)) == true) = false; rw [h2]; rfl) rfl ?_
      refine ar_sk (d := (some 18)) (by show ((decide (b.lo ≤ a.lo)) == true) = false; rw [h2]; rfl) rfl ?_
      refine ar_sk (d := (some 19)) (by show ((decide (b.lo ≤ a.lo)) == true) = false; rw [h2]; rfl) rfl ?_
      refine ar_sk (d := (some 20)) (by show ((decide (b.lo ≤ a.lo)) == true) = false; rw [h2]; rfl) rfl ?_
      refine ao 21 rfl rfl (st_pkf' (b := decide (b.lo ≤ a.lo)) (v := .bool false) h2 rfl rfl rfl ?_)
      refine ao 4 rfl rfl (st_assign (v := .bool false) rfl rfl ?_)
      refine ar_nil ?_
      refine ac_ret ?_
      exact fin_eq (v := .bool false) (by show _ = (fun (r : Bool) => (.bool r : Value)) (ivInside a b); rw [ivInside, h2, h1] <;> rfl) (fin_ret (res_tmp rfl rfl))
  · refine ar_sk (d := (some 9)) (by show ((ivBoth a b) == true) = false; rw [h1]; rfl) rfl ?_
    refine ar_sk (d := (some 10)) (by show ((ivBoth a b) == true) = false; rw [h1]; rfl) rfl ?_
    refine ar_sk (d := (some 11)) (by show ((ivBoth a b) == true) = false; rw [h1]; rfl) rfl ?_
    refine ar_sk (d := (some 12)) (by show ((ivBoth a b) == true) = false; rw [h1]; rfl) rfl ?_
    refine ar_sk (d := (some 13)) (by show ((ivBoth a b) == true) = false; rw [h1]; rfl) rfl ?_
    refine ao 14 rfl rfl (st_pkf' (b := ivBoth a b) (v := .bool false) h1 rfl rfl rfl ?_)
    refine ao 15 rfl rfl (st_move (v := .bool false) rfl rfl ?_)
    refine ar_sk (d := (some 16)) rfl rfl ?_
    refine ar_sk (d := (some 17)) rfl rfl ?_
    refine ar_sk (d := (some 18)) rfl rfl ?_
    refine ar_sk (d := (some 19)) rfl rfl ?_
    refine ar_sk (d := (some 20)) rfl rfl ?_
    refine ao 21 rfl rfl (st_pkf (v := .bool false) rfl rfl rfl ?_)
    refine ao 4 rfl rfl (st_assign (v := .bool false) rfl rfl ?_)
    refine ar_nil ?_
    refine ac_ret ?_
    exact fin_eq (v := .bool false) (by show _ = (fun (r : Bool) => (.bool r : Value)) (ivInside a b); rw [ivInside, h1] <;> rfl) (fin_ret (res_tmp rfl rfl))
def ivHull (a : Iv) (b : Iv) : Iv := (bif ivBoth a b then (ivOf (min a.lo b.lo) (max a.hi b.hi)) else ivNone)
def ivMeet (a : Iv) (b : Iv) : Iv := (bif ivBoth a b then (ivOf (max a.lo b.lo) (min a.hi b.hi)) else ivNone)
def ivMid (a : Iv) : Int := (bif ivRight a then Int.fdiv (w64 (a.lo + a.hi)) 2 else 0)
def ivSplit (a : Iv) : Iv × Iv := (bif ivRight a then ((ivOf a.lo (ivMid a)), (ivOf (ivMid a) a.hi)) else (ivNone, ivNone))
end Go.Proofs.Ythngkopcadlciaa
