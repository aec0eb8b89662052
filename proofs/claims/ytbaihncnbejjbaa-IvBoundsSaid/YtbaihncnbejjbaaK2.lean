import Derived.Test.YtbaihncnbejjbaaEndsD
set_option linter.unusedVariables false
set_option linter.unusedSimpArgs false
namespace Go.Proofs.Ytbaihncnbejjbaa
open Go.RowKit

attribute [local irreducible] AC AR DWalk
def known2  : Bool := (bif decide ((ivMul (ivOf (-1) 1) (ivOf 0 65537)) = (⟨(-2), 2, false⟩ : Iv)) then decide (ivNone = (⟨0, 0, true⟩ : Iv)) else false)
set_option maxRecDepth 100000 in
theorem c_known2  : Gets Try.prog 58 #[] ((fun (r : Bool) => (.bool r : Value)) known2) := by
  refine gets_fin Try.func58 rfl rfl rfl ?_
  refine ac_seq ?_
  refine ac_region_lit ?_
  refine ao 0 rfl rfl (st_assign (v := .bool false) rfl rfl ?_)
  refine ar_nil ?_
  refine ac_seq ?_
  refine ac_region_lit ?_
  refine ao 1 rfl rfl (st_cf (vs := [.int .i64 (-1), .int .i64 1]) (r := .agg #[.int .i64 ((ivOf (-1) 1).lo), .int .i64 ((ivOf (-1) 1).hi), .bool ((ivOf (-1) 1).no)]) (c_ivOf (-1) 1) Try.func84 rfl (by decide) rfl rfl rfl ?_)
  refine ao 2 rfl rfl (st_cf (vs := [.int .i64 0, .int .i64 65537]) (r := .agg #[.int .i64 ((ivOf 0 65537).lo), .int .i64 ((ivOf 0 65537).hi), .bool ((ivOf 0 65537).no)]) (c_ivOf 0 65537) Try.func84 rfl (by decide) rfl rfl rfl ?_)
  refine ao 3 rfl rfl (st_cf (vs := [.agg #[.int .i64 ((ivOf (-1) 1).lo), .int .i64 ((ivOf (-1) 1).hi), .bool ((ivOf (-1) 1).no)], .agg #[.int .i64 ((ivOf 0 65537).lo), .int .i64 ((ivOf 0 65537).hi), .bool ((ivOf 0 65537).no)]]) (r := .agg #[.int .i64 ((ivMul (ivOf (-1) 1) (ivOf 0 65537)).lo), .int .i64 ((ivMul (ivOf (-1) 1) (ivOf 0 65537)).hi), .bool ((ivMul (ivOf (-1) 1) (ivOf 0 65537)).no)]) (c_ivMul (ivOf (-1) 1) (ivOf 0 65537)) Try.func64 rfl (by decide) rfl rfl rfl ?_)
  refine ao 4 rfl rfl (st_bd (us := [(0, .int .i64 (-2)), (1, .int .i64 2)]) (v := .agg #[.int .i64 (-2), .int .i64 2, .bool false]) rfl rfl (bd35_0_1 _ _) ?_)
  refine ao 5 rfl rfl (st_bi (u := .agg #[.int .i64 ((ivMul (ivOf (-1) 1) (ivOf 0 65537)).lo), .int .i64 ((ivMul (ivOf (-1) 1) (ivOf 0 65537)).hi), .bool ((ivMul (ivOf (-1) 1) (ivOf 0 65537)).no)]) (v := .agg #[.int .i64 (-2), .int .i64 2, .bool false]) (r := .bool (decide ((ivMul (ivOf (-1) 1) (ivOf 0 65537)) = (⟨(-2), 2, false⟩ : Iv)))) rfl rfl rfl (beql_35 (ivMul (ivOf (-1) 1) (ivOf 0 65537)) (⟨(-2), 2, false⟩ : Iv) rfl) ?_)
  refine ao 6 rfl rfl (st_move (v := .bool (decide ((ivMul (ivOf (-1) 1) (ivOf 0 65537)) = (⟨(-2), 2, false⟩ : Iv)))) rfl rfl ?_)
  refine bool_split (decide ((ivMul (ivOf (-1) 1) (ivOf 0 65537)) = (⟨(-2), 2, false⟩ : Iv))) (fun h1 => ?_) (fun h1 => ?_)
  · refine ar_gd (d := (some 7)) (by show ((decide ((ivMul (ivOf (-1) 1) (ivOf 0 65537)) = (⟨(-2), 2, false⟩ : Iv))) == true) = true; rw [h1]; rfl) rfl (st_cf (vs := []) (r := .agg #[.int .i64 ivNone.lo, .int .i64 ivNone.hi, .bool ivNone.no]) c_ivNone Try.func69 rfl (by decide) rfl rfl rfl ?_)
    refine ar_gd (d := (some 8)) (by show ((decide ((ivMul (ivOf (-1) 1) (ivOf 0 65537)) = (⟨(-2), 2, false⟩ : Iv))) == true) = true; rw [h1]; rfl) rfl (st_bd (us := [(2, .bool true)]) (v := .agg #[.int .i64 0, .int .i64 0, .bool true]) rfl rfl (bd35_2 _) ?_)
    refine ar_gd (d := (some 9)) (by show ((decide ((ivMul (ivOf (-1) 1) (ivOf 0 65537)) = (⟨(-2), 2, false⟩ : Iv))) == true) = true; rw [h1]; rfl) rfl (st_bi (u := .agg #[.int .i64 ivNone.lo, .int .i64 ivNone.hi, .bool ivNone.no]) (v := .agg #[.int .i64 0, .int .i64 0, .bool true]) (r := .bool (decide (ivNone = (⟨0, 0, true⟩ : Iv)))) rfl rfl rfl (beql_35 ivNone (⟨0, 0, true⟩ : Iv) rfl) ?_)
    refine ao 10 rfl rfl (st_pkt' (b := decide ((ivMul (ivOf (-1) 1) (ivOf 0 65537)) = (⟨(-2), 2, false⟩ : Iv))) (v := .bool (decide (ivNone = (⟨0, 0, true⟩ : Iv)))) h1 rfl rfl rfl ?_)
    refine ao 0 rfl rfl (st_assign (v := .bool (decide (ivNone = (⟨0, 0, true⟩ : Iv)))) rfl rfl ?_)
    refine ar_nil ?_
    refine ac_ret ?_
    exact fin_eq (v := .bool (decide (ivNone = (⟨0, 0, true⟩ : Iv)))) (by show _ = (fun (r : Bool) => (.bool r : Value)) known2; rw [known2, h1] <;> rfl) (fin_ret (res_tmp rfl rfl))
  · refine ar_sk (d := (some 7)) (by show ((decide ((ivMul (ivOf (-1) 1) (ivOf 0 65537)) = (⟨(-2), 2, false⟩ : Iv))) == true) = false; rw [h1]; rfl) rfl ?_
    refine ar_sk (d := (some 8)) (by show ((decide ((ivMul (ivOf (-1) 1) (ivOf 0 65537)) = (⟨(-2), 2, false⟩ : Iv))) == true) = false; rw [h1]; rfl) rfl ?_
    refine ar_sk (d := (some 9)) (by show ((decide ((ivMul (ivOf (-1) 1) (ivOf 0 65537)) = (⟨(-2), 2, false⟩ : Iv))) == true) = false; rw [h1]; rfl) rfl ?_
    refine ao 10 rfl rfl (st_pkf' (b := decide ((ivMul (ivOf (-1) 1) (ivOf 0 65537)) = (⟨(-2), 2, false⟩ : Iv))) (v := .bool false) h1 rfl rfl rfl ?_)
    refine ao 0 rfl rfl (st_assign (v := .bool false) rfl rfl ?_)
    refine ar_nil ?_
    refine ac_ret ?_
    exact fin_eq (v := .bool false) (by show _ = (fun (r : Bool) => (.bool r : Value)) known2; rw [known2, h1] <;> rfl) (fin_ret (res_tmp rfl rfl))
def in2 (a : Iv) (b : Iv) : Bool := (bif ivRight b then ivInside a b else true)
set_option maxRecDepth 100000 in
theorem c_in2 (a : Iv) (b : Iv) : Gets Try.prog 62 #[.agg #[.int .i64 a.lo, .int .i64 a.hi, .bool a.no], .agg #[.int .i64 b.lo, .int .i64 b.hi, .bool b.no]] ((fun (r : Bool) => (.bool r : Value)) (in2 a b)) := by
  refine gets_fin Try.func62 rfl rfl rfl ?_
  refine ac_seq ?_
  refine ac_region_lit ?_
  refine ao 2 rfl rfl (st_box (v := .agg #[.int .i64 a.lo, .int .i64 a.hi, .bool a.no]) (cs := [.int .i64 a.lo, .int .i64 a.hi, .bool a.no]) rfl rfl rfl fun g0 => ?_)
  refine ao 3 rfl rfl (st_box (v := .agg #[.int .i64 b.lo, .int .i64 b.hi, .bool b.no]) (cs := [.int .i64 b.lo, .int .i64 b.hi, .bool b.no]) rfl rfl rfl fun g1 => ?_)
  refine ao 4 rfl rfl (st_assign (v := .bool false) rfl rfl ?_)
  refine ar_nil ?_
  refine ac_seq ?_
  refine ac_region_lit ?_
  refine ao 5 rfl rfl (st_lda (g := g1) (off := 0) (vs := [.int .i64 b.lo, .int .i64 b.hi, .bool b.no]) agg35 0 rfl rfl rfl rfl rfl rfl ?_)
  refine ao 6 rfl rfl (st_cf (vs := [.agg #[.int .i64 b.lo, .int .i64 b.hi, .bool b.no]]) (r := .bool (ivRight b)) (c_ivRight b) Try.func54 rfl (by decide) rfl rfl rfl ?_)
  refine ao 7 rfl rfl (st_un (u := .bool (ivRight b)) (v := .bool (!(ivRight b))) rfl rfl (un_not rfl) ?_)
  refine ao 8 rfl rfl (st_move (v := .bool (!(ivRight b))) rfl rfl ?_)
  refine bool_split (ivRight b) (fun h1 => ?_) (fun h1 => ?_)
  · refine ar_gd (d := (some 9)) (by show ((!(ivRight b)) == false) = true; rw [h1]; rfl) rfl (st_lda (g := g0) (off := 0) (vs := [.int .i64 a.lo, .int .i64 a.hi, .bool a.no]) agg35 1 rfl rfl rfl rfl rfl rfl ?_)
    refine ar_gd (d := (some 10)) (by show ((!(ivRight b)) == false) = true; rw [h1]; rfl) rfl (st_lda (g := g1) (off := 0) (vs := [.int .i64 b.lo, .int .i64 b.hi, .bool b.no]) agg35 0 rfl rfl rfl rfl rfl rfl ?_)
    refine ar_gd (d := (some 11)) (by show ((!(ivRight b)) == false) = true; rw [h1]; rfl) rfl (st_cf (vs := [.agg #[.int .i64 a.lo, .int .i64 a.hi, .bool a.no], .agg #[.int .i64 b.lo, .int .i64 b.hi, .bool b.no]]) (r := .bool (ivInside a b)) (c_ivInside a b) Try.func55 rfl (by decide) rfl rfl rfl ?_)
    refine ao 12 rfl rfl (st_pkf' (b := !(ivRight b)) (v := .bool (ivInside a b)) (by rw [h1]; rfl) rfl rfl rfl ?_)
    refine ao 4 rfl rfl (st_assign (v := .bool (ivInside a b)) rfl rfl ?_)
    refine ar_nil ?_
    refine ac_ret ?_
    exact fin_eq (v := .bool (ivInside a b)) (by show _ = (fun (r : Bool) => (.bool r : Value)) (in2 a b); rw [in2, h1] <;> rfl) (fin_ret (res_tmp rfl rfl))
  · refine ar_sk (d := (some 9)) (by show ((!(ivRight b)) == false) = false; rw [h1]; rfl) rfl ?_
    refine ar_sk (d := (some 10)) (by show ((!(ivRight b)) == false) = false; rw [h1]; rfl) rfl ?_
    refine ar_sk (d := (some 11)) (by show ((!(ivRight b)) == false) = false; rw [h1]; rfl) rfl ?_
    refine ao 12 rfl rfl (st_pkt' (b := !(ivRight b)) (v := .bool true) (by rw [h1]; rfl) rfl rfl rfl ?_)
    refine ao 4 rfl rfl (st_assign (v := .bool true) rfl rfl ?_)
    refine ar_nil ?_
    refine ac_ret ?_
    exact fin_eq (v := .bool true) (by show _ = (fun (r : Bool) => (.bool r : Value)) (in2 a b); rw [in2, h1] <;> rfl) (fin_ret (res_tmp rfl rfl))
end Go.Proofs.Ytbaihncnbejjbaa
