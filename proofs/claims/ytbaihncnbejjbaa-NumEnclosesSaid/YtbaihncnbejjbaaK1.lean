import Derived.Test.YtbaihncnbejjbaaRoot
set_option linter.unusedVariables false
set_option linter.unusedSimpArgs false
namespace Go.Proofs.Ytbaihncnbejjbaa
open Go.RowKit

attribute [local irreducible] AC AR DWalk
def known1  : Bool := (bif ((numMul (-1) 1 false).1) == (-1) then (bif (numMul (-1) 1 false).2 then (bif ((numMul (-1) 1 true).1) == 0 then (numMul (-1) 1 true).2 else false) else false) else false)
set_option maxRecDepth 100000 in
theorem c_known1  : Gets Try.prog 38 #[] ((fun (r : Bool) => (.bool r : Value)) known1) := by
  refine gets_fin Try.func38 rfl rfl rfl ?_
  refine ac_seq ?_
  refine ac_region_lit ?_
  refine ao 0 rfl rfl (st_assign (v := .bool false) rfl rfl ?_)
  refine ar_nil ?_
  refine ac_seq ?_
  refine ac_region_lit ?_
  refine ao 6 rfl rfl (st_cf (vs := [.int .i64 (-1), .int .i64 1, .bool false]) (r := .tuple #[.int .i64 ((numMul (-1) 1 false).1), .bool ((numMul (-1) 1 false).2)]) (c_numMul (-1) 1 false) Try.func37 rfl (by decide) rfl rfl rfl ?_)
  refine ao 5 rfl rfl (st_move (v := .tuple #[.int .i64 ((numMul (-1) 1 false).1), .bool ((numMul (-1) 1 false).2)]) rfl rfl ?_)
  refine ao 7 rfl rfl (st_ex (vs := [.int .i64 ((numMul (-1) 1 false).1), .bool ((numMul (-1) 1 false).2)]) (v := .int .i64 ((numMul (-1) 1 false).1)) rfl rfl rfl ?_)
  refine ao 8 rfl rfl (st_ex (vs := [.int .i64 ((numMul (-1) 1 false).1), .bool ((numMul (-1) 1 false).2)]) (v := .bool ((numMul (-1) 1 false).2)) rfl rfl rfl ?_)
  refine ao 1 rfl rfl (st_assign (v := .int .i64 ((numMul (-1) 1 false).1)) rfl rfl ?_)
  refine ao 2 rfl rfl (st_assign (v := .bool ((numMul (-1) 1 false).2)) rfl rfl ?_)
  refine ar_nil ?_
  refine ac_seq ?_
  refine ac_region_lit ?_
  refine ao 10 rfl rfl (st_cf (vs := [.int .i64 (-1), .int .i64 1, .bool true]) (r := .tuple #[.int .i64 ((numMul (-1) 1 true).1), .bool ((numMul (-1) 1 true).2)]) (c_numMul (-1) 1 true) Try.func37 rfl (by decide) rfl rfl rfl ?_)
  refine ao 9 rfl rfl (st_move (v := .tuple #[.int .i64 ((numMul (-1) 1 true).1), .bool ((numMul (-1) 1 true).2)]) rfl rfl ?_)
  refine ao 11 rfl rfl (st_ex (vs := [.int .i64 ((numMul (-1) 1 true).1), .bool ((numMul (-1) 1 true).2)]) (v := .int .i64 ((numMul (-1) 1 true).1)) rfl rfl rfl ?_)
  refine ao 12 rfl rfl (st_ex (vs := [.int .i64 ((numMul (-1) 1 true).1), .bool ((numMul (-1) 1 true).2)]) (v := .bool ((numMul (-1) 1 true).2)) rfl rfl rfl ?_)
  refine ao 3 rfl rfl (st_assign (v := .int .i64 ((numMul (-1) 1 true).1)) rfl rfl ?_)
  refine ao 4 rfl rfl (st_assign (v := .bool ((numMul (-1) 1 true).2)) rfl rfl ?_)
  refine ar_nil ?_
  refine ac_seq ?_
  refine ac_region_lit ?_
  refine ao 13 rfl rfl (st_move (v := .int .i64 ((numMul (-1) 1 false).1)) rfl rfl ?_)
  refine ao 14 rfl rfl (st_bi (u := .int .i64 ((numMul (-1) 1 false).1)) (v := .int .i64 (-1)) (r := .bool (((numMul (-1) 1 false).1) == (-1))) rfl rfl rfl (bi_eql rfl) ?_)
  refine ao 15 rfl rfl (st_move (v := .bool (((numMul (-1) 1 false).1) == (-1))) rfl rfl ?_)
  refine bool_split (((numMul (-1) 1 false).1) == (-1)) (fun h1 => ?_) (fun h1 => ?_)
  · refine ar_gd (d := (some 16)) (by show ((((numMul (-1) 1 false).1) == (-1)) == true) = true; rw [h1]; rfl) rfl (st_move (v := .bool ((numMul (-1) 1 false).2)) rfl rfl ?_)
    refine ao 17 rfl rfl (st_pkt' (b := ((numMul (-1) 1 false).1) == (-1)) (v := .bool ((numMul (-1) 1 false).2)) h1 rfl rfl rfl ?_)
    refine ao 18 rfl rfl (st_move (v := .bool ((numMul (-1) 1 false).2)) rfl rfl ?_)
    refine bool_split ((numMul (-1) 1 false).2) (fun h2 => ?_) (fun h2 => ?_)
    · refine ar_gd (d := (some 19)) (by show (((numMul (-1) 1 false).2) == true) = true; rw [h2]; rfl) rfl (st_move (v := .int .i64 ((numMul (-1) 1 true).1)) rfl rfl ?_)
      refine ar_gd (d := (some 20)) (by show (((numMul (-1) 1 false).2) == true) = true; rw [h2]; rfl) rfl (st_bi (u := .int .i64 ((numMul (-1) 1 true).1)) (v := .int .i64 0) (r := .bool (((numMul (-1) 1 true).1) == 0)) rfl rfl rfl (bi_eql rfl) ?_)
      refine ao 21 rfl rfl (st_pkt' (b := (numMul (-1) 1 false).2) (v := .bool (((numMul (-1) 1 true).1) == 0)) h2 rfl rfl rfl ?_)
      refine ao 22 rfl rfl (st_move (v := .bool (((numMul (-1) 1 true).1) == 0)) rfl rfl ?_)
      refine bool_split (((numMul (-1) 1 true).1) == 0) (fun h3 => ?_) (fun h3 => ?_)
      · refine ar_gd (d := (some 23)) (by show ((((numMul (-1) 1 true).1) == 0) == true) = true; rw [h3]; rfl) rfl (st_move (v := .bool ((numMul (-1) 1 true).2)) rfl rfl ?_)
        refine ao 24 rfl rfl (st_pkt' (b := ((numMul (-1) 1 true).1) == 0) (v := .bool ((numMul (-1) 1 true).2)) h3 rfl rfl rfl ?_)
        refine ao 0 rfl rfl (st_assign (v := .bool ((numMul (-1) 1 true).2)) rfl rfl ?_)
        refine ar_nil ?_
        refine ac_ret ?_
        exact fin_eq (v := .bool ((numMul (-1) 1 true).2)) (by show _ = (fun (r : Bool) => (.bool r : Value)) known1; rw [known1, h3, h2, h1] <;> rfl) (fin_ret (res_tmp rfl rfl))
      · refine ar_sk (d := (some 23)) (by show ((((numMul (-1) 1 true).1) == 0) == true) = false; rw [h3]; rfl) rfl ?_
        refine ao 24 rfl rfl (st_pkf' (b := ((numMul (-1) 1 true).1) == 0) (v := .bool false) h3 rfl rfl rfl ?_)
        refine ao 0 rfl rfl (st_assign (v := .bool false) rfl rfl ?_)
        refine ar_nil ?_
        refine ac_ret ?_
        exact fin_eq (v := .bool false) (by show _ = (fun (r : Bool) => (.bool r : Value)) known1; rw [known1, h3, h2, h1] <;> rfl) (fin_ret (res_tmp rfl rfl))
    · refine ar_sk (d := (some 19)) (by show (((numMul (-1) 1 false).2) == true) = false; rw [h2]; rfl) rfl ?_
      refine ar_sk (d := (some 20)) (by show (((numMul (-1) 1 false).2) == true) = false; rw [h2]; rfl) rfl ?_
      refine ao 21 rfl rfl (st_pkf' (b := (numMul (-1) 1 false).2) (v := .bool false) h2 rfl rfl rfl ?_)
      refine ao 22 rfl rfl (st_move (v := .bool false) rfl rfl ?_)
      refine ar_sk (d := (some 23)) rfl rfl ?_
      refine ao 24 rfl rfl (st_pkf (v := .bool false) rfl rfl rfl ?_)
      refine ao 0 rfl rfl (st_assign (v := .bool false) rfl rfl ?_)
      refine ar_nil ?_
      refine ac_ret ?_
      exact fin_eq (v := .bool false) (by show _ = (fun (r : Bool) => (.bool r : Value)) known1; rw [known1, h2, h1] <;> rfl) (fin_ret (res_tmp rfl rfl))
  · refine ar_sk (d := (some 16)) (by show ((((numMul (-1) 1 false).1) == (-1)) == true) = false; rw [h1]; rfl) rfl ?_
    refine ao 17 rfl rfl (st_pkf' (b := ((numMul (-1) 1 false).1) == (-1)) (v := .bool false) h1 rfl rfl rfl ?_)
    refine ao 18 rfl rfl (st_move (v := .bool false) rfl rfl ?_)
    refine ar_sk (d := (some 19)) rfl rfl ?_
    refine ar_sk (d := (some 20)) rfl rfl ?_
    refine ao 21 rfl rfl (st_pkf (v := .bool false) rfl rfl rfl ?_)
    refine ao 22 rfl rfl (st_move (v := .bool false) rfl rfl ?_)
    refine ar_sk (d := (some 23)) rfl rfl ?_
    refine ao 24 rfl rfl (st_pkf (v := .bool false) rfl rfl rfl ?_)
    refine ao 0 rfl rfl (st_assign (v := .bool false) rfl rfl ?_)
    refine ar_nil ?_
    refine ac_ret ?_
    exact fin_eq (v := .bool false) (by show _ = (fun (r : Bool) => (.bool r : Value)) known1; rw [known1, h1] <;> rfl) (fin_ret (res_tmp rfl rfl))
end Go.Proofs.Ytbaihncnbejjbaa
