import Derived.Test.YtbaihncnbejjbaaK1
import Derived.Test.YtbaihncnbejjbaaPick
set_option linter.unusedVariables false
set_option linter.unusedSimpArgs false
namespace Go.Proofs.Ytbaihncnbejjbaa
open Go.RowKit

attribute [local irreducible] AC AR DWalk
def lawNumSigns_e0 (a : Int) (b : Int) (up : Bool) : Int × Bool := (numMul (Int.tmod (hNum a) 8388608) (Int.tmod (hNum b) 8388608) up)
def lawNumSigns_e1 (a : Int) (b : Int) (up : Bool) : Int × Bool := (numMul (w64 (0 - (Int.tmod (hNum a) 8388608))) (Int.tmod (hNum b) 8388608) (!up))
def lawNumSigns_e2 (a : Int) (b : Int) (up : Bool) : Int × Bool := (numMul (Int.tmod (hNum b) 8388608) (Int.tmod (hNum a) 8388608) up)
def lawNumSigns_e3 (a : Int) (b : Int) (up : Bool) : Int × Bool := (numDiv (Int.tmod (hNum a) 8388608) (Int.tmod (hNum b) 8388608) up)
def lawNumSigns_e4 (a : Int) (b : Int) (up : Bool) : Int × Bool := (numDiv (Int.tmod (hNum a) 8388608) (w64 (0 - (Int.tmod (hNum b) 8388608))) (!up))
def lawNumSigns (a : Int) (b : Int) (up : Bool) : Bool := (bif known1 then (bif (lawNumSigns_e0 a b up).2 then (bif (lawNumSigns_e1 a b up).2 then (bif (lawNumSigns_e2 a b up).2 then (bif ((lawNumSigns_e0 a b up).1) != (w64 (0 - ((lawNumSigns_e1 a b up).1))) then false else (bif ((lawNumSigns_e2 a b up).1) != ((lawNumSigns_e0 a b up).1) then false else (bif ((lawNumSigns_e3 a b up).2) == ((lawNumSigns_e4 a b up).2) then (bif (lawNumSigns_e3 a b up).2 then (bif ((lawNumSigns_e3 a b up).1) == (w64 (0 - ((lawNumSigns_e4 a b up).1))) then (bif (numMul (Int.tmod (hNum a) 8388608) 65536 up).2 then (bif (numDiv (Int.tmod (hNum a) 8388608) 65536 up).2 then (bif ((numMul (Int.tmod (hNum a) 8388608) 65536 up).1) == (Int.tmod (hNum a) 8388608) then ((numDiv (Int.tmod (hNum a) 8388608) 65536 up).1) == (Int.tmod (hNum a) 8388608) else false) else false) else false) else false) else (bif (numMul (Int.tmod (hNum a) 8388608) 65536 up).2 then (bif (numDiv (Int.tmod (hNum a) 8388608) 65536 up).2 then (bif ((numMul (Int.tmod (hNum a) 8388608) 65536 up).1) == (Int.tmod (hNum a) 8388608) then ((numDiv (Int.tmod (hNum a) 8388608) 65536 up).1) == (Int.tmod (hNum a) 8388608) else false) else false) else false)) else false))) else false) else false) else false) else false)
set_option maxRecDepth 100000 in
theorem c_lawNumSigns (a : Int) (b : Int) (up : Bool) (H : (lawNumSigns a b up) = true) : Gets Try.prog 3 #[.int .i64 a, .int .i64 b, .bool up] (.bool true) := by
  refine gets_fin Try.func3 rfl rfl rfl ?_
  refine ac_seq ?_
  refine ac_region_lit ?_
  refine ao 6 rfl rfl (st_assign (v := .bool false) rfl rfl ?_)
  refine ar_nil ?_
  refine ac_seq ?_
  refine ac_region_lit ?_
  refine ao 21 rfl rfl (st_move (v := .int .i64 a) rfl rfl ?_)
  refine ao 22 rfl rfl (st_cf (vs := [.int .i64 a]) (r := .int .i64 (hNum a)) (c_hNum a) Try.func36 rfl (by decide) rfl rfl rfl ?_)
  refine ao 23 rfl rfl (st_bi (u := .int .i64 (hNum a)) (v := .int .i64 8388608) (r := .int .i64 (Int.tmod (hNum a) 8388608)) rfl rfl rfl (bi_rem (by decide) rfl) ?_)
  refine ao 0 rfl rfl (st_assign (v := .int .i64 (Int.tmod (hNum a) 8388608)) rfl rfl ?_)
  refine ar_nil ?_
  refine ac_seq ?_
  refine ac_region_lit ?_
  refine ao 24 rfl rfl (st_move (v := .int .i64 b) rfl rfl ?_)
  refine ao 25 rfl rfl (st_cf (vs := [.int .i64 b]) (r := .int .i64 (hNum b)) (c_hNum b) Try.func36 rfl (by decide) rfl rfl rfl ?_)
  refine ao 26 rfl rfl (st_bi (u := .int .i64 (hNum b)) (v := .int .i64 8388608) (r := .int .i64 (Int.tmod (hNum b) 8388608)) rfl rfl rfl (bi_rem (by decide) rfl) ?_)
  refine ao 1 rfl rfl (st_assign (v := .int .i64 (Int.tmod (hNum b) 8388608)) rfl rfl ?_)
  refine ar_nil ?_
  refine ac_seq ?_
  refine ac_region_lit ?_
  refine ao 28 rfl rfl (st_move (v := .int .i64 (Int.tmod (hNum a) 8388608)) rfl rfl ?_)
  refine ao 29 rfl rfl (st_move (v := .int .i64 (Int.tmod (hNum b) 8388608)) rfl rfl ?_)
  refine ao 30 rfl rfl (st_move (v := .bool up) rfl rfl ?_)
  refine ao 31 rfl rfl (st_cf (vs := [.int .i64 (Int.tmod (hNum a) 8388608), .int .i64 (Int.tmod (hNum b) 8388608), .bool up]) (r := .tuple #[.int .i64 ((lawNumSigns_e0 a b up).1), .bool ((lawNumSigns_e0 a b up).2)]) (c_numMul (Int.tmod (hNum a) 8388608) (Int.tmod (hNum b) 8388608) up) Try.func37 rfl (by decide) rfl rfl rfl ?_)
  refine ao 27 rfl rfl (st_move (v := .tuple #[.int .i64 ((lawNumSigns_e0 a b up).1), .bool ((lawNumSigns_e0 a b up).2)]) rfl rfl ?_)
  refine ao 32 rfl rfl (st_ex (vs := [.int .i64 ((lawNumSigns_e0 a b up).1), .bool ((lawNumSigns_e0 a b up).2)]) (v := .int .i64 ((lawNumSigns_e0 a b up).1)) rfl rfl rfl ?_)
  refine ao 33 rfl rfl (st_ex (vs := [.int .i64 ((lawNumSigns_e0 a b up).1), .bool ((lawNumSigns_e0 a b up).2)]) (v := .bool ((lawNumSigns_e0 a b up).2)) rfl rfl rfl ?_)
  refine ao 7 rfl rfl (st_assign (v := .int .i64 ((lawNumSigns_e0 a b up).1)) rfl rfl ?_)
  refine ao 8 rfl rfl (st_assign (v := .bool ((lawNumSigns_e0 a b up).2)) rfl rfl ?_)
  refine ar_nil ?_
  refine ac_seq ?_
  refine ac_region_lit ?_
  refine ao 35 rfl rfl (st_move (v := .int .i64 (Int.tmod (hNum a) 8388608)) rfl rfl ?_)
  refine ao 36 rfl rfl (st_un (u := .int .i64 (Int.tmod (hNum a) 8388608)) (v := .int .i64 (w64 (0 - (Int.tmod (hNum a) 8388608)))) rfl rfl (un_neg rfl) ?_)
  refine ao 37 rfl rfl (st_move (v := .int .i64 (Int.tmod (hNum b) 8388608)) rfl rfl ?_)
  refine ao 38 rfl rfl (st_move (v := .bool up) rfl rfl ?_)
  refine ao 39 rfl rfl (st_un (u := .bool up) (v := .bool (!up)) rfl rfl (un_not rfl) ?_)
  refine ao 40 rfl rfl (st_cf (vs := [.int .i64 (w64 (0 - (Int.tmod (hNum a) 8388608))), .int .i64 (Int.tmod (hNum b) 8388608), .bool (!up)]) (r := .tuple #[.int .i64 ((lawNumSigns_e1 a b up).1), .bool ((lawNumSigns_e1 a b up).2)]) (c_numMul (w64 (0 - (Int.tmod (hNum a) 8388608))) (Int.tmod (hNum b) 8388608) (!up)) Try.func37 rfl (by decide) rfl rfl rfl ?_)
  refine ao 34 rfl rfl (st_move (v := .tuple #[.int .i64 ((lawNumSigns_e1 a b up).1), .bool ((lawNumSigns_e1 a b up).2)]) rfl rfl ?_)
  refine ao 41 rfl rfl (st_ex (vs := [.int .i64 ((lawNumSigns_e1 a b up).1), .bool ((lawNumSigns_e1 a b up).2)]) (v := .int .i64 ((lawNumSigns_e1 a b up).1)) rfl rfl rfl ?_)
  refine ao 42 rfl rfl (st_ex (vs := [.int .i64 ((lawNumSigns_e1 a b up).1), .bool ((lawNumSigns_e1 a b up).2)]) (v := .bool ((lawNumSigns_e1 a b up).2)) rfl rfl rfl ?_)
  refine ao 9 rfl rfl (st_assign (v := .int .i64 ((lawNumSigns_e1 a b up).1)) rfl rfl ?_)
  refine ao 10 rfl rfl (st_assign (v := .bool ((lawNumSigns_e1 a b up).2)) rfl rfl ?_)
  refine ar_nil ?_
  refine ac_seq ?_
  refine ac_region_lit ?_
  refine ao 44 rfl rfl (st_move (v := .int .i64 (Int.tmod (hNum b) 8388608)) rfl rfl ?_)
  refine ao 45 rfl rfl (st_move (v := .int .i64 (Int.tmod (hNum a) 8388608)) rfl rfl ?_)
  refine ao 46 rfl rfl (st_move (v := .bool up) rfl rfl ?_)
  refine ao 47 rfl rfl (st_cf (vs := [.int .i64 (Int.tmod (hNum b) 8388608), .int .i64 (Int.tmod (hNum a) 8388608), .bool up]) (r := .tuple #[.int .i64 ((lawNumSigns_e2 a b up).1), .bool ((lawNumSigns_e2 a b up).2)]) (c_numMul (Int.tmod (hNum b) 8388608) (Int.tmod (hNum a) 8388608) up) Try.func37 rfl (by decide) rfl rfl rfl ?_)
  refine ao 43 rfl rfl (st_move (v := .tuple #[.int .i64 ((lawNumSigns_e2 a b up).1), .bool ((lawNumSigns_e2 a b up).2)]) rfl rfl ?_)
  refine ao 48 rfl rfl (st_ex (vs := [.int .i64 ((lawNumSigns_e2 a b up).1), .bool ((lawNumSigns_e2 a b up).2)]) (v := .int .i64 ((lawNumSigns_e2 a b up).1)) rfl rfl rfl ?_)
  refine ao 49 rfl rfl (st_ex (vs := [.int .i64 ((lawNumSigns_e2 a b up).1), .bool ((lawNumSigns_e2 a b up).2)]) (v := .bool ((lawNumSigns_e2 a b up).2)) rfl rfl rfl ?_)
  refine ao 11 rfl rfl (st_assign (v := .int .i64 ((lawNumSigns_e2 a b up).1)) rfl rfl ?_)
  refine ao 12 rfl rfl (st_assign (v := .bool ((lawNumSigns_e2 a b up).2)) rfl rfl ?_)
  refine ar_nil ?_
  refine ac_seq ?_
  refine ac_seq ?_
  refine ac_region_lit ?_
  refine ao 50 rfl rfl (st_cf (vs := []) (r := .bool known1) c_known1 Try.func38 rfl (by decide) rfl rfl rfl ?_)
  refine ao 51 rfl rfl (st_un (u := .bool known1) (v := .bool (!known1)) rfl rfl (un_not rfl) ?_)
  refine ao 52 rfl rfl (st_move (v := .bool (!known1)) rfl rfl ?_)
  refine bool_split (known1) (fun h1 => ?_) (fun h1 => nomatch (show false = true from (show (lawNumSigns a b up) = _ from (eF h1 rfl)).symm.trans H))
  refine ar_gd (d := (some 53)) (by show ((!known1) == false) = true; rw [h1]; rfl) rfl (st_move (v := .bool ((lawNumSigns_e0 a b up).2)) rfl rfl ?_)
  refine ar_gd (d := (some 54)) (by show ((!known1) == false) = true; rw [h1]; rfl) rfl (st_un (u := .bool ((lawNumSigns_e0 a b up).2)) (v := .bool (!((lawNumSigns_e0 a b up).2))) rfl rfl (un_not rfl) ?_)
  refine ao 55 rfl rfl (st_pkf' (b := !known1) (v := .bool (!((lawNumSigns_e0 a b up).2))) (by rw [h1]; rfl) rfl rfl rfl ?_)
  refine ao 56 rfl rfl (st_move (v := .bool (!((lawNumSigns_e0 a b up).2))) rfl rfl ?_)
  refine bool_split ((lawNumSigns_e0 a b up).2) (fun h2 => ?_) (fun h2 => nomatch (show false = true from (show (lawNumSigns a b up) = _ from (eT h1 (eF h2 rfl))).symm.trans H))
  refine ar_gd (d := (some 57)) (by show ((!((lawNumSigns_e0 a b up).2)) == false) = true; rw [h2]; rfl) rfl (st_move (v := .bool ((lawNumSigns_e1 a b up).2)) rfl rfl ?_)
  refine ar_gd (d := (some 58)) (by show ((!((lawNumSigns_e0 a b up).2)) == false) = true; rw [h2]; rfl) rfl (st_un (u := .bool ((lawNumSigns_e1 a b up).2)) (v := .bool (!((lawNumSigns_e1 a b up).2))) rfl rfl (un_not rfl) ?_)
  refine ao 59 rfl rfl (st_pkf' (b := !((lawNumSigns_e0 a b up).2)) (v := .bool (!((lawNumSigns_e1 a b up).2))) (by rw [h2]; rfl) rfl rfl rfl ?_)
  refine ao 60 rfl rfl (st_move (v := .bool (!((lawNumSigns_e1 a b up).2))) rfl rfl ?_)
  refine bool_split ((lawNumSigns_e1 a b up).2) (fun h3 => ?_) (fun h3 => nomatch (show false = true from (show (lawNumSigns a b up) = _ from (eT h1 (eT h2 (eF h3 rfl)))).symm.trans H))
  refine ar_gd (d := (some 61)) (by show ((!((lawNumSigns_e1 a b up).2)) == false) = true; rw [h3]; rfl) rfl (st_move (v := .bool ((lawNumSigns_e2 a b up).2)) rfl rfl ?_)
  refine ar_gd (d := (some 62)) (by show ((!((lawNumSigns_e1 a b up).2)) == false) = true; rw [h3]; rfl) rfl (st_un (u := .bool ((lawNumSigns_e2 a b up).2)) (v := .bool (!((lawNumSigns_e2 a b up).2))) rfl rfl (un_not rfl) ?_)
  refine ao 63 rfl rfl (st_pkf' (b := !((lawNumSigns_e1 a b up).2)) (v := .bool (!((lawNumSigns_e2 a b up).2))) (by rw [h3]; rfl) rfl rfl rfl ?_)
  refine ao 64 rfl rfl (st_move (v := .bool (!((lawNumSigns_e2 a b up).2))) rfl rfl ?_)
  refine bool_split ((lawNumSigns_e2 a b up).2) (fun h4 => ?_) (fun h4 => nomatch (show false = true from (show (lawNumSigns a b up) = _ from (eT h1 (eT h2 (eT h3 (eF h4 rfl))))).symm.trans H))
  refine ar_gd (d := (some 65)) (by show ((!((lawNumSigns_e2 a b up).2)) == false) = true; rw [h4]; rfl) rfl (st_move (v := .int .i64 ((lawNumSigns_e0 a b up).1)) rfl rfl ?_)
  refine ar_gd (d := (some 66)) (by show ((!((lawNumSigns_e2 a b up).2)) == false) = true; rw [h4]; rfl) rfl (st_move (v := .int .i64 ((lawNumSigns_e1 a b up).1)) rfl rfl ?_)
  refine ar_gd (d := (some 67)) (by show ((!((lawNumSigns_e2 a b up).2)) == false) = true; rw [h4]; rfl) rfl (st_un (u := .int .i64 ((lawNumSigns_e1 a b up).1)) (v := .int .i64 (w64 (0 - ((lawNumSigns_e1 a b up).1)))) rfl rfl (un_neg rfl) ?_)
  refine ar_gd (d := (some 68)) (by show ((!((lawNumSigns_e2 a b up).2)) == false) = true; rw [h4]; rfl) rfl (st_bi (u := .int .i64 ((lawNumSigns_e0 a b up).1)) (v := .int .i64 (w64 (0 - ((lawNumSigns_e1 a b up).1)))) (r := .bool (((lawNumSigns_e0 a b up).1) != (w64 (0 - ((lawNumSigns_e1 a b up).1))))) rfl rfl rfl (bi_neq rfl) ?_)
  refine ao 69 rfl rfl (st_pkf' (b := !((lawNumSigns_e2 a b up).2)) (v := .bool (((lawNumSigns_e0 a b up).1) != (w64 (0 - ((lawNumSigns_e1 a b up).1))))) (by rw [h4]; rfl) rfl rfl rfl ?_)
  refine ao 70 rfl rfl (st_move (v := .bool (((lawNumSigns_e0 a b up).1) != (w64 (0 - ((lawNumSigns_e1 a b up).1))))) rfl rfl ?_)
  refine bool_split (((lawNumSigns_e0 a b up).1) != (w64 (0 - ((lawNumSigns_e1 a b up).1)))) (fun h5 => nomatch (show false = true from (show (lawNumSigns a b up) = _ from (eT h1 (eT h2 (eT h3 (eT h4 (eT h5 rfl)))))).symm.trans H)) (fun h5 => ?_)
  refine ar_gd (d := (some 71)) (by show ((((lawNumSigns_e0 a b up).1) != (w64 (0 - ((lawNumSigns_e1 a b up).1)))) == false) = true; rw [h5]; rfl) rfl (st_move (v := .int .i64 ((lawNumSigns_e2 a b up).1)) rfl rfl ?_)
  refine ar_gd (d := (some 72)) (by show ((((lawNumSigns_e0 a b up).1) != (w64 (0 - ((lawNumSigns_e1 a b up).1)))) == false) = true; rw [h5]; rfl) rfl (st_move (v := .int .i64 ((lawNumSigns_e0 a b up).1)) rfl rfl ?_)
  refine ar_gd (d := (some 73)) (by show ((((lawNumSigns_e0 a b up).1) != (w64 (0 - ((lawNumSigns_e1 a b up).1)))) == false) = true; rw [h5]; rfl) rfl (st_bi (u := .int .i64 ((lawNumSigns_e2 a b up).1)) (v := .int .i64 ((lawNumSigns_e0 a b up).1)) (r := .bool (((lawNumSigns_e2 a b up).1) != ((lawNumSigns_e0 a b up).1))) rfl rfl rfl (bi_neq rfl) ?_)
  refine ao 74 rfl rfl (st_pkf' (b := ((lawNumSigns_e0 a b up).1) != (w64 (0 - ((lawNumSigns_e1 a b up).1)))) (v := .bool (((lawNumSigns_e2 a b up).1) != ((lawNumSigns_e0 a b up).1))) h5 rfl rfl rfl ?_)
  refine ar_nil ?_
  refine bool_split (((lawNumSigns_e2 a b up).1) != ((lawNumSigns_e0 a b up).1)) (fun h6 => nomatch (show false = true from (show (lawNumSigns a b up) = _ from (eT h1 (eT h2 (eT h3 (eT h4 (eF h5 (eT h6 rfl))))))).symm.trans H)) (fun h6 => ?_)
  refine ac_else' (b := ((lawNumSigns_e2 a b up).1) != ((lawNumSigns_e0 a b up).1)) h6 rfl ?_
  refine ac_skip ?_
  refine ac_seq ?_
  refine ac_region_lit ?_
  refine ao 76 rfl rfl (st_move (v := .int .i64 (Int.tmod (hNum a) 8388608)) rfl rfl ?_)
  refine ao 77 rfl rfl (st_move (v := .int .i64 (Int.tmod (hNum b) 8388608)) rfl rfl ?_)
  refine ao 78 rfl rfl (st_move (v := .bool up) rfl rfl ?_)
  refine ao 79 rfl rfl (st_cf (vs := [.int .i64 (Int.tmod (hNum a) 8388608), .int .i64 (Int.tmod (hNum b) 8388608), .bool up]) (r := .tuple #[.int .i64 ((lawNumSigns_e3 a b up).1), .bool ((lawNumSigns_e3 a b up).2)]) (c_numDiv (Int.tmod (hNum a) 8388608) (Int.tmod (hNum b) 8388608) up) Try.func39 rfl (by decide) rfl rfl rfl ?_)
  refine ao 75 rfl rfl (st_move (v := .tuple #[.int .i64 ((lawNumSigns_e3 a b up).1), .bool ((lawNumSigns_e3 a b up).2)]) rfl rfl ?_)
  refine ao 80 rfl rfl (st_ex (vs := [.int .i64 ((lawNumSigns_e3 a b up).1), .bool ((lawNumSigns_e3 a b up).2)]) (v := .int .i64 ((lawNumSigns_e3 a b up).1)) rfl rfl rfl ?_)
  refine ao 81 rfl rfl (st_ex (vs := [.int .i64 ((lawNumSigns_e3 a b up).1), .bool ((lawNumSigns_e3 a b up).2)]) (v := .bool ((lawNumSigns_e3 a b up).2)) rfl rfl rfl ?_)
  refine ao 13 rfl rfl (st_assign (v := .int .i64 ((lawNumSigns_e3 a b up).1)) rfl rfl ?_)
  refine ao 14 rfl rfl (st_assign (v := .bool ((lawNumSigns_e3 a b up).2)) rfl rfl ?_)
  refine ar_nil ?_
  refine ac_seq ?_
  refine ac_region_lit ?_
  refine ao 83 rfl rfl (st_move (v := .int .i64 (Int.tmod (hNum a) 8388608)) rfl rfl ?_)
  refine ao 84 rfl rfl (st_move (v := .int .i64 (Int.tmod (hNum b) 8388608)) rfl rfl ?_)
  refine ao 85 rfl rfl (st_un (u := .int .i64 (Int.tmod (hNum b) 8388608)) (v := .int .i64 (w64 (0 - (Int.tmod (hNum b) 8388608)))) rfl rfl (un_neg rfl) ?_)
  refine ao 86 rfl rfl (st_move (v := .bool up) rfl rfl ?_)
  refine ao 87 rfl rfl (st_un (u := .bool up) (v := .bool (!up)) rfl rfl (un_not rfl) ?_)
  refine ao 88 rfl rfl (st_cf (vs := [.int .i64 (Int.tmod (hNum a) 8388608), .int .i64 (w64 (0 - (Int.tmod (hNum b) 8388608))), .bool (!up)]) (r := .tuple #[.int .i64 ((lawNumSigns_e4 a b up).1), .bool ((lawNumSigns_e4 a b up).2)]) (c_numDiv (Int.tmod (hNum a) 8388608) (w64 (0 - (Int.tmod (hNum b) 8388608))) (!up)) Try.func39 rfl (by decide) rfl rfl rfl ?_)
  refine ao 82 rfl rfl (st_move (v := .tuple #[.int .i64 ((lawNumSigns_e4 a b up).1), .bool ((lawNumSigns_e4 a b up).2)]) rfl rfl ?_)
  refine ao 89 rfl rfl (st_ex (vs := [.int .i64 ((lawNumSigns_e4 a b up).1), .bool ((lawNumSigns_e4 a b up).2)]) (v := .int .i64 ((lawNumSigns_e4 a b up).1)) rfl rfl rfl ?_)
  refine ao 90 rfl rfl (st_ex (vs := [.int .i64 ((lawNumSigns_e4 a b up).1), .bool ((lawNumSigns_e4 a b up).2)]) (v := .bool ((lawNumSigns_e4 a b up).2)) rfl rfl rfl ?_)
  refine ao 15 rfl rfl (st_assign (v := .int .i64 ((lawNumSigns_e4 a b up).1)) rfl rfl ?_)
  refine ao 16 rfl rfl (st_assign (v := .bool ((lawNumSigns_e4 a b up).2)) rfl rfl ?_)
  refine ar_nil ?_
  refine ac_seq ?_
  refine ac_region_lit ?_
  refine ao 92 rfl rfl (st_move (v := .int .i64 (Int.tmod (hNum a) 8388608)) rfl rfl ?_)
  refine ao 93 rfl rfl (st_move (v := .bool up) rfl rfl ?_)
  refine ao 94 rfl rfl (st_cf (vs := [.int .i64 (Int.tmod (hNum a) 8388608), .int .i64 65536, .bool up]) (r := .tuple #[.int .i64 ((numMul (Int.tmod (hNum a) 8388608) 65536 up).1), .bool ((numMul (Int.tmod (hNum a) 8388608) 65536 up).2)]) (c_numMul (Int.tmod (hNum a) 8388608) 65536 up) Try.func37 rfl (by decide) rfl rfl rfl ?_)
  refine ao 91 rfl rfl (st_move (v := .tuple #[.int .i64 ((numMul (Int.tmod (hNum a) 8388608) 65536 up).1), .bool ((numMul (Int.tmod (hNum a) 8388608) 65536 up).2)]) rfl rfl ?_)
  refine ao 95 rfl rfl (st_ex (vs := [.int .i64 ((numMul (Int.tmod (hNum a) 8388608) 65536 up).1), .bool ((numMul (Int.tmod (hNum a) 8388608) 65536 up).2)]) (v := .int .i64 ((numMul (Int.tmod (hNum a) 8388608) 65536 up).1)) rfl rfl rfl ?_)
  refine ao 96 rfl rfl (st_ex (vs := [.int .i64 ((numMul (Int.tmod (hNum a) 8388608) 65536 up).1), .bool ((numMul (Int.tmod (hNum a) 8388608) 65536 up).2)]) (v := .bool ((numMul (Int.tmod (hNum a) 8388608) 65536 up).2)) rfl rfl rfl ?_)
  refine ao 17 rfl rfl (st_assign (v := .int .i64 ((numMul (Int.tmod (hNum a) 8388608) 65536 up).1)) rfl rfl ?_)
  refine ao 18 rfl rfl (st_assign (v := .bool ((numMul (Int.tmod (hNum a) 8388608) 65536 up).2)) rfl rfl ?_)
  refine ar_nil ?_
  refine ac_seq ?_
  refine ac_region_lit ?_
  refine ao 98 rfl rfl (st_move (v := .int .i64 (Int.tmod (hNum a) 8388608)) rfl rfl ?_)
  refine ao 99 rfl rfl (st_move (v := .bool up) rfl rfl ?_)
  refine ao 100 rfl rfl (st_cf (vs := [.int .i64 (Int.tmod (hNum a) 8388608), .int .i64 65536, .bool up]) (r := .tuple #[.int .i64 ((numDiv (Int.tmod (hNum a) 8388608) 65536 up).1), .bool ((numDiv (Int.tmod (hNum a) 8388608) 65536 up).2)]) (c_numDiv (Int.tmod (hNum a) 8388608) 65536 up) Try.func39 rfl (by decide) rfl rfl rfl ?_)
  refine ao 97 rfl rfl (st_move (v := .tuple #[.int .i64 ((numDiv (Int.tmod (hNum a) 8388608) 65536 up).1), .bool ((numDiv (Int.tmod (hNum a) 8388608) 65536 up).2)]) rfl rfl ?_)
  refine ao 101 rfl rfl (st_ex (vs := [.int .i64 ((numDiv (Int.tmod (hNum a) 8388608) 65536 up).1), .bool ((numDiv (Int.tmod (hNum a) 8388608) 65536 up).2)]) (v := .int .i64 ((numDiv (Int.tmod (hNum a) 8388608) 65536 up).1)) rfl rfl rfl ?_)
  refine ao 102 rfl rfl (st_ex (vs := [.int .i64 ((numDiv (Int.tmod (hNum a) 8388608) 65536 up).1), .bool ((numDiv (Int.tmod (hNum a) 8388608) 65536 up).2)]) (v := .bool ((numDiv (Int.tmod (hNum a) 8388608) 65536 up).2)) rfl rfl rfl ?_)
  refine ao 19 rfl rfl (st_assign (v := .int .i64 ((numDiv (Int.tmod (hNum a) 8388608) 65536 up).1)) rfl rfl ?_)
  refine ao 20 rfl rfl (st_assign (v := .bool ((numDiv (Int.tmod (hNum a) 8388608) 65536 up).2)) rfl rfl ?_)
  refine ar_nil ?_
  refine ac_seq ?_
  refine ac_region_lit ?_
  refine ao 103 rfl rfl (st_move (v := .bool ((lawNumSigns_e3 a b up).2)) rfl rfl ?_)
  refine ao 104 rfl rfl (st_move (v := .bool ((lawNumSigns_e4 a b up).2)) rfl rfl ?_)
  refine ao 105 rfl rfl (st_bi (u := .bool ((lawNumSigns_e3 a b up).2)) (v := .bool ((lawNumSigns_e4 a b up).2)) (r := .bool (((lawNumSigns_e3 a b up).2) == ((lawNumSigns_e4 a b up).2))) rfl rfl rfl (bb_eql Try.underlying4 rfl) ?_)
  refine ao 106 rfl rfl (st_move (v := .bool (((lawNumSigns_e3 a b up).2) == ((lawNumSigns_e4 a b up).2))) rfl rfl ?_)
  refine bool_split (((lawNumSigns_e3 a b up).2) == ((lawNumSigns_e4 a b up).2)) (fun h7 => ?_) (fun h7 => nomatch (show false = true from (show (lawNumSigns a b up) = _ from (eT h1 (eT h2 (eT h3 (eT h4 (eF h5 (eF h6 (eF h7 rfl)))))))).symm.trans H))
  refine ar_gd (d := (some 107)) (by show ((((lawNumSigns_e3 a b up).2) == ((lawNumSigns_e4 a b up).2)) == true) = true; rw [h7]; rfl) rfl (st_move (v := .bool ((lawNumSigns_e3 a b up).2)) rfl rfl ?_)
  refine ar_gd (d := (some 108)) (by show ((((lawNumSigns_e3 a b up).2) == ((lawNumSigns_e4 a b up).2)) == true) = true; rw [h7]; rfl) rfl (st_un (u := .bool ((lawNumSigns_e3 a b up).2)) (v := .bool (!((lawNumSigns_e3 a b up).2))) rfl rfl (un_not rfl) ?_)
  refine ar_gd (d := (some 109)) (by show ((((lawNumSigns_e3 a b up).2) == ((lawNumSigns_e4 a b up).2)) == true) = true; rw [h7]; rfl) rfl (st_move (v := .bool (!((lawNumSigns_e3 a b up).2))) rfl rfl ?_)
  refine bool_split ((lawNumSigns_e3 a b up).2) (fun h8 => ?_) (fun h8 => ?_)
  · refine ar_gd (d := (some 110)) (by show ((!((lawNumSigns_e3 a b up).2)) == false) = true; rw [h8]; rfl) rfl (st_move (v := .int .i64 ((lawNumSigns_e3 a b up).1)) rfl rfl ?_)
    refine ar_gd (d := (some 111)) (by show ((!((lawNumSigns_e3 a b up).2)) == false) = true; rw [h8]; rfl) rfl (st_move (v := .int .i64 ((lawNumSigns_e4 a b up).1)) rfl rfl ?_)
    refine ar_gd (d := (some 112)) (by show ((!((lawNumSigns_e3 a b up).2)) == false) = true; rw [h8]; rfl) rfl (st_un (u := .int .i64 ((lawNumSigns_e4 a b up).1)) (v := .int .i64 (w64 (0 - ((lawNumSigns_e4 a b up).1)))) rfl rfl (un_neg rfl) ?_)
    refine ar_gd (d := (some 113)) (by show ((!((lawNumSigns_e3 a b up).2)) == false) = true; rw [h8]; rfl) rfl (st_bi (u := .int .i64 ((lawNumSigns_e3 a b up).1)) (v := .int .i64 (w64 (0 - ((lawNumSigns_e4 a b up).1)))) (r := .bool (((lawNumSigns_e3 a b up).1) == (w64 (0 - ((lawNumSigns_e4 a b up).1))))) rfl rfl rfl (bi_eql rfl) ?_)
    refine ar_gd (d := (some 114)) (by show ((((lawNumSigns_e3 a b up).2) == ((lawNumSigns_e4 a b up).2)) == true) = true; rw [h7]; rfl) rfl (st_pkf' (b := !((lawNumSigns_e3 a b up).2)) (v := .bool (((lawNumSigns_e3 a b up).1) == (w64 (0 - ((lawNumSigns_e4 a b up).1))))) (by rw [h8]; rfl) rfl rfl rfl ?_)
    refine ao 115 rfl rfl (st_pkt' (b := ((lawNumSigns_e3 a b up).2) == ((lawNumSigns_e4 a b up).2)) (v := .bool (((lawNumSigns_e3 a b up).1) == (w64 (0 - ((lawNumSigns_e4 a b up).1))))) h7 rfl rfl rfl ?_)
    refine ao 116 rfl rfl (st_move (v := .bool (((lawNumSigns_e3 a b up).1) == (w64 (0 - ((lawNumSigns_e4 a b up).1))))) rfl rfl ?_)
    refine bool_split (((lawNumSigns_e3 a b up).1) == (w64 (0 - ((lawNumSigns_e4 a b up).1)))) (fun h9 => ?_) (fun h9 => nomatch (show false = true from (show (lawNumSigns a b up) = _ from (eT h1 (eT h2 (eT h3 (eT h4 (eF h5 (eF h6 (eT h7 (eT h8 (eF h9 rfl)))))))))).symm.trans H))
    refine ar_gd (d := (some 117)) (by show ((((lawNumSigns_e3 a b up).1) == (w64 (0 - ((lawNumSigns_e4 a b up).1)))) == true) = true; rw [h9]; rfl) rfl (st_move (v := .bool ((numMul (Int.tmod (hNum a) 8388608) 65536 up).2)) rfl rfl ?_)
    refine ao 118 rfl rfl (st_pkt' (b := ((lawNumSigns_e3 a b up).1) == (w64 (0 - ((lawNumSigns_e4 a b up).1)))) (v := .bool ((numMul (Int.tmod (hNum a) 8388608) 65536 up).2)) h9 rfl rfl rfl ?_)
    refine ao 119 rfl rfl (st_move (v := .bool ((numMul (Int.tmod (hNum a) 8388608) 65536 up).2)) rfl rfl ?_)
    refine bool_split ((numMul (Int.tmod (hNum a) 8388608) 65536 up).2) (fun h10 => ?_) (fun h10 => nomatch (show false = true from (show (lawNumSigns a b up) = _ from (eT h1 (eT h2 (eT h3 (eT h4 (eF h5 (eF h6 (eT h7 (eT h8 (eT h9 (eF h10 rfl))))))))))).symm.trans H))
    refine ar_gd (d := (some 120)) (by show (((numMul (Int.tmod (hNum a) 8388608) 65536 up).2) == true) = true; rw [h10]; rfl) rfl (st_move (v := .bool ((numDiv (Int.tmod (hNum a) 8388608) 65536 up).2)) rfl rfl ?_)
    refine ao 121 rfl rfl (st_pkt' (b := (numMul (Int.tmod (hNum a) 8388608) 65536 up).2) (v := .bool ((numDiv (Int.tmod (hNum a) 8388608) 65536 up).2)) h10 rfl rfl rfl ?_)
    refine ao 122 rfl rfl (st_move (v := .bool ((numDiv (Int.tmod (hNum a) 8388608) 65536 up).2)) rfl rfl ?_)
    refine bool_split ((numDiv (Int.tmod (hNum a) 8388608) 65536 up).2) (fun h11 => ?_) (fun h11 => nomatch (show false = true from (show (lawNumSigns a b up) = _ from (eT h1 (eT h2 (eT h3 (eT h4 (eF h5 (eF h6 (eT h7 (eT h8 (eT h9 (eT h10 (eF h11 rfl)))))))))))).symm.trans H))
    refine ar_gd (d := (some 123)) (by show (((numDiv (Int.tmod (hNum a) 8388608) 65536 up).2) == true) = true; rw [h11]; rfl) rfl (st_move (v := .int .i64 ((numMul (Int.tmod (hNum a) 8388608) 65536 up).1)) rfl rfl ?_)
    refine ar_gd (d := (some 124)) (by show (((numDiv (Int.tmod (hNum a) 8388608) 65536 up).2) == true) = true; rw [h11]; rfl) rfl (st_move (v := .int .i64 (Int.tmod (hNum a) 8388608)) rfl rfl ?_)
    refine ar_gd (d := (some 125)) (by show (((numDiv (Int.tmod (hNum a) 8388608) 65536 up).2) == true) = true; rw [h11]; rfl) rfl (st_bi (u := .int .i64 ((numMul (Int.tmod (hNum a) 8388608) 65536 up).1)) (v := .int .i64 (Int.tmod (hNum a) 8388608)) (r := .bool (((numMul (Int.tmod (hNum a) 8388608) 65536 up).1) == (Int.tmod (hNum a) 8388608))) rfl rfl rfl (bi_eql rfl) ?_)
    refine ao 126 rfl rfl (st_pkt' (b := (numDiv (Int.tmod (hNum a) 8388608) 65536 up).2) (v := .bool (((numMul (Int.tmod (hNum a) 8388608) 65536 up).1) == (Int.tmod (hNum a) 8388608))) h11 rfl rfl rfl ?_)
    refine ao 127 rfl rfl (st_move (v := .bool (((numMul (Int.tmod (hNum a) 8388608) 65536 up).1) == (Int.tmod (hNum a) 8388608))) rfl rfl ?_)
    refine bool_split (((numMul (Int.tmod (hNum a) 8388608) 65536 up).1) == (Int.tmod (hNum a) 8388608)) (fun h12 => ?_) (fun h12 => nomatch (show false = true from (show (lawNumSigns a b up) = _ from (eT h1 (eT h2 (eT h3 (eT h4 (eF h5 (eF h6 (eT h7 (eT h8 (eT h9 (eT h10 (eT h11 (eF h12 rfl))))))))))))).symm.trans H))
    refine ar_gd (d := (some 128)) (by show ((((numMul (Int.tmod (hNum a) 8388608) 65536 up).1) == (Int.tmod (hNum a) 8388608)) == true) = true; rw [h12]; rfl) rfl (st_move (v := .int .i64 ((numDiv (Int.tmod (hNum a) 8388608) 65536 up).1)) rfl rfl ?_)
    refine ar_gd (d := (some 129)) (by show ((((numMul (Int.tmod (hNum a) 8388608) 65536 up).1) == (Int.tmod (hNum a) 8388608)) == true) = true; rw [h12]; rfl) rfl (st_move (v := .int .i64 (Int.tmod (hNum a) 8388608)) rfl rfl ?_)
    refine ar_gd (d := (some 130)) (by show ((((numMul (Int.tmod (hNum a) 8388608) 65536 up).1) == (Int.tmod (hNum a) 8388608)) == true) = true; rw [h12]; rfl) rfl (st_bi (u := .int .i64 ((numDiv (Int.tmod (hNum a) 8388608) 65536 up).1)) (v := .int .i64 (Int.tmod (hNum a) 8388608)) (r := .bool (((numDiv (Int.tmod (hNum a) 8388608) 65536 up).1) == (Int.tmod (hNum a) 8388608))) rfl rfl rfl (bi_eql rfl) ?_)
    refine ao 131 rfl rfl (st_pkt' (b := ((numMul (Int.tmod (hNum a) 8388608) 65536 up).1) == (Int.tmod (hNum a) 8388608)) (v := .bool (((numDiv (Int.tmod (hNum a) 8388608) 65536 up).1) == (Int.tmod (hNum a) 8388608))) h12 rfl rfl rfl ?_)
    refine ao 6 rfl rfl (st_assign (v := .bool (((numDiv (Int.tmod (hNum a) 8388608) 65536 up).1) == (Int.tmod (hNum a) 8388608))) rfl rfl ?_)
    refine ar_nil ?_
    refine ac_ret ?_
    exact fin_eq (v := .bool (((numDiv (Int.tmod (hNum a) 8388608) 65536 up).1) == (Int.tmod (hNum a) 8388608))) (congrArg Value.bool (show (((numDiv (Int.tmod (hNum a) 8388608) 65536 up).1) == (Int.tmod (hNum a) 8388608)) = true from (show (lawNumSigns a b up) = _ from (eT h1 (eT h2 (eT h3 (eT h4 (eF h5 (eF h6 (eT h7 (eT h8 (eT h9 (eT h10 (eT h11 (eT h12 rfl))))))))))))).symm.trans H)) (fin_ret (res_tmp rfl rfl))
  · refine ar_sk (d := (some 110)) (by show ((!((lawNumSigns_e3 a b up).2)) == false) = false; rw [h8]; rfl) rfl ?_
    refine ar_sk (d := (some 111)) (by show ((!((lawNumSigns_e3 a b up).2)) == false) = false; rw [h8]; rfl) rfl ?_
    refine ar_sk (d := (some 112)) (by show ((!((lawNumSigns_e3 a b up).2)) == false) = false; rw [h8]; rfl) rfl ?_
    refine ar_sk (d := (some 113)) (by show ((!((lawNumSigns_e3 a b up).2)) == false) = false; rw [h8]; rfl) rfl ?_
    refine ar_gd (d := (some 114)) (by show ((((lawNumSigns_e3 a b up).2) == ((lawNumSigns_e4 a b up).2)) == true) = true; rw [h7]; rfl) rfl (st_pkt' (b := !((lawNumSigns_e3 a b up).2)) (v := .bool true) (by rw [h8]; rfl) rfl rfl rfl ?_)
    refine ao 115 rfl rfl (st_pkt' (b := ((lawNumSigns_e3 a b up).2) == ((lawNumSigns_e4 a b up).2)) (v := .bool true) h7 rfl rfl rfl ?_)
    refine ao 116 rfl rfl (st_move (v := .bool true) rfl rfl ?_)
    refine ar_gd (d := (some 117)) rfl rfl (st_move (v := .bool ((numMul (Int.tmod (hNum a) 8388608) 65536 up).2)) rfl rfl ?_)
    refine ao 118 rfl rfl (st_pkt (v := .bool ((numMul (Int.tmod (hNum a) 8388608) 65536 up).2)) rfl rfl rfl ?_)
    refine ao 119 rfl rfl (st_move (v := .bool ((numMul (Int.tmod (hNum a) 8388608) 65536 up).2)) rfl rfl ?_)
    refine bool_split ((numMul (Int.tmod (hNum a) 8388608) 65536 up).2) (fun h9 => ?_) (fun h9 => nomatch (show false = true from (show (lawNumSigns a b up) = _ from (eT h1 (eT h2 (eT h3 (eT h4 (eF h5 (eF h6 (eT h7 (eF h8 (eF h9 rfl)))))))))).symm.trans H))
    refine ar_gd (d := (some 120)) (by show (((numMul (Int.tmod (hNum a) 8388608) 65536 up).2) == true) = true; rw [h9]; rfl) rfl (st_move (v := .bool ((numDiv (Int.tmod (hNum a) 8388608) 65536 up).2)) rfl rfl ?_)
    refine ao 121 rfl rfl (st_pkt' (b := (numMul (Int.tmod (hNum a) 8388608) 65536 up).2) (v := .bool ((numDiv (Int.tmod (hNum a) 8388608) 65536 up).2)) h9 rfl rfl rfl ?_)
    refine ao 122 rfl rfl (st_move (v := .bool ((numDiv (Int.tmod (hNum a) 8388608) 65536 up).2)) rfl rfl ?_)
    refine bool_split ((numDiv (Int.tmod (hNum a) 8388608) 65536 up).2) (fun h10 => ?_) (fun h10 => nomatch (show false = true from (show (lawNumSigns a b up) = _ from (eT h1 (eT h2 (eT h3 (eT h4 (eF h5 (eF h6 (eT h7 (eF h8 (eT h9 (eF h10 rfl))))))))))).symm.trans H))
    refine ar_gd (d := (some 123)) (by show (((numDiv (Int.tmod (hNum a) 8388608) 65536 up).2) == true) = true; rw [h10]; rfl) rfl (st_move (v := .int .i64 ((numMul (Int.tmod (hNum a) 8388608) 65536 up).1)) rfl rfl ?_)
    refine ar_gd (d := (some 124)) (by show (((numDiv (Int.tmod (hNum a) 8388608) 65536 up).2) == true) = true; rw [h10]; rfl) rfl (st_move (v := .int .i64 (Int.tmod (hNum a) 8388608)) rfl rfl ?_)
    refine ar_gd (d := (some 125)) (by show (((numDiv (Int.tmod (hNum a) 8388608) 65536 up).2) == true) = true; rw [h10]; rfl) rfl (st_bi (u := .int .i64 ((numMul (Int.tmod (hNum a) 8388608) 65536 up).1)) (v := .int .i64 (Int.tmod (hNum a) 8388608)) (r := .bool (((numMul (Int.tmod (hNum a) 8388608) 65536 up).1) == (Int.tmod (hNum a) 8388608))) rfl rfl rfl (bi_eql rfl) ?_)
    refine ao 126 rfl rfl (st_pkt' (b := (numDiv (Int.tmod (hNum a) 8388608) 65536 up).2) (v := .bool (((numMul (Int.tmod (hNum a) 8388608) 65536 up).1) == (Int.tmod (hNum a) 8388608))) h10 rfl rfl rfl ?_)
    refine ao 127 rfl rfl (st_move (v := .bool (((numMul (Int.tmod (hNum a) 8388608) 65536 up).1) == (Int.tmod (hNum a) 8388608))) rfl rfl ?_)
    refine bool_split (((numMul (Int.tmod (hNum a) 8388608) 65536 up).1) == (Int.tmod (hNum a) 8388608)) (fun h11 => ?_) (fun h11 => nomatch (show false = true from (show (lawNumSigns a b up) = _ from (eT h1 (eT h2 (eT h3 (eT h4 (eF h5 (eF h6 (eT h7 (eF h8 (eT h9 (eT h10 (eF h11 rfl)))))))))))).symm.trans H))
    refine ar_gd (d := (some 128)) (by show ((((numMul (Int.tmod (hNum a) 8388608) 65536 up).1) == (Int.tmod (hNum a) 8388608)) == true) = true; rw [h11]; rfl) rfl (st_move (v := .int .i64 ((numDiv (Int.tmod (hNum a) 8388608) 65536 up).1)) rfl rfl ?_)
    refine ar_gd (d := (some 129)) (by show ((((numMul (Int.tmod (hNum a) 8388608) 65536 up).1) == (Int.tmod (hNum a) 8388608)) == true) = true; rw [h11]; rfl) rfl (st_move (v := .int .i64 (Int.tmod (hNum a) 8388608)) rfl rfl ?_)
    refine ar_gd (d := (some 130)) (by show ((((numMul (Int.tmod (hNum a) 8388608) 65536 up).1) == (Int.tmod (hNum a) 8388608)) == true) = true; rw [h11]; rfl) rfl (st_bi (u := .int .i64 ((numDiv (Int.tmod (hNum a) 8388608) 65536 up).1)) (v := .int .i64 (Int.tmod (hNum a) 8388608)) (r := .bool (((numDiv (Int.tmod (hNum a) 8388608) 65536 up).1) == (Int.tmod (hNum a) 8388608))) rfl rfl rfl (bi_eql rfl) ?_)
    refine ao 131 rfl rfl (st_pkt' (b := ((numMul (Int.tmod (hNum a) 8388608) 65536 up).1) == (Int.tmod (hNum a) 8388608)) (v := .bool (((numDiv (Int.tmod (hNum a) 8388608) 65536 up).1) == (Int.tmod (hNum a) 8388608))) h11 rfl rfl rfl ?_)
    refine ao 6 rfl rfl (st_assign (v := .bool (((numDiv (Int.tmod (hNum a) 8388608) 65536 up).1) == (Int.tmod (hNum a) 8388608))) rfl rfl ?_)
    refine ar_nil ?_
    refine ac_ret ?_
    exact fin_eq (v := .bool (((numDiv (Int.tmod (hNum a) 8388608) 65536 up).1) == (Int.tmod (hNum a) 8388608))) (congrArg Value.bool (show (((numDiv (Int.tmod (hNum a) 8388608) 65536 up).1) == (Int.tmod (hNum a) 8388608)) = true from (show (lawNumSigns a b up) = _ from (eT h1 (eT h2 (eT h3 (eT h4 (eF h5 (eF h6 (eT h7 (eF h8 (eT h9 (eT h10 (eT h11 rfl)))))))))))).symm.trans H)) (fin_ret (res_tmp rfl rfl))
end Go.Proofs.Ytbaihncnbejjbaa
