import Derived.Test.YtbaihncnbejjbaaK1
import Derived.Test.YtbaihncnbejjbaaPick
set_option linter.unusedVariables false
set_option linter.unusedSimpArgs false
namespace Go.Proofs.Ytbaihncnbejjbaa
open Go.RowKit

attribute [local irreducible] AC AR DWalk
def lawNumKnown  : Bool := (bif known1 then (bif ((numMul 196608 131072 false).1) == 393216 then (bif (numMul 196608 131072 false).2 then (bif (numMul 1073741824 1073741824 false).2 then false else (bif (numMul 1073741825 0 false).2 then false else (bif ((numDiv 65536 196608 false).1) == 21845 then (bif (numDiv 65536 196608 false).2 then (bif ((numDiv 65536 196608 true).1) == 21846 then (bif (numDiv 65536 196608 true).2 then (bif (numDiv 5 0 true).2 then false else (bif ((numRoot 131072 false).1) == 92681 then (bif (numRoot 131072 false).2 then (bif ((numRoot 131072 true).1) == 92682 then (bif (numRoot 131072 true).2 then (bif ((numRoot 262144 true).1) == 131072 then (bif (numRoot 262144 true).2 then (bif (numRoot (-1) false).2 then false else (bif (numDiv 1073741824 1 false).2 then false else (bif numIn 1073741824 then (bif numIn (-1073741824) then (bif numIn 1073741825 then false else (bif numIn (-9223372036854775808) then false else (bif (numFloor (-7) 2) == (-4) then (bif (numFloor 7 (-2)) == (-4) then (numFloor 7 0) == 0 else false) else false))) else false) else false))) else false) else false) else false) else false) else false) else false)) else false) else false) else false) else false))) else false) else false) else false)
set_option maxRecDepth 100000 in
theorem c_lawNumKnown  (H : lawNumKnown = true) : Gets Try.prog 4 #[] (.bool true) := by
  refine gets_fin Try.func4 rfl rfl rfl ?_
  refine ac_seq ?_
  refine ac_region_lit ?_
  refine ao 0 rfl rfl (st_assign (v := .bool false) rfl rfl ?_)
  refine ar_nil ?_
  refine ac_seq ?_
  refine ac_region_lit ?_
  refine ao 24 rfl rfl (st_cf (vs := [.int .i64 196608, .int .i64 131072, .bool false]) (r := .tuple #[.int .i64 ((numMul 196608 131072 false).1), .bool ((numMul 196608 131072 false).2)]) (c_numMul 196608 131072 false) Try.func37 rfl (by decide) rfl rfl rfl ?_)
  refine ao 23 rfl rfl (st_move (v := .tuple #[.int .i64 ((numMul 196608 131072 false).1), .bool ((numMul 196608 131072 false).2)]) rfl rfl ?_)
  refine ao 25 rfl rfl (st_ex (vs := [.int .i64 ((numMul 196608 131072 false).1), .bool ((numMul 196608 131072 false).2)]) (v := .int .i64 ((numMul 196608 131072 false).1)) rfl rfl rfl ?_)
  refine ao 26 rfl rfl (st_ex (vs := [.int .i64 ((numMul 196608 131072 false).1), .bool ((numMul 196608 131072 false).2)]) (v := .bool ((numMul 196608 131072 false).2)) rfl rfl rfl ?_)
  refine ao 1 rfl rfl (st_assign (v := .int .i64 ((numMul 196608 131072 false).1)) rfl rfl ?_)
  refine ao 2 rfl rfl (st_assign (v := .bool ((numMul 196608 131072 false).2)) rfl rfl ?_)
  refine ar_nil ?_
  refine ac_seq ?_
  refine ac_region_lit ?_
  refine ao 28 rfl rfl (st_cf (vs := [.int .i64 1073741824, .int .i64 1073741824, .bool false]) (r := .tuple #[.int .i64 ((numMul 1073741824 1073741824 false).1), .bool ((numMul 1073741824 1073741824 false).2)]) (c_numMul 1073741824 1073741824 false) Try.func37 rfl (by decide) rfl rfl rfl ?_)
  refine ao 27 rfl rfl (st_move (v := .tuple #[.int .i64 ((numMul 1073741824 1073741824 false).1), .bool ((numMul 1073741824 1073741824 false).2)]) rfl rfl ?_)
  refine ao 29 rfl rfl (st_ex (vs := [.int .i64 ((numMul 1073741824 1073741824 false).1), .bool ((numMul 1073741824 1073741824 false).2)]) (v := .int .i64 ((numMul 1073741824 1073741824 false).1)) rfl rfl rfl ?_)
  refine ao 30 rfl rfl (st_ex (vs := [.int .i64 ((numMul 1073741824 1073741824 false).1), .bool ((numMul 1073741824 1073741824 false).2)]) (v := .bool ((numMul 1073741824 1073741824 false).2)) rfl rfl rfl ?_)
  refine ao 3 rfl rfl (st_assign (v := .int .i64 ((numMul 1073741824 1073741824 false).1)) rfl rfl ?_)
  refine ao 4 rfl rfl (st_assign (v := .bool ((numMul 1073741824 1073741824 false).2)) rfl rfl ?_)
  refine ar_nil ?_
  refine ac_seq ?_
  refine ac_region_lit ?_
  refine ao 32 rfl rfl (st_cf (vs := [.int .i64 1073741825, .int .i64 0, .bool false]) (r := .tuple #[.int .i64 ((numMul 1073741825 0 false).1), .bool ((numMul 1073741825 0 false).2)]) (c_numMul 1073741825 0 false) Try.func37 rfl (by decide) rfl rfl rfl ?_)
  refine ao 31 rfl rfl (st_move (v := .tuple #[.int .i64 ((numMul 1073741825 0 false).1), .bool ((numMul 1073741825 0 false).2)]) rfl rfl ?_)
  refine ao 33 rfl rfl (st_ex (vs := [.int .i64 ((numMul 1073741825 0 false).1), .bool ((numMul 1073741825 0 false).2)]) (v := .int .i64 ((numMul 1073741825 0 false).1)) rfl rfl rfl ?_)
  refine ao 34 rfl rfl (st_ex (vs := [.int .i64 ((numMul 1073741825 0 false).1), .bool ((numMul 1073741825 0 false).2)]) (v := .bool ((numMul 1073741825 0 false).2)) rfl rfl rfl ?_)
  refine ao 5 rfl rfl (st_assign (v := .int .i64 ((numMul 1073741825 0 false).1)) rfl rfl ?_)
  refine ao 6 rfl rfl (st_assign (v := .bool ((numMul 1073741825 0 false).2)) rfl rfl ?_)
  refine ar_nil ?_
  refine ac_seq ?_
  refine ac_region_lit ?_
  refine ao 36 rfl rfl (st_cf (vs := [.int .i64 65536, .int .i64 196608, .bool false]) (r := .tuple #[.int .i64 ((numDiv 65536 196608 false).1), .bool ((numDiv 65536 196608 false).2)]) (c_numDiv 65536 196608 false) Try.func39 rfl (by decide) rfl rfl rfl ?_)
  refine ao 35 rfl rfl (st_move (v := .tuple #[.int .i64 ((numDiv 65536 196608 false).1), .bool ((numDiv 65536 196608 false).2)]) rfl rfl ?_)
  refine ao 37 rfl rfl (st_ex (vs := [.int .i64 ((numDiv 65536 196608 false).1), .bool ((numDiv 65536 196608 false).2)]) (v := .int .i64 ((numDiv 65536 196608 false).1)) rfl rfl rfl ?_)
  refine ao 38 rfl rfl (st_ex (vs := [.int .i64 ((numDiv 65536 196608 false).1), .bool ((numDiv 65536 196608 false).2)]) (v := .bool ((numDiv 65536 196608 false).2)) rfl rfl rfl ?_)
  refine ao 7 rfl rfl (st_assign (v := .int .i64 ((numDiv 65536 196608 false).1)) rfl rfl ?_)
  refine ao 8 rfl rfl (st_assign (v := .bool ((numDiv 65536 196608 false).2)) rfl rfl ?_)
  refine ar_nil ?_
  refine ac_seq ?_
  refine ac_region_lit ?_
  refine ao 40 rfl rfl (st_cf (vs := [.int .i64 65536, .int .i64 196608, .bool true]) (r := .tuple #[.int .i64 ((numDiv 65536 196608 true).1), .bool ((numDiv 65536 196608 true).2)]) (c_numDiv 65536 196608 true) Try.func39 rfl (by decide) rfl rfl rfl ?_)
  refine ao 39 rfl rfl (st_move (v := .tuple #[.int .i64 ((numDiv 65536 196608 true).1), .bool ((numDiv 65536 196608 true).2)]) rfl rfl ?_)
  refine ao 41 rfl rfl (st_ex (vs := [.int .i64 ((numDiv 65536 196608 true).1), .bool ((numDiv 65536 196608 true).2)]) (v := .int .i64 ((numDiv 65536 196608 true).1)) rfl rfl rfl ?_)
  refine ao 42 rfl rfl (st_ex (vs := [.int .i64 ((numDiv 65536 196608 true).1), .bool ((numDiv 65536 196608 true).2)]) (v := .bool ((numDiv 65536 196608 true).2)) rfl rfl rfl ?_)
  refine ao 9 rfl rfl (st_assign (v := .int .i64 ((numDiv 65536 196608 true).1)) rfl rfl ?_)
  refine ao 10 rfl rfl (st_assign (v := .bool ((numDiv 65536 196608 true).2)) rfl rfl ?_)
  refine ar_nil ?_
  refine ac_seq ?_
  refine ac_region_lit ?_
  refine ao 44 rfl rfl (st_cf (vs := [.int .i64 5, .int .i64 0, .bool true]) (r := .tuple #[.int .i64 ((numDiv 5 0 true).1), .bool ((numDiv 5 0 true).2)]) (c_numDiv 5 0 true) Try.func39 rfl (by decide) rfl rfl rfl ?_)
  refine ao 43 rfl rfl (st_move (v := .tuple #[.int .i64 ((numDiv 5 0 true).1), .bool ((numDiv 5 0 true).2)]) rfl rfl ?_)
  refine ao 45 rfl rfl (st_ex (vs := [.int .i64 ((numDiv 5 0 true).1), .bool ((numDiv 5 0 true).2)]) (v := .int .i64 ((numDiv 5 0 true).1)) rfl rfl rfl ?_)
  refine ao 46 rfl rfl (st_ex (vs := [.int .i64 ((numDiv 5 0 true).1), .bool ((numDiv 5 0 true).2)]) (v := .bool ((numDiv 5 0 true).2)) rfl rfl rfl ?_)
  refine ao 11 rfl rfl (st_assign (v := .int .i64 ((numDiv 5 0 true).1)) rfl rfl ?_)
  refine ao 12 rfl rfl (st_assign (v := .bool ((numDiv 5 0 true).2)) rfl rfl ?_)
  refine ar_nil ?_
  refine ac_seq ?_
  refine ac_region_lit ?_
  refine ao 48 rfl rfl (st_cf (vs := [.int .i64 131072, .bool false]) (r := .tuple #[.int .i64 ((numRoot 131072 false).1), .bool ((numRoot 131072 false).2)]) (c_numRoot 131072 false) Try.func40 rfl (by decide) rfl rfl rfl ?_)
  refine ao 47 rfl rfl (st_move (v := .tuple #[.int .i64 ((numRoot 131072 false).1), .bool ((numRoot 131072 false).2)]) rfl rfl ?_)
  refine ao 49 rfl rfl (st_ex (vs := [.int .i64 ((numRoot 131072 false).1), .bool ((numRoot 131072 false).2)]) (v := .int .i64 ((numRoot 131072 false).1)) rfl rfl rfl ?_)
  refine ao 50 rfl rfl (st_ex (vs := [.int .i64 ((numRoot 131072 false).1), .bool ((numRoot 131072 false).2)]) (v := .bool ((numRoot 131072 false).2)) rfl rfl rfl ?_)
  refine ao 13 rfl rfl (st_assign (v := .int .i64 ((numRoot 131072 false).1)) rfl rfl ?_)
  refine ao 14 rfl rfl (st_assign (v := .bool ((numRoot 131072 false).2)) rfl rfl ?_)
  refine ar_nil ?_
  refine ac_seq ?_
  refine ac_region_lit ?_
  refine ao 52 rfl rfl (st_cf (vs := [.int .i64 131072, .bool true]) (r := .tuple #[.int .i64 ((numRoot 131072 true).1), .bool ((numRoot 131072 true).2)]) (c_numRoot 131072 true) Try.func40 rfl (by decide) rfl rfl rfl ?_)
  refine ao 51 rfl rfl (st_move (v := .tuple #[.int .i64 ((numRoot 131072 true).1), .bool ((numRoot 131072 true).2)]) rfl rfl ?_)
  refine ao 53 rfl rfl (st_ex (vs := [.int .i64 ((numRoot 131072 true).1), .bool ((numRoot 131072 true).2)]) (v := .int .i64 ((numRoot 131072 true).1)) rfl rfl rfl ?_)
  refine ao 54 rfl rfl (st_ex (vs := [.int .i64 ((numRoot 131072 true).1), .bool ((numRoot 131072 true).2)]) (v := .bool ((numRoot 131072 true).2)) rfl rfl rfl ?_)
  refine ao 15 rfl rfl (st_assign (v := .int .i64 ((numRoot 131072 true).1)) rfl rfl ?_)
  refine ao 16 rfl rfl (st_assign (v := .bool ((numRoot 131072 true).2)) rfl rfl ?_)
  refine ar_nil ?_
  refine ac_seq ?_
  refine ac_region_lit ?_
  refine ao 56 rfl rfl (st_cf (vs := [.int .i64 262144, .bool true]) (r := .tuple #[.int .i64 ((numRoot 262144 true).1), .bool ((numRoot 262144 true).2)]) (c_numRoot 262144 true) Try.func40 rfl (by decide) rfl rfl rfl ?_)
  refine ao 55 rfl rfl (st_move (v := .tuple #[.int .i64 ((numRoot 262144 true).1), .bool ((numRoot 262144 true).2)]) rfl rfl ?_)
  refine ao 57 rfl rfl (st_ex (vs := [.int .i64 ((numRoot 262144 true).1), .bool ((numRoot 262144 true).2)]) (v := .int .i64 ((numRoot 262144 true).1)) rfl rfl rfl ?_)
  refine ao 58 rfl rfl (st_ex (vs := [.int .i64 ((numRoot 262144 true).1), .bool ((numRoot 262144 true).2)]) (v := .bool ((numRoot 262144 true).2)) rfl rfl rfl ?_)
  refine ao 17 rfl rfl (st_assign (v := .int .i64 ((numRoot 262144 true).1)) rfl rfl ?_)
  refine ao 18 rfl rfl (st_assign (v := .bool ((numRoot 262144 true).2)) rfl rfl ?_)
  refine ar_nil ?_
  refine ac_seq ?_
  refine ac_region_lit ?_
  refine ao 60 rfl rfl (st_cf (vs := [.int .i64 (-1), .bool false]) (r := .tuple #[.int .i64 ((numRoot (-1) false).1), .bool ((numRoot (-1) false).2)]) (c_numRoot (-1) false) Try.func40 rfl (by decide) rfl rfl rfl ?_)
  refine ao 59 rfl rfl (st_move (v := .tuple #[.int .i64 ((numRoot (-1) false).1), .bool ((numRoot (-1) false).2)]) rfl rfl ?_)
  refine ao 61 rfl rfl (st_ex (vs := [.int .i64 ((numRoot (-1) false).1), .bool ((numRoot (-1) false).2)]) (v := .int .i64 ((numRoot (-1) false).1)) rfl rfl rfl ?_)
  refine ao 62 rfl rfl (st_ex (vs := [.int .i64 ((numRoot (-1) false).1), .bool ((numRoot (-1) false).2)]) (v := .bool ((numRoot (-1) false).2)) rfl rfl rfl ?_)
  refine ao 19 rfl rfl (st_assign (v := .int .i64 ((numRoot (-1) false).1)) rfl rfl ?_)
  refine ao 20 rfl rfl (st_assign (v := .bool ((numRoot (-1) false).2)) rfl rfl ?_)
  refine ar_nil ?_
  refine ac_seq ?_
  refine ac_region_lit ?_
  refine ao 64 rfl rfl (st_cf (vs := [.int .i64 1073741824, .int .i64 1, .bool false]) (r := .tuple #[.int .i64 ((numDiv 1073741824 1 false).1), .bool ((numDiv 1073741824 1 false).2)]) (c_numDiv 1073741824 1 false) Try.func39 rfl (by decide) rfl rfl rfl ?_)
  refine ao 63 rfl rfl (st_move (v := .tuple #[.int .i64 ((numDiv 1073741824 1 false).1), .bool ((numDiv 1073741824 1 false).2)]) rfl rfl ?_)
  refine ao 65 rfl rfl (st_ex (vs := [.int .i64 ((numDiv 1073741824 1 false).1), .bool ((numDiv 1073741824 1 false).2)]) (v := .int .i64 ((numDiv 1073741824 1 false).1)) rfl rfl rfl ?_)
  refine ao 66 rfl rfl (st_ex (vs := [.int .i64 ((numDiv 1073741824 1 false).1), .bool ((numDiv 1073741824 1 false).2)]) (v := .bool ((numDiv 1073741824 1 false).2)) rfl rfl rfl ?_)
  refine ao 21 rfl rfl (st_assign (v := .int .i64 ((numDiv 1073741824 1 false).1)) rfl rfl ?_)
  refine ao 22 rfl rfl (st_assign (v := .bool ((numDiv 1073741824 1 false).2)) rfl rfl ?_)
  refine ar_nil ?_
  refine ac_seq ?_
  refine ac_region_lit ?_
  refine ao 67 rfl rfl (st_cf (vs := []) (r := .bool known1) c_known1 Try.func38 rfl (by decide) rfl rfl rfl ?_)
  refine ao 68 rfl rfl (st_move (v := .bool known1) rfl rfl ?_)
  refine bool_split (known1) (fun h1 => ?_) (fun h1 => nomatch (show false = true from (show lawNumKnown = _ from (eF h1 rfl)).symm.trans H))
  refine ar_gd (d := (some 69)) (by show (known1 == true) = true; rw [h1]; rfl) rfl (st_move (v := .int .i64 ((numMul 196608 131072 false).1)) rfl rfl ?_)
  refine ar_gd (d := (some 70)) (by show (known1 == true) = true; rw [h1]; rfl) rfl (st_bi (u := .int .i64 ((numMul 196608 131072 false).1)) (v := .int .i64 393216) (r := .bool (((numMul 196608 131072 false).1) == 393216)) rfl rfl rfl (bi_eql rfl) ?_)
  refine ao 71 rfl rfl (st_pkt' (b := known1) (v := .bool (((numMul 196608 131072 false).1) == 393216)) h1 rfl rfl rfl ?_)
  refine ao 72 rfl rfl (st_move (v := .bool (((numMul 196608 131072 false).1) == 393216)) rfl rfl ?_)
  refine bool_split (((numMul 196608 131072 false).1) == 393216) (fun h2 => ?_) (fun h2 => nomatch (show false = true from (show lawNumKnown = _ from (eT h1 (eF h2 rfl))).symm.trans H))
  refine ar_gd (d := (some 73)) (by show ((((numMul 196608 131072 false).1) == 393216) == true) = true; rw [h2]; rfl) rfl (st_move (v := .bool ((numMul 196608 131072 false).2)) rfl rfl ?_)
  refine ao 74 rfl rfl (st_pkt' (b := ((numMul 196608 131072 false).1) == 393216) (v := .bool ((numMul 196608 131072 false).2)) h2 rfl rfl rfl ?_)
  refine ao 75 rfl rfl (st_move (v := .bool ((numMul 196608 131072 false).2)) rfl rfl ?_)
  refine bool_split ((numMul 196608 131072 false).2) (fun h3 => ?_) (fun h3 => nomatch (show false = true from (show lawNumKnown = _ from (eT h1 (eT h2 (eF h3 rfl)))).symm.trans H))
  refine ar_gd (d := (some 76)) (by show (((numMul 196608 131072 false).2) == true) = true; rw [h3]; rfl) rfl (st_move (v := .bool ((numMul 1073741824 1073741824 false).2)) rfl rfl ?_)
  refine ar_gd (d := (some 77)) (by show (((numMul 196608 131072 false).2) == true) = true; rw [h3]; rfl) rfl (st_un (u := .bool ((numMul 1073741824 1073741824 false).2)) (v := .bool (!((numMul 1073741824 1073741824 false).2))) rfl rfl (un_not rfl) ?_)
  refine ao 78 rfl rfl (st_pkt' (b := (numMul 196608 131072 false).2) (v := .bool (!((numMul 1073741824 1073741824 false).2))) h3 rfl rfl rfl ?_)
  refine ao 79 rfl rfl (st_move (v := .bool (!((numMul 1073741824 1073741824 false).2))) rfl rfl ?_)
  refine bool_split ((numMul 1073741824 1073741824 false).2) (fun h4 => nomatch (show false = true from (show lawNumKnown = _ from (eT h1 (eT h2 (eT h3 (eT h4 rfl))))).symm.trans H)) (fun h4 => ?_)
  refine ar_gd (d := (some 80)) (by show ((!((numMul 1073741824 1073741824 false).2)) == true) = true; rw [h4]; rfl) rfl (st_move (v := .bool ((numMul 1073741825 0 false).2)) rfl rfl ?_)
  refine ar_gd (d := (some 81)) (by show ((!((numMul 1073741824 1073741824 false).2)) == true) = true; rw [h4]; rfl) rfl (st_un (u := .bool ((numMul 1073741825 0 false).2)) (v := .bool (!((numMul 1073741825 0 false).2))) rfl rfl (un_not rfl) ?_)
  refine ao 82 rfl rfl (st_pkt' (b := !((numMul 1073741824 1073741824 false).2)) (v := .bool (!((numMul 1073741825 0 false).2))) (by rw [h4]; rfl) rfl rfl rfl ?_)
  refine ao 83 rfl rfl (st_move (v := .bool (!((numMul 1073741825 0 false).2))) rfl rfl ?_)
  refine bool_split ((numMul 1073741825 0 false).2) (fun h5 => nomatch (show false = true from (show lawNumKnown = _ from (eT h1 (eT h2 (eT h3 (eF h4 (eT h5 rfl)))))).symm.trans H)) (fun h5 => ?_)
  refine ar_gd (d := (some 84)) (by show ((!((numMul 1073741825 0 false).2)) == true) = true; rw [h5]; rfl) rfl (st_move (v := .int .i64 ((numDiv 65536 196608 false).1)) rfl rfl ?_)
  refine ar_gd (d := (some 85)) (by show ((!((numMul 1073741825 0 false).2)) == true) = true; rw [h5]; rfl) rfl (st_bi (u := .int .i64 ((numDiv 65536 196608 false).1)) (v := .int .i64 21845) (r := .bool (((numDiv 65536 196608 false).1) == 21845)) rfl rfl rfl (bi_eql rfl) ?_)
  refine ao 86 rfl rfl (st_pkt' (b := !((numMul 1073741825 0 false).2)) (v := .bool (((numDiv 65536 196608 false).1) == 21845)) (by rw [h5]; rfl) rfl rfl rfl ?_)
  refine ao 87 rfl rfl (st_move (v := .bool (((numDiv 65536 196608 false).1) == 21845)) rfl rfl ?_)
  refine bool_split (((numDiv 65536 196608 false).1) == 21845) (fun h6 => ?_) (fun h6 => nomatch (show false = true from (show lawNumKnown = _ from (eT h1 (eT h2 (eT h3 (eF h4 (eF h5 (eF h6 rfl))))))).symm.trans H))
  refine ar_gd (d := (some 88)) (by show ((((numDiv 65536 196608 false).1) == 21845) == true) = true; rw [h6]; rfl) rfl (st_move (v := .bool ((numDiv 65536 196608 false).2)) rfl rfl ?_)
  refine ao 89 rfl rfl (st_pkt' (b := ((numDiv 65536 196608 false).1) == 21845) (v := .bool ((numDiv 65536 196608 false).2)) h6 rfl rfl rfl ?_)
  refine ao 90 rfl rfl (st_move (v := .bool ((numDiv 65536 196608 false).2)) rfl rfl ?_)
  refine bool_split ((numDiv 65536 196608 false).2) (fun h7 => ?_) (fun h7 => nomatch (show false = true from (show lawNumKnown = _ from (eT h1 (eT h2 (eT h3 (eF h4 (eF h5 (eT h6 (eF h7 rfl)))))))).symm.trans H))
  refine ar_gd (d := (some 91)) (by show (((numDiv 65536 196608 false).2) == true) = true; rw [h7]; rfl) rfl (st_move (v := .int .i64 ((numDiv 65536 196608 true).1)) rfl rfl ?_)
  refine ar_gd (d := (some 92)) (by show (((numDiv 65536 196608 false).2) == true) = true; rw [h7]; rfl) rfl (st_bi (u := .int .i64 ((numDiv 65536 196608 true).1)) (v := .int .i64 21846) (r := .bool (((numDiv 65536 196608 true).1) == 21846)) rfl rfl rfl (bi_eql rfl) ?_)
  refine ao 93 rfl rfl (st_pkt' (b := (numDiv 65536 196608 false).2) (v := .bool (((numDiv 65536 196608 true).1) == 21846)) h7 rfl rfl rfl ?_)
  refine ao 94 rfl rfl (st_move (v := .bool (((numDiv 65536 196608 true).1) == 21846)) rfl rfl ?_)
  refine bool_split (((numDiv 65536 196608 true).1) == 21846) (fun h8 => ?_) (fun h8 => nomatch (show false = true from (show lawNumKnown = _ from (eT h1 (eT h2 (eT h3 (eF h4 (eF h5 (eT h6 (eT h7 (eF h8 rfl))))))))).symm.trans H))
  refine ar_gd (d := (some 95)) (by show ((((numDiv 65536 196608 true).1) == 21846) == true) = true; rw [h8]; rfl) rfl (st_move (v := .bool ((numDiv 65536 196608 true).2)) rfl rfl ?_)
  refine ao 96 rfl rfl (st_pkt' (b := ((numDiv 65536 196608 true).1) == 21846) (v := .bool ((numDiv 65536 196608 true).2)) h8 rfl rfl rfl ?_)
  refine ao 97 rfl rfl (st_move (v := .bool ((numDiv 65536 196608 true).2)) rfl rfl ?_)
  refine bool_split ((numDiv 65536 196608 true).2) (fun h9 => ?_) (fun h9 => nomatch (show false = true from (show lawNumKnown = _ from (eT h1 (eT h2 (eT h3 (eF h4 (eF h5 (eT h6 (eT h7 (eT h8 (eF h9 rfl)))))))))).symm.trans H))
  refine ar_gd (d := (some 98)) (by show (((numDiv 65536 196608 true).2) == true) = true; rw [h9]; rfl) rfl (st_move (v := .bool ((numDiv 5 0 true).2)) rfl rfl ?_)
  refine ar_gd (d := (some 99)) (by show (((numDiv 65536 196608 true).2) == true) = true; rw [h9]; rfl) rfl (st_un (u := .bool ((numDiv 5 0 true).2)) (v := .bool (!((numDiv 5 0 true).2))) rfl rfl (un_not rfl) ?_)
  refine ao 100 rfl rfl (st_pkt' (b := (numDiv 65536 196608 true).2) (v := .bool (!((numDiv 5 0 true).2))) h9 rfl rfl rfl ?_)
  refine ao 101 rfl rfl (st_move (v := .bool (!((numDiv 5 0 true).2))) rfl rfl ?_)
  refine bool_split ((numDiv 5 0 true).2) (fun h10 => nomatch (show false = true from (show lawNumKnown = _ from (eT h1 (eT h2 (eT h3 (eF h4 (eF h5 (eT h6 (eT h7 (eT h8 (eT h9 (eT h10 rfl))))))))))).symm.trans H)) (fun h10 => ?_)
  refine ar_gd (d := (some 102)) (by show ((!((numDiv 5 0 true).2)) == true) = true; rw [h10]; rfl) rfl (st_move (v := .int .i64 ((numRoot 131072 false).1)) rfl rfl ?_)
  refine ar_gd (d := (some 103)) (by show ((!((numDiv 5 0 true).2)) == true) = true; rw [h10]; rfl) rfl (st_bi (u := .int .i64 ((numRoot 131072 false).1)) (v := .int .i64 92681) (r := .bool (((numRoot 131072 false).1) == 92681)) rfl rfl rfl (bi_eql rfl) ?_)
  refine ao 104 rfl rfl (st_pkt' (b := !((numDiv 5 0 true).2)) (v := .bool (((numRoot 131072 false).1) == 92681)) (by rw [h10]; rfl) rfl rfl rfl ?_)
  refine ao 105 rfl rfl (st_move (v := .bool (((numRoot 131072 false).1) == 92681)) rfl rfl ?_)
  refine bool_split (((numRoot 131072 false).1) == 92681) (fun h11 => ?_) (fun h11 => nomatch (show false = true from (show lawNumKnown = _ from (eT h1 (eT h2 (eT h3 (eF h4 (eF h5 (eT h6 (eT h7 (eT h8 (eT h9 (eF h10 (eF h11 rfl)))))))))))).symm.trans H))
  refine ar_gd (d := (some 106)) (by show ((((numRoot 131072 false).1) == 92681) == true) = true; rw [h11]; rfl) rfl (st_move (v := .bool ((numRoot 131072 false).2)) rfl rfl ?_)
  refine ao 107 rfl rfl (st_pkt' (b := ((numRoot 131072 false).1) == 92681) (v := .bool ((numRoot 131072 false).2)) h11 rfl rfl rfl ?_)
  refine ao 108 rfl rfl (st_move (v := .bool ((numRoot 131072 false).2)) rfl rfl ?_)
  refine bool_split ((numRoot 131072 false).2) (fun h12 => ?_) (fun h12 => nomatch (show false = true from (show lawNumKnown = _ from (eT h1 (eT h2 (eT h3 (eF h4 (eF h5 (eT h6 (eT h7 (eT h8 (eT h9 (eF h10 (eT h11 (eF h12 rfl))))))))))))).symm.trans H))
  refine ar_gd (d := (some 109)) (by show (((numRoot 131072 false).2) == true) = true; rw [h12]; rfl) rfl (st_move (v := .int .i64 ((numRoot 131072 true).1)) rfl rfl ?_)
  refine ar_gd (d := (some 110)) (by show (((numRoot 131072 false).2) == true) = true; rw [h12]; rfl) rfl (st_bi (u := .int .i64 ((numRoot 131072 true).1)) (v := .int .i64 92682) (r := .bool (((numRoot 131072 true).1) == 92682)) rfl rfl rfl (bi_eql rfl) ?_)
  refine ao 111 rfl rfl (st_pkt' (b := (numRoot 131072 false).2) (v := .bool (((numRoot 131072 true).1) == 92682)) h12 rfl rfl rfl ?_)
  refine ao 112 rfl rfl (st_move (v := .bool (((numRoot 131072 true).1) == 92682)) rfl rfl ?_)
  refine bool_split (((numRoot 131072 true).1) == 92682) (fun h13 => ?_) (fun h13 => nomatch (show false = true from (show lawNumKnown = _ from (eT h1 (eT h2 (eT h3 (eF h4 (eF h5 (eT h6 (eT h7 (eT h8 (eT h9 (eF h10 (eT h11 (eT h12 (eF h13 rfl)))))))))))))).symm.trans H))
  refine ar_gd (d := (some 113)) (by show ((((numRoot 131072 true).1) == 92682) == true) = true; rw [h13]; rfl) rfl (st_move (v := .bool ((numRoot 131072 true).2)) rfl rfl ?_)
  refine ao 114 rfl rfl (st_pkt' (b := ((numRoot 131072 true).1) == 92682) (v := .bool ((numRoot 131072 true).2)) h13 rfl rfl rfl ?_)
  refine ao 115 rfl rfl (st_move (v := .bool ((numRoot 131072 true).2)) rfl rfl ?_)
  refine bool_split ((numRoot 131072 true).2) (fun h14 => ?_) (fun h14 => nomatch (show false = true from (show lawNumKnown = _ from (eT h1 (eT h2 (eT h3 (eF h4 (eF h5 (eT h6 (eT h7 (eT h8 (eT h9 (eF h10 (eT h11 (eT h12 (eT h13 (eF h14 rfl))))))))))))))).symm.trans H))
  refine ar_gd (d := (some 116)) (by show (((numRoot 131072 true).2) == true) = true; rw [h14]; rfl) rfl (st_move (v := .int .i64 ((numRoot 262144 true).1)) rfl rfl ?_)
  refine ar_gd (d := (some 117)) (by show (((numRoot 131072 true).2) == true) = true; rw [h14]; rfl) rfl (st_bi (u := .int .i64 ((numRoot 262144 true).1)) (v := .int .i64 131072) (r := .bool (((numRoot 262144 true).1) == 131072)) rfl rfl rfl (bi_eql rfl) ?_)
  refine ao 118 rfl rfl (st_pkt' (b := (numRoot 131072 true).2) (v := .bool (((numRoot 262144 true).1) == 131072)) h14 rfl rfl rfl ?_)
  refine ao 119 rfl rfl (st_move (v := .bool (((numRoot 262144 true).1) == 131072)) rfl rfl ?_)
  refine bool_split (((numRoot 262144 true).1) == 131072) (fun h15 => ?_) (fun h15 => nomatch (show false = true from (show lawNumKnown = _ from (eT h1 (eT h2 (eT h3 (eF h4 (eF h5 (eT h6 (eT h7 (eT h8 (eT h9 (eF h10 (eT h11 (eT h12 (eT h13 (eT h14 (eF h15 rfl)))))))))))))))).symm.trans H))
  refine ar_gd (d := (some 120)) (by show ((((numRoot 262144 true).1) == 131072) == true) = true; rw [h15]; rfl) rfl (st_move (v := .bool ((numRoot 262144 true).2)) rfl rfl ?_)
  refine ao 121 rfl rfl (st_pkt' (b := ((numRoot 262144 true).1) == 131072) (v := .bool ((numRoot 262144 true).2)) h15 rfl rfl rfl ?_)
  refine ao 122 rfl rfl (st_move (v := .bool ((numRoot 262144 true).2)) rfl rfl ?_)
  refine bool_split ((numRoot 262144 true).2) (fun h16 => ?_) (fun h16 => nomatch (show false = true from (show lawNumKnown = _ from (eT h1 (eT h2 (eT h3 (eF h4 (eF h5 (eT h6 (eT h7 (eT h8 (eT h9 (eF h10 (eT h11 (eT h12 (eT h13 (eT h14 (eT h15 (eF h16 rfl))))))))))))))))).symm.trans H))
  refine ar_gd (d := (some 123)) (by show (((numRoot 262144 true).2) == true) = true; rw [h16]; rfl) rfl (st_move (v := .bool ((numRoot (-1) false).2)) rfl rfl ?_)
  refine ar_gd (d := (some 124)) (by show (((numRoot 262144 true).2) == true) = true; rw [h16]; rfl) rfl (st_un (u := .bool ((numRoot (-1) false).2)) (v := .bool (!((numRoot (-1) false).2))) rfl rfl (un_not rfl) ?_)
  refine ao 125 rfl rfl (st_pkt' (b := (numRoot 262144 true).2) (v := .bool (!((numRoot (-1) false).2))) h16 rfl rfl rfl ?_)
  refine ao 126 rfl rfl (st_move (v := .bool (!((numRoot (-1) false).2))) rfl rfl ?_)
  refine bool_split ((numRoot (-1) false).2) (fun h17 => nomatch (show false = true from (show lawNumKnown = _ from (eT h1 (eT h2 (eT h3 (eF h4 (eF h5 (eT h6 (eT h7 (eT h8 (eT h9 (eF h10 (eT h11 (eT h12 (eT h13 (eT h14 (eT h15 (eT h16 (eT h17 rfl)))))))))))))))))).symm.trans H)) (fun h17 => ?_)
  refine ar_gd (d := (some 127)) (by show ((!((numRoot (-1) false).2)) == true) = true; rw [h17]; rfl) rfl (st_move (v := .bool ((numDiv 1073741824 1 false).2)) rfl rfl ?_)
  refine ar_gd (d := (some 128)) (by show ((!((numRoot (-1) false).2)) == true) = true; rw [h17]; rfl) rfl (st_un (u := .bool ((numDiv 1073741824 1 false).2)) (v := .bool (!((numDiv 1073741824 1 false).2))) rfl rfl (un_not rfl) ?_)
  refine ao 129 rfl rfl (st_pkt' (b := !((numRoot (-1) false).2)) (v := .bool (!((numDiv 1073741824 1 false).2))) (by rw [h17]; rfl) rfl rfl rfl ?_)
  refine ao 130 rfl rfl (st_move (v := .bool (!((numDiv 1073741824 1 false).2))) rfl rfl ?_)
  refine bool_split ((numDiv 1073741824 1 false).2) (fun h18 => nomatch (show false = true from (show lawNumKnown = _ from (eT h1 (eT h2 (eT h3 (eF h4 (eF h5 (eT h6 (eT h7 (eT h8 (eT h9 (eF h10 (eT h11 (eT h12 (eT h13 (eT h14 (eT h15 (eT h16 (eF h17 (eT h18 rfl))))))))))))))))))).symm.trans H)) (fun h18 => ?_)
  refine ar_gd (d := (some 131)) (by show ((!((numDiv 1073741824 1 false).2)) == true) = true; rw [h18]; rfl) rfl (st_cf (vs := [.int .i64 1073741824]) (r := .bool (numIn 1073741824)) (c_numIn 1073741824) Try.func41 rfl (by decide) rfl rfl rfl ?_)
  refine ao 132 rfl rfl (st_pkt' (b := !((numDiv 1073741824 1 false).2)) (v := .bool (numIn 1073741824)) (by rw [h18]; rfl) rfl rfl rfl ?_)
  refine ao 133 rfl rfl (st_move (v := .bool (numIn 1073741824)) rfl rfl ?_)
  refine bool_split (numIn 1073741824) (fun h19 => ?_) (fun h19 => nomatch (show false = true from (show lawNumKnown = _ from (eT h1 (eT h2 (eT h3 (eF h4 (eF h5 (eT h6 (eT h7 (eT h8 (eT h9 (eF h10 (eT h11 (eT h12 (eT h13 (eT h14 (eT h15 (eT h16 (eF h17 (eF h18 (eF h19 rfl)))))))))))))))))))).symm.trans H))
  refine ar_gd (d := (some 134)) (by show ((numIn 1073741824) == true) = true; rw [h19]; rfl) rfl (st_cf (vs := [.int .i64 (-1073741824)]) (r := .bool (numIn (-1073741824))) (c_numIn (-1073741824)) Try.func41 rfl (by decide) rfl rfl rfl ?_)
  refine ao 135 rfl rfl (st_pkt' (b := numIn 1073741824) (v := .bool (numIn (-1073741824))) h19 rfl rfl rfl ?_)
  refine ao 136 rfl rfl (st_move (v := .bool (numIn (-1073741824))) rfl rfl ?_)
  refine bool_split (numIn (-1073741824)) (fun h20 => ?_) (fun h20 => nomatch (show false = true from (show lawNumKnown = _ from (eT h1 (eT h2 (eT h3 (eF h4 (eF h5 (eT h6 (eT h7 (eT h8 (eT h9 (eF h10 (eT h11 (eT h12 (eT h13 (eT h14 (eT h15 (eT h16 (eF h17 (eF h18 (eT h19 (eF h20 rfl))))))))))))))))))))).symm.trans H))
  refine ar_gd (d := (some 137)) (by show ((numIn (-1073741824)) == true) = true; rw [h20]; rfl) rfl (st_cf (vs := [.int .i64 1073741825]) (r := .bool (numIn 1073741825)) (c_numIn 1073741825) Try.func41 rfl (by decide) rfl rfl rfl ?_)
  refine ar_gd (d := (some 138)) (by show ((numIn (-1073741824)) == true) = true; rw [h20]; rfl) rfl (st_un (u := .bool (numIn 1073741825)) (v := .bool (!(numIn 1073741825))) rfl rfl (un_not rfl) ?_)
  refine ao 139 rfl rfl (st_pkt' (b := numIn (-1073741824)) (v := .bool (!(numIn 1073741825))) h20 rfl rfl rfl ?_)
  refine ao 140 rfl rfl (st_move (v := .bool (!(numIn 1073741825))) rfl rfl ?_)
  refine bool_split (numIn 1073741825) (fun h21 => nomatch (show false = true from (show lawNumKnown = _ from (eT h1 (eT h2 (eT h3 (eF h4 (eF h5 (eT h6 (eT h7 (eT h8 (eT h9 (eF h10 (eT h11 (eT h12 (eT h13 (eT h14 (eT h15 (eT h16 (eF h17 (eF h18 (eT h19 (eT h20 (eT h21 rfl)))))))))))))))))))))).symm.trans H)) (fun h21 => ?_)
  refine ar_gd (d := (some 141)) (by show ((!(numIn 1073741825)) == true) = true; rw [h21]; rfl) rfl (st_cf (vs := [.int .i64 (-9223372036854775808)]) (r := .bool (numIn (-9223372036854775808))) (c_numIn (-9223372036854775808)) Try.func41 rfl (by decide) rfl rfl rfl ?_)
  refine ar_gd (d := (some 142)) (by show ((!(numIn 1073741825)) == true) = true; rw [h21]; rfl) rfl (st_un (u := .bool (numIn (-9223372036854775808))) (v := .bool (!(numIn (-9223372036854775808)))) rfl rfl (un_not rfl) ?_)
  refine ao 143 rfl rfl (st_pkt' (b := !(numIn 1073741825)) (v := .bool (!(numIn (-9223372036854775808)))) (by rw [h21]; rfl) rfl rfl rfl ?_)
  refine ao 144 rfl rfl (st_move (v := .bool (!(numIn (-9223372036854775808)))) rfl rfl ?_)
  refine bool_split (numIn (-9223372036854775808)) (fun h22 => nomatch (show false = true from (show lawNumKnown = _ from (eT h1 (eT h2 (eT h3 (eF h4 (eF h5 (eT h6 (eT h7 (eT h8 (eT h9 (eF h10 (eT h11 (eT h12 (eT h13 (eT h14 (eT h15 (eT h16 (eF h17 (eF h18 (eT h19 (eT h20 (eF h21 (eT h22 rfl))))))))))))))))))))))).symm.trans H)) (fun h22 => ?_)
  refine ar_gd (d := (some 145)) (by show ((!(numIn (-9223372036854775808))) == true) = true; rw [h22]; rfl) rfl (st_cf (vs := [.int .i64 (-7), .int .i64 2]) (r := .int .i64 (numFloor (-7) 2)) (c_numFloor (-7) 2) Try.func42 rfl (by decide) rfl rfl rfl ?_)
  refine ar_gd (d := (some 146)) (by show ((!(numIn (-9223372036854775808))) == true) = true; rw [h22]; rfl) rfl (st_bi (u := .int .i64 (numFloor (-7) 2)) (v := .int .i64 (-4)) (r := .bool ((numFloor (-7) 2) == (-4))) rfl rfl rfl (bi_eql rfl) ?_)
  refine ao 147 rfl rfl (st_pkt' (b := !(numIn (-9223372036854775808))) (v := .bool ((numFloor (-7) 2) == (-4))) (by rw [h22]; rfl) rfl rfl rfl ?_)
  refine ao 148 rfl rfl (st_move (v := .bool ((numFloor (-7) 2) == (-4))) rfl rfl ?_)
  refine bool_split ((numFloor (-7) 2) == (-4)) (fun h23 => ?_) (fun h23 => nomatch (show false = true from (show lawNumKnown = _ from (eT h1 (eT h2 (eT h3 (eF h4 (eF h5 (eT h6 (eT h7 (eT h8 (eT h9 (eF h10 (eT h11 (eT h12 (eT h13 (eT h14 (eT h15 (eT h16 (eF h17 (eF h18 (eT h19 (eT h20 (eF h21 (eF h22 (eF h23 rfl)))))))))))))))))))))))).symm.trans H))
  refine ar_gd (d := (some 149)) (by show (((numFloor (-7) 2) == (-4)) == true) = true; rw [h23]; rfl) rfl (st_cf (vs := [.int .i64 7, .int .i64 (-2)]) (r := .int .i64 (numFloor 7 (-2))) (c_numFloor 7 (-2)) Try.func42 rfl (by decide) rfl rfl rfl ?_)
  refine ar_gd (d := (some 150)) (by show (((numFloor (-7) 2) == (-4)) == true) = true; rw [h23]; rfl) rfl (st_bi (u := .int .i64 (numFloor 7 (-2))) (v := .int .i64 (-4)) (r := .bool ((numFloor 7 (-2)) == (-4))) rfl rfl rfl (bi_eql rfl) ?_)
  refine ao 151 rfl rfl (st_pkt' (b := (numFloor (-7) 2) == (-4)) (v := .bool ((numFloor 7 (-2)) == (-4))) h23 rfl rfl rfl ?_)
  refine ao 152 rfl rfl (st_move (v := .bool ((numFloor 7 (-2)) == (-4))) rfl rfl ?_)
  refine bool_split ((numFloor 7 (-2)) == (-4)) (fun h24 => ?_) (fun h24 => nomatch (show false = true from (show lawNumKnown = _ from (eT h1 (eT h2 (eT h3 (eF h4 (eF h5 (eT h6 (eT h7 (eT h8 (eT h9 (eF h10 (eT h11 (eT h12 (eT h13 (eT h14 (eT h15 (eT h16 (eF h17 (eF h18 (eT h19 (eT h20 (eF h21 (eF h22 (eT h23 (eF h24 rfl))))))))))))))))))))))))).symm.trans H))
  refine ar_gd (d := (some 153)) (by show (((numFloor 7 (-2)) == (-4)) == true) = true; rw [h24]; rfl) rfl (st_cf (vs := [.int .i64 7, .int .i64 0]) (r := .int .i64 (numFloor 7 0)) (c_numFloor 7 0) Try.func42 rfl (by decide) rfl rfl rfl ?_)
  refine ar_gd (d := (some 154)) (by show (((numFloor 7 (-2)) == (-4)) == true) = true; rw [h24]; rfl) rfl (st_bi (u := .int .i64 (numFloor 7 0)) (v := .int .i64 0) (r := .bool ((numFloor 7 0) == 0)) rfl rfl rfl (bi_eql rfl) ?_)
  refine ao 155 rfl rfl (st_pkt' (b := (numFloor 7 (-2)) == (-4)) (v := .bool ((numFloor 7 0) == 0)) h24 rfl rfl rfl ?_)
  refine ao 0 rfl rfl (st_assign (v := .bool ((numFloor 7 0) == 0)) rfl rfl ?_)
  refine ar_nil ?_
  refine ac_ret ?_
  exact fin_eq (v := .bool ((numFloor 7 0) == 0)) (congrArg Value.bool (show ((numFloor 7 0) == 0) = true from (show lawNumKnown = _ from (eT h1 (eT h2 (eT h3 (eF h4 (eF h5 (eT h6 (eT h7 (eT h8 (eT h9 (eF h10 (eT h11 (eT h12 (eT h13 (eT h14 (eT h15 (eT h16 (eF h17 (eF h18 (eT h19 (eT h20 (eF h21 (eF h22 (eT h23 (eT h24 rfl))))))))))))))))))))))))).symm.trans H)) (fin_ret (res_tmp rfl rfl))
end Go.Proofs.Ytbaihncnbejjbaa
