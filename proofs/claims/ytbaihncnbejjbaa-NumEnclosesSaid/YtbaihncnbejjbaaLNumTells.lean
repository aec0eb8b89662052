import Derived.Test.YtbaihncnbejjbaaK1
import Derived.Test.YtbaihncnbejjbaaPick
set_option linter.unusedVariables false
set_option linter.unusedSimpArgs false
namespace Go.Proofs.Ytbaihncnbejjbaa
open Go.RowKit

attribute [local irreducible] AC AR DWalk
def lawNumTells (a : Int) (b : Int) (up : Bool) (raw : Bool) : Bool := (bif raw then (bif known1 then (bif (numIn a) == (rIn a) then (bif b == 0 then (bif ((numMul a b up).1) == ((rMul a b up).1) then (bif ((numMul a b up).2) == ((rMul a b up).2) then (bif ((numDiv a b up).1) == ((rDiv a b up).1) then (bif ((numDiv a b up).2) == ((rDiv a b up).2) then (bif ((numRoot a up).1) == ((rRoot a up).1) then ((numRoot a up).2) == ((rRoot a up).2) else false) else false) else false) else false) else false) else (bif a == (-9223372036854775808) then (bif ((numMul a b up).1) == ((rMul a b up).1) then (bif ((numMul a b up).2) == ((rMul a b up).2) then (bif ((numDiv a b up).1) == ((rDiv a b up).1) then (bif ((numDiv a b up).2) == ((rDiv a b up).2) then (bif ((numRoot a up).1) == ((rRoot a up).1) then ((numRoot a up).2) == ((rRoot a up).2) else false) else false) else false) else false) else false) else (bif (numFloor a b) == (rFloor a b) then (bif ((numMul a b up).1) == ((rMul a b up).1) then (bif ((numMul a b up).2) == ((rMul a b up).2) then (bif ((numDiv a b up).1) == ((rDiv a b up).1) then (bif ((numDiv a b up).2) == ((rDiv a b up).2) then (bif ((numRoot a up).1) == ((rRoot a up).1) then ((numRoot a up).2) == ((rRoot a up).2) else false) else false) else false) else false) else false) else false))) else false) else false) else (bif known1 then (bif (numIn (hNum a)) == (rIn (hNum a)) then (bif (hNum b) == 0 then (bif ((numMul (hNum a) (hNum b) up).1) == ((rMul (hNum a) (hNum b) up).1) then (bif ((numMul (hNum a) (hNum b) up).2) == ((rMul (hNum a) (hNum b) up).2) then (bif ((numDiv (hNum a) (hNum b) up).1) == ((rDiv (hNum a) (hNum b) up).1) then (bif ((numDiv (hNum a) (hNum b) up).2) == ((rDiv (hNum a) (hNum b) up).2) then (bif ((numRoot (hNum a) up).1) == ((rRoot (hNum a) up).1) then ((numRoot (hNum a) up).2) == ((rRoot (hNum a) up).2) else false) else false) else false) else false) else false) else (bif (hNum a) == (-9223372036854775808) then (bif ((numMul (hNum a) (hNum b) up).1) == ((rMul (hNum a) (hNum b) up).1) then (bif ((numMul (hNum a) (hNum b) up).2) == ((rMul (hNum a) (hNum b) up).2) then (bif ((numDiv (hNum a) (hNum b) up).1) == ((rDiv (hNum a) (hNum b) up).1) then (bif ((numDiv (hNum a) (hNum b) up).2) == ((rDiv (hNum a) (hNum b) up).2) then (bif ((numRoot (hNum a) up).1) == ((rRoot (hNum a) up).1) then ((numRoot (hNum a) up).2) == ((rRoot (hNum a) up).2) else false) else false) else false) else false) else false) else (bif (numFloor (hNum a) (hNum b)) == (rFloor (hNum a) (hNum b)) then (bif ((numMul (hNum a) (hNum b) up).1) == ((rMul (hNum a) (hNum b) up).1) then (bif ((numMul (hNum a) (hNum b) up).2) == ((rMul (hNum a) (hNum b) up).2) then (bif ((numDiv (hNum a) (hNum b) up).1) == ((rDiv (hNum a) (hNum b) up).1) then (bif ((numDiv (hNum a) (hNum b) up).2) == ((rDiv (hNum a) (hNum b) up).2) then (bif ((numRoot (hNum a) up).1) == ((rRoot (hNum a) up).1) then ((numRoot (hNum a) up).2) == ((rRoot (hNum a) up).2) else false) else false) else false) else false) else false) else false))) else false) else false))
set_option maxRecDepth 100000 in
theorem c_lawNumTells (a : Int) (b : Int) (up : Bool) (raw : Bool) (H : (lawNumTells a b up raw) = true) : Gets Try.prog 5 #[.int .i64 a, .int .i64 b, .bool up, .bool raw] (.bool true) := by
  refine gets_fin Try.func5 rfl rfl rfl ?_
  refine ac_seq ?_
  refine ac_region_lit ?_
  refine ao 8 rfl rfl (st_assign (v := .bool false) rfl rfl ?_)
  refine ar_nil ?_
  refine ac_seq ?_
  refine ac_seq ?_
  refine ac_region_lit ?_
  refine ao 21 rfl rfl (st_move (v := .bool raw) rfl rfl ?_)
  refine ao 22 rfl rfl (st_un (u := .bool raw) (v := .bool (!raw)) rfl rfl (un_not rfl) ?_)
  refine ar_nil ?_
  refine bool_split (raw) (fun h1 => ?_) (fun h1 => ?_)
  · refine ac_else' (b := !raw) (by rw [h1]; rfl) rfl ?_
    refine ac_skip ?_
    refine ac_seq ?_
    refine ac_region_lit ?_
    refine ao 28 rfl rfl (st_move (v := .int .i64 a) rfl rfl ?_)
    refine ao 29 rfl rfl (st_move (v := .int .i64 b) rfl rfl ?_)
    refine ao 30 rfl rfl (st_move (v := .bool up) rfl rfl ?_)
    refine ao 31 rfl rfl (st_cf (vs := [.int .i64 a, .int .i64 b, .bool up]) (r := .tuple #[.int .i64 ((numMul a b up).1), .bool ((numMul a b up).2)]) (c_numMul a b up) Try.func37 rfl (by decide) rfl rfl rfl ?_)
    refine ao 27 rfl rfl (st_move (v := .tuple #[.int .i64 ((numMul a b up).1), .bool ((numMul a b up).2)]) rfl rfl ?_)
    refine ao 32 rfl rfl (st_ex (vs := [.int .i64 ((numMul a b up).1), .bool ((numMul a b up).2)]) (v := .int .i64 ((numMul a b up).1)) rfl rfl rfl ?_)
    refine ao 33 rfl rfl (st_ex (vs := [.int .i64 ((numMul a b up).1), .bool ((numMul a b up).2)]) (v := .bool ((numMul a b up).2)) rfl rfl rfl ?_)
    refine ao 9 rfl rfl (st_assign (v := .int .i64 ((numMul a b up).1)) rfl rfl ?_)
    refine ao 10 rfl rfl (st_assign (v := .bool ((numMul a b up).2)) rfl rfl ?_)
    refine ar_nil ?_
    refine ac_seq ?_
    refine ac_region_lit ?_
    refine ao 35 rfl rfl (st_move (v := .int .i64 a) rfl rfl ?_)
    refine ao 36 rfl rfl (st_move (v := .int .i64 b) rfl rfl ?_)
    refine ao 37 rfl rfl (st_move (v := .bool up) rfl rfl ?_)
    refine ao 38 rfl rfl (st_cf (vs := [.int .i64 a, .int .i64 b, .bool up]) (r := .tuple #[.int .i64 ((numDiv a b up).1), .bool ((numDiv a b up).2)]) (c_numDiv a b up) Try.func39 rfl (by decide) rfl rfl rfl ?_)
    refine ao 34 rfl rfl (st_move (v := .tuple #[.int .i64 ((numDiv a b up).1), .bool ((numDiv a b up).2)]) rfl rfl ?_)
    refine ao 39 rfl rfl (st_ex (vs := [.int .i64 ((numDiv a b up).1), .bool ((numDiv a b up).2)]) (v := .int .i64 ((numDiv a b up).1)) rfl rfl rfl ?_)
    refine ao 40 rfl rfl (st_ex (vs := [.int .i64 ((numDiv a b up).1), .bool ((numDiv a b up).2)]) (v := .bool ((numDiv a b up).2)) rfl rfl rfl ?_)
    refine ao 11 rfl rfl (st_assign (v := .int .i64 ((numDiv a b up).1)) rfl rfl ?_)
    refine ao 12 rfl rfl (st_assign (v := .bool ((numDiv a b up).2)) rfl rfl ?_)
    refine ar_nil ?_
    refine ac_seq ?_
    refine ac_region_lit ?_
    refine ao 42 rfl rfl (st_move (v := .int .i64 a) rfl rfl ?_)
    refine ao 43 rfl rfl (st_move (v := .bool up) rfl rfl ?_)
    refine ao 44 rfl rfl (st_cf (vs := [.int .i64 a, .bool up]) (r := .tuple #[.int .i64 ((numRoot a up).1), .bool ((numRoot a up).2)]) (c_numRoot a up) Try.func40 rfl (by decide) rfl rfl rfl ?_)
    refine ao 41 rfl rfl (st_move (v := .tuple #[.int .i64 ((numRoot a up).1), .bool ((numRoot a up).2)]) rfl rfl ?_)
    refine ao 45 rfl rfl (st_ex (vs := [.int .i64 ((numRoot a up).1), .bool ((numRoot a up).2)]) (v := .int .i64 ((numRoot a up).1)) rfl rfl rfl ?_)
    refine ao 46 rfl rfl (st_ex (vs := [.int .i64 ((numRoot a up).1), .bool ((numRoot a up).2)]) (v := .bool ((numRoot a up).2)) rfl rfl rfl ?_)
    refine ao 13 rfl rfl (st_assign (v := .int .i64 ((numRoot a up).1)) rfl rfl ?_)
    refine ao 14 rfl rfl (st_assign (v := .bool ((numRoot a up).2)) rfl rfl ?_)
    refine ar_nil ?_
    refine ac_seq ?_
    refine ac_region_lit ?_
    refine ao 48 rfl rfl (st_move (v := .int .i64 a) rfl rfl ?_)
    refine ao 49 rfl rfl (st_move (v := .int .i64 b) rfl rfl ?_)
    refine ao 50 rfl rfl (st_move (v := .bool up) rfl rfl ?_)
    refine ao 51 rfl rfl (st_cf (vs := [.int .i64 a, .int .i64 b, .bool up]) (r := .tuple #[.int .i64 ((rMul a b up).1), .bool ((rMul a b up).2)]) (c_rMul a b up) Try.func43 rfl (by decide) rfl rfl rfl ?_)
    refine ao 47 rfl rfl (st_move (v := .tuple #[.int .i64 ((rMul a b up).1), .bool ((rMul a b up).2)]) rfl rfl ?_)
    refine ao 52 rfl rfl (st_ex (vs := [.int .i64 ((rMul a b up).1), .bool ((rMul a b up).2)]) (v := .int .i64 ((rMul a b up).1)) rfl rfl rfl ?_)
    refine ao 53 rfl rfl (st_ex (vs := [.int .i64 ((rMul a b up).1), .bool ((rMul a b up).2)]) (v := .bool ((rMul a b up).2)) rfl rfl rfl ?_)
    refine ao 15 rfl rfl (st_assign (v := .int .i64 ((rMul a b up).1)) rfl rfl ?_)
    refine ao 16 rfl rfl (st_assign (v := .bool ((rMul a b up).2)) rfl rfl ?_)
    refine ar_nil ?_
    refine ac_seq ?_
    refine ac_region_lit ?_
    refine ao 55 rfl rfl (st_move (v := .int .i64 a) rfl rfl ?_)
    refine ao 56 rfl rfl (st_move (v := .int .i64 b) rfl rfl ?_)
    refine ao 57 rfl rfl (st_move (v := .bool up) rfl rfl ?_)
    refine ao 58 rfl rfl (st_cf (vs := [.int .i64 a, .int .i64 b, .bool up]) (r := .tuple #[.int .i64 ((rDiv a b up).1), .bool ((rDiv a b up).2)]) (c_rDiv a b up) Try.func44 rfl (by decide) rfl rfl rfl ?_)
    refine ao 54 rfl rfl (st_move (v := .tuple #[.int .i64 ((rDiv a b up).1), .bool ((rDiv a b up).2)]) rfl rfl ?_)
    refine ao 59 rfl rfl (st_ex (vs := [.int .i64 ((rDiv a b up).1), .bool ((rDiv a b up).2)]) (v := .int .i64 ((rDiv a b up).1)) rfl rfl rfl ?_)
    refine ao 60 rfl rfl (st_ex (vs := [.int .i64 ((rDiv a b up).1), .bool ((rDiv a b up).2)]) (v := .bool ((rDiv a b up).2)) rfl rfl rfl ?_)
    refine ao 17 rfl rfl (st_assign (v := .int .i64 ((rDiv a b up).1)) rfl rfl ?_)
    refine ao 18 rfl rfl (st_assign (v := .bool ((rDiv a b up).2)) rfl rfl ?_)
    refine ar_nil ?_
    refine ac_seq ?_
    refine ac_region_lit ?_
    refine ao 62 rfl rfl (st_move (v := .int .i64 a) rfl rfl ?_)
    refine ao 63 rfl rfl (st_move (v := .bool up) rfl rfl ?_)
    refine ao 64 rfl rfl (st_cf (vs := [.int .i64 a, .bool up]) (r := .tuple #[.int .i64 ((rRoot a up).1), .bool ((rRoot a up).2)]) (c_rRoot a up) Try.func45 rfl (by decide) rfl rfl rfl ?_)
    refine ao 61 rfl rfl (st_move (v := .tuple #[.int .i64 ((rRoot a up).1), .bool ((rRoot a up).2)]) rfl rfl ?_)
    refine ao 65 rfl rfl (st_ex (vs := [.int .i64 ((rRoot a up).1), .bool ((rRoot a up).2)]) (v := .int .i64 ((rRoot a up).1)) rfl rfl rfl ?_)
    refine ao 66 rfl rfl (st_ex (vs := [.int .i64 ((rRoot a up).1), .bool ((rRoot a up).2)]) (v := .bool ((rRoot a up).2)) rfl rfl rfl ?_)
    refine ao 19 rfl rfl (st_assign (v := .int .i64 ((rRoot a up).1)) rfl rfl ?_)
    refine ao 20 rfl rfl (st_assign (v := .bool ((rRoot a up).2)) rfl rfl ?_)
    refine ar_nil ?_
    refine ac_seq ?_
    refine ac_region_lit ?_
    refine ao 67 rfl rfl (st_cf (vs := []) (r := .bool known1) c_known1 Try.func38 rfl (by decide) rfl rfl rfl ?_)
    refine ao 68 rfl rfl (st_move (v := .bool known1) rfl rfl ?_)
    refine bool_split (known1) (fun h2 => ?_) (fun h2 => nomatch (show false = true from (show (lawNumTells a b up raw) = _ from (eT h1 (eF h2 rfl))).symm.trans H))
    refine ar_gd (d := (some 69)) (by show (known1 == true) = true; rw [h2]; rfl) rfl (st_move (v := .int .i64 a) rfl rfl ?_)
    refine ar_gd (d := (some 70)) (by show (known1 == true) = true; rw [h2]; rfl) rfl (st_cf (vs := [.int .i64 a]) (r := .bool (numIn a)) (c_numIn a) Try.func41 rfl (by decide) rfl rfl rfl ?_)
    refine ar_gd (d := (some 71)) (by show (known1 == true) = true; rw [h2]; rfl) rfl (st_move (v := .int .i64 a) rfl rfl ?_)
    refine ar_gd (d := (some 72)) (by show (known1 == true) = true; rw [h2]; rfl) rfl (st_cf (vs := [.int .i64 a]) (r := .bool (rIn a)) (c_rIn a) Try.func46 rfl (by decide) rfl rfl rfl ?_)
    refine ar_gd (d := (some 73)) (by show (known1 == true) = true; rw [h2]; rfl) rfl (st_bi (u := .bool (numIn a)) (v := .bool (rIn a)) (r := .bool ((numIn a) == (rIn a))) rfl rfl rfl (bb_eql Try.underlying4 rfl) ?_)
    refine ao 74 rfl rfl (st_pkt' (b := known1) (v := .bool ((numIn a) == (rIn a))) h2 rfl rfl rfl ?_)
    refine ao 75 rfl rfl (st_move (v := .bool ((numIn a) == (rIn a))) rfl rfl ?_)
    refine bool_split ((numIn a) == (rIn a)) (fun h3 => ?_) (fun h3 => nomatch (show false = true from (show (lawNumTells a b up raw) = _ from (eT h1 (eT h2 (eF h3 rfl)))).symm.trans H))
    refine ar_gd (d := (some 76)) (by show (((numIn a) == (rIn a)) == true) = true; rw [h3]; rfl) rfl (st_move (v := .int .i64 b) rfl rfl ?_)
    refine ar_gd (d := (some 77)) (by show (((numIn a) == (rIn a)) == true) = true; rw [h3]; rfl) rfl (st_bi (u := .int .i64 b) (v := .int .i64 0) (r := .bool (b == 0)) rfl rfl rfl (bi_eql rfl) ?_)
    refine ar_gd (d := (some 78)) (by show (((numIn a) == (rIn a)) == true) = true; rw [h3]; rfl) rfl (st_move (v := .bool (b == 0)) rfl rfl ?_)
    refine bool_split (b == 0) (fun h4 => ?_) (fun h4 => ?_)
    · refine ar_sk (d := (some 79)) (by show ((b == 0) == false) = false; rw [h4]; rfl) rfl ?_
      refine ar_sk (d := (some 80)) (by show ((b == 0) == false) = false; rw [h4]; rfl) rfl ?_
      refine ar_gd (d := (some 81)) (by show (((numIn a) == (rIn a)) == true) = true; rw [h3]; rfl) rfl (st_pkt' (b := b == 0) (v := .bool true) h4 rfl rfl rfl ?_)
      refine ar_gd (d := (some 82)) (by show (((numIn a) == (rIn a)) == true) = true; rw [h3]; rfl) rfl (st_move (v := .bool true) rfl rfl ?_)
      refine ar_sk (d := (some 83)) rfl rfl ?_
      refine ar_sk (d := (some 84)) rfl rfl ?_
      refine ar_sk (d := (some 85)) rfl rfl ?_
      refine ar_sk (d := (some 86)) rfl rfl ?_
      refine ar_sk (d := (some 87)) rfl rfl ?_
      refine ar_sk (d := (some 88)) rfl rfl ?_
      refine ar_sk (d := (some 89)) rfl rfl ?_
      refine ar_gd (d := (some 90)) (by show (((numIn a) == (rIn a)) == true) = true; rw [h3]; rfl) rfl (st_pkt (v := .bool true) rfl rfl rfl ?_)
      refine ao 91 rfl rfl (st_pkt' (b := (numIn a) == (rIn a)) (v := .bool true) h3 rfl rfl rfl ?_)
      refine ao 92 rfl rfl (st_move (v := .bool true) rfl rfl ?_)
      refine ar_gd (d := (some 93)) rfl rfl (st_move (v := .int .i64 ((numMul a b up).1)) rfl rfl ?_)
      refine ar_gd (d := (some 94)) rfl rfl (st_move (v := .int .i64 ((rMul a b up).1)) rfl rfl ?_)
      refine ar_gd (d := (some 95)) rfl rfl (st_bi (u := .int .i64 ((numMul a b up).1)) (v := .int .i64 ((rMul a b up).1)) (r := .bool (((numMul a b up).1) == ((rMul a b up).1))) rfl rfl rfl (bi_eql rfl) ?_)
      refine ao 96 rfl rfl (st_pkt (v := .bool (((numMul a b up).1) == ((rMul a b up).1))) rfl rfl rfl ?_)
      refine ao 97 rfl rfl (st_move (v := .bool (((numMul a b up).1) == ((rMul a b up).1))) rfl rfl ?_)
      refine bool_split (((numMul a b up).1) == ((rMul a b up).1)) (fun h5 => ?_) (fun h5 => nomatch (show false = true from (show (lawNumTells a b up raw) = _ from (eT h1 (eT h2 (eT h3 (eT h4 (eF h5 rfl)))))).symm.trans H))
      refine ar_gd (d := (some 98)) (by show ((((numMul a b up).1) == ((rMul a b up).1)) == true) = true; rw [h5]; rfl) rfl (st_move (v := .bool ((numMul a b up).2)) rfl rfl ?_)
      refine ar_gd (d := (some 99)) (by show ((((numMul a b up).1) == ((rMul a b up).1)) == true) = true; rw [h5]; rfl) rfl (st_move (v := .bool ((rMul a b up).2)) rfl rfl ?_)
      refine ar_gd (d := (some 100)) (by show ((((numMul a b up).1) == ((rMul a b up).1)) == true) = true; rw [h5]; rfl) rfl (st_bi (u := .bool ((numMul a b up).2)) (v := .bool ((rMul a b up).2)) (r := .bool (((numMul a b up).2) == ((rMul a b up).2))) rfl rfl rfl (bb_eql Try.underlying4 rfl) ?_)
      refine ao 101 rfl rfl (st_pkt' (b := ((numMul a b up).1) == ((rMul a b up).1)) (v := .bool (((numMul a b up).2) == ((rMul a b up).2))) h5 rfl rfl rfl ?_)
      refine ao 102 rfl rfl (st_move (v := .bool (((numMul a b up).2) == ((rMul a b up).2))) rfl rfl ?_)
      refine bool_split (((numMul a b up).2) == ((rMul a b up).2)) (fun h6 => ?_) (fun h6 => nomatch (show false = true from (show (lawNumTells a b up raw) = _ from (eT h1 (eT h2 (eT h3 (eT h4 (eT h5 (eF h6 rfl))))))).symm.trans H))
      refine ar_gd (d := (some 103)) (by show ((((numMul a b up).2) == ((rMul a b up).2)) == true) = true; rw [h6]; rfl) rfl (st_move (v := .int .i64 ((numDiv a b up).1)) rfl rfl ?_)
      refine ar_gd (d := (some 104)) (by show ((((numMul a b up).2) == ((rMul a b up).2)) == true) = true; rw [h6]; rfl) rfl (st_move (v := .int .i64 ((rDiv a b up).1)) rfl rfl ?_)
      refine ar_gd (d := (some 105)) (by show ((((numMul a b up).2) == ((rMul a b up).2)) == true) = true; rw [h6]; rfl) rfl (st_bi (u := .int .i64 ((numDiv a b up).1)) (v := .int .i64 ((rDiv a b up).1)) (r := .bool (((numDiv a b up).1) == ((rDiv a b up).1))) rfl rfl rfl (bi_eql rfl) ?_)
      refine ao 106 rfl rfl (st_pkt' (b := ((numMul a b up).2) == ((rMul a b up).2)) (v := .bool (((numDiv a b up).1) == ((rDiv a b up).1))) h6 rfl rfl rfl ?_)
      refine ao 107 rfl rfl (st_move (v := .bool (((numDiv a b up).1) == ((rDiv a b up).1))) rfl rfl ?_)
      refine bool_split (((numDiv a b up).1) == ((rDiv a b up).1)) (fun h7 => ?_) (fun h7 => nomatch (show false = true from (show (lawNumTells a b up raw) = _ from (eT h1 (eT h2 (eT h3 (eT h4 (eT h5 (eT h6 (eF h7 rfl)))))))).symm.trans H))
      refine ar_gd (d := (some 108)) (by show ((((numDiv a b up).1) == ((rDiv a b up).1)) == true) = true; rw [h7]; rfl) rfl (st_move (v := .bool ((numDiv a b up).2)) rfl rfl ?_)
      refine ar_gd (d := (some 109)) (by show ((((numDiv a b up).1) == ((rDiv a b up).1)) == true) = true; rw [h7]; rfl) rfl (st_move (v := .bool ((rDiv a b up).2)) rfl rfl ?_)
      refine ar_gd (d := (some 110)) (by show ((((numDiv a b up).1) == ((rDiv a b up).1)) == true) = true; rw [h7]; rfl) rfl (st_bi (u := .bool ((numDiv a b up).2)) (v := .bool ((rDiv a b up).2)) (r := .bool (((numDiv a b up).2) == ((rDiv a b up).2))) rfl rfl rfl (bb_eql Try.underlying4 rfl) ?_)
      refine ao 111 rfl rfl (st_pkt' (b := ((numDiv a b up).1) == ((rDiv a b up).1)) (v := .bool (((numDiv a b up).2) == ((rDiv a b up).2))) h7 rfl rfl rfl ?_)
      refine ao 112 rfl rfl (st_move (v := .bool (((numDiv a b up).2) == ((rDiv a b up).2))) rfl rfl ?_)
      refine bool_split (((numDiv a b up).2) == ((rDiv a b up).2)) (fun h8 => ?_) (fun h8 => nomatch (show false = true from (show (lawNumTells a b up raw) = _ from (eT h1 (eT h2 (eT h3 (eT h4 (eT h5 (eT h6 (eT h7 (eF h8 rfl))))))))).symm.trans H))
      refine ar_gd (d := (some 113)) (by show ((((numDiv a b up).2) == ((rDiv a b up).2)) == true) = true; rw [h8]; rfl) rfl (st_move (v := .int .i64 ((numRoot a up).1)) rfl rfl ?_)
      refine ar_gd (d := (some 114)) (by show ((((numDiv a b up).2) == ((rDiv a b up).2)) == true) = true; rw [h8]; rfl) rfl (st_move (v := .int .i64 ((rRoot a up).1)) rfl rfl ?_)
      refine ar_gd (d := (some 115)) (by show ((((numDiv a b up).2) == ((rDiv a b up).2)) == true) = true; rw [h8]; rfl) rfl (st_bi (u := .int .i64 ((numRoot a up).1)) (v := .int .i64 ((rRoot a up).1)) (r := .bool (((numRoot a up).1) == ((rRoot a up).1))) rfl rfl rfl (bi_eql rfl) ?_)
      refine ao 116 rfl rfl (st_pkt' (b := ((numDiv a b up).2) == ((rDiv a b up).2)) (v := .bool (((numRoot a up).1) == ((rRoot a up).1))) h8 rfl rfl rfl ?_)
      refine ao 117 rfl rfl (st_move (v := .bool (((numRoot a up).1) == ((rRoot a up).1))) rfl rfl ?_)
      refine bool_split (((numRoot a up).1) == ((rRoot a up).1)) (fun h9 => ?_) (fun h9 => nomatch (show false = true from (show (lawNumTells a b up raw) = _ from (eT h1 (eT h2 (eT h3 (eT h4 (eT h5 (eT h6 (eT h7 (eT h8 (eF h9 rfl)))))))))).symm.trans H))
      refine ar_gd (d := (some 118)) (by show ((((numRoot a up).1) == ((rRoot a up).1)) == true) = true; rw [h9]; rfl) rfl (st_move (v := .bool ((numRoot a up).2)) rfl rfl ?_)
      refine ar_gd (d := (some 119)) (by show ((((numRoot a up).1) == ((rRoot a up).1)) == true) = true; rw [h9]; rfl) rfl (st_move (v := .bool ((rRoot a up).2)) rfl rfl ?_)
      refine ar_gd (d := (some 120)) (by show ((((numRoot a up).1) == ((rRoot a up).1)) == true) = true; rw [h9]; rfl) rfl (st_bi (u := .bool ((numRoot a up).2)) (v := .bool ((rRoot a up).2)) (r := .bool (((numRoot a up).2) == ((rRoot a up).2))) rfl rfl rfl (bb_eql Try.underlying4 rfl) ?_)
      refine ao 121 rfl rfl (st_pkt' (b := ((numRoot a up).1) == ((rRoot a up).1)) (v := .bool (((numRoot a up).2) == ((rRoot a up).2))) h9 rfl rfl rfl ?_)
      refine ao 8 rfl rfl (st_assign (v := .bool (((numRoot a up).2) == ((rRoot a up).2))) rfl rfl ?_)
      refine ar_nil ?_
      refine ac_ret ?_
      exact fin_eq (v := .bool (((numRoot a up).2) == ((rRoot a up).2))) (congrArg Value.bool (show (((numRoot a up).2) == ((rRoot a up).2)) = true from (show (lawNumTells a b up raw) = _ from (eT h1 (eT h2 (eT h3 (eT h4 (eT h5 (eT h6 (eT h7 (eT h8 (eT h9 rfl)))))))))).symm.trans H)) (fin_ret (res_tmp rfl rfl))
    · refine ar_gd (d := (some 79)) (by show ((b == 0) == false) = true; rw [h4]; rfl) rfl (st_move (v := .int .i64 a) rfl rfl ?_)
      refine ar_gd (d := (some 80)) (by show ((b == 0) == false) = true; rw [h4]; rfl) rfl (st_bi (u := .int .i64 a) (v := .int .i64 (-9223372036854775808)) (r := .bool (a == (-9223372036854775808))) rfl rfl rfl (bi_eql rfl) ?_)
      refine ar_gd (d := (some 81)) (by show (((numIn a) == (rIn a)) == true) = true; rw [h3]; rfl) rfl (st_pkf' (b := b == 0) (v := .bool (a == (-9223372036854775808))) h4 rfl rfl rfl ?_)
      refine ar_gd (d := (some 82)) (by show (((numIn a) == (rIn a)) == true) = true; rw [h3]; rfl) rfl (st_move (v := .bool (a == (-9223372036854775808))) rfl rfl ?_)
      refine bool_split (a == (-9223372036854775808)) (fun h5 => ?_) (fun h5 => ?_)
      · refine ar_sk (d := (some 83)) (by show ((a == (-9223372036854775808)) == false) = false; rw [h5]; rfl) rfl ?_
        refine ar_sk (d := (some 84)) (by show ((a == (-9223372036854775808)) == false) = false; rw [h5]; rfl) rfl ?_
        refine ar_sk (d := (some 85)) (by show ((a == (-9223372036854775808)) == false) = false; rw [h5]; rfl) rfl ?_
        refine ar_sk (d := (some 86)) (by show ((a == (-9223372036854775808)) == false) = false; rw [h5]; rfl) rfl ?_
        refine ar_sk (d := (some 87)) (by show ((a == (-9223372036854775808)) == false) = false; rw [h5]; rfl) rfl ?_
        refine ar_sk (d := (some 88)) (by show ((a == (-9223372036854775808)) == false) = false; rw [h5]; rfl) rfl ?_
        refine ar_sk (d := (some 89)) (by show ((a == (-9223372036854775808)) == false) = false; rw [h5]; rfl) rfl ?_
        refine ar_gd (d := (some 90)) (by show (((numIn a) == (rIn a)) == true) = true; rw [h3]; rfl) rfl (st_pkt' (b := a == (-9223372036854775808)) (v := .bool true) h5 rfl rfl rfl ?_)
        refine ao 91 rfl rfl (st_pkt' (b := (numIn a) == (rIn a)) (v := .bool true) h3 rfl rfl rfl ?_)
        refine ao 92 rfl rfl (st_move (v := .bool true) rfl rfl ?_)
        refine ar_gd (d := (some 93)) rfl rfl (st_move (v := .int .i64 ((numMul a b up).1)) rfl rfl ?_)
        refine ar_gd (d := (some 94)) rfl rfl (st_move (v := .int .i64 ((rMul a b up).1)) rfl rfl ?_)
        refine ar_gd (d := (some 95)) rfl rfl (st_bi (u := .int .i64 ((numMul a b up).1)) (v := .int .i64 ((rMul a b up).1)) (r := .bool (((numMul a b up).1) == ((rMul a b up).1))) rfl rfl rfl (bi_eql rfl) ?_)
        refine ao 96 rfl rfl (st_pkt (v := .bool (((numMul a b up).1) == ((rMul a b up).1))) rfl rfl rfl ?_)
        refine ao 97 rfl rfl (st_move (v := .bool (((numMul a b up).1) == ((rMul a b up).1))) rfl rfl ?_)
        refine bool_split (((numMul a b up).1) == ((rMul a b up).1)) (fun h6 => ?_) (fun h6 => nomatch (show false = true from (show (lawNumTells a b up raw) = _ from (eT h1 (eT h2 (eT h3 (eF h4 (eT h5 (eF h6 rfl))))))).symm.trans H))
        refine ar_gd (d := (some 98)) (by show ((((numMul a b up).1) == ((rMul a b up).1)) == true) = true; rw [h6]; rfl) rfl (st_move (v := .bool ((numMul a b up).2)) rfl rfl ?_)
        refine ar_gd (d := (some 99)) (by show ((((numMul a b up).1) == ((rMul a b up).1)) == true) = true; rw [h6]; rfl) rfl (st_move (v := .bool ((rMul a b up).2)) rfl rfl ?_)
        refine ar_gd (d := (some 100)) (by show ((((numMul a b up).1) == ((rMul a b up).1)) == true) = true; rw [h6]; rfl) rfl (st_bi (u := .bool ((numMul a b up).2)) (v := .bool ((rMul a b up).2)) (r := .bool (((numMul a b up).2) == ((rMul a b up).2))) rfl rfl rfl (bb_eql Try.underlying4 rfl) ?_)
        refine ao 101 rfl rfl (st_pkt' (b := ((numMul a b up).1) == ((rMul a b up).1)) (v := .bool (((numMul a b up).2) == ((rMul a b up).2))) h6 rfl rfl rfl ?_)
        refine ao 102 rfl rfl (st_move (v := .bool (((numMul a b up).2) == ((rMul a b up).2))) rfl rfl ?_)
        refine bool_split (((numMul a b up).2) == ((rMul a b up).2)) (fun h7 => ?_) (fun h7 => nomatch (show false = true from (show (lawNumTells a b up raw) = _ from (eT h1 (eT h2 (eT h3 (eF h4 (eT h5 (eT h6 (eF h7 rfl)))))))).symm.trans H))
        refine ar_gd (d := (some 103)) (by show ((((numMul a b up).2) == ((rMul a b up).2)) == true) = true; rw [h7]; rfl) rfl (st_move (v := .int .i64 ((numDiv a b up).1)) rfl rfl ?_)
        refine ar_gd (d := (some 104)) (by show ((((numMul a b up).2) == ((rMul a b up).2)) == true) = true; rw [h7]; rfl) rfl (st_move (v := .int .i64 ((rDiv a b up).1)) rfl rfl ?_)
        refine ar_gd (d := (some 105)) (by show ((((numMul a b up).2) == ((rMul a b up).2)) == true) = true; rw [h7]; rfl) rfl (st_bi (u := .int .i64 ((numDiv a b up).1)) (v := .int .i64 ((rDiv a b up).1)) (r := .bool (((numDiv a b up).1) == ((rDiv a b up).1))) rfl rfl rfl (bi_eql rfl) ?_)
        refine ao 106 rfl rfl (st_pkt' (b := ((numMul a b up).2) == ((rMul a b up).2)) (v := .bool (((numDiv a b up).1) == ((rDiv a b up).1))) h7 rfl rfl rfl ?_)
        refine ao 107 rfl rfl (st_move (v := .bool (((numDiv a b up).1) == ((rDiv a b up).1))) rfl rfl ?_)
        refine bool_split (((numDiv a b up).1) == ((rDiv a b up).1)) (fun h8 => ?_) (fun h8 => nomatch (show false = true from (show (lawNumTells a b up raw) = _ from (eT h1 (eT h2 (eT h3 (eF h4 (eT h5 (eT h6 (eT h7 (eF h8 rfl))))))))).symm.trans H))
        refine ar_gd (d := (some 108)) (by show ((((numDiv a b up).1) == ((rDiv a b up).1)) == true) = true; rw [h8]; rfl) rfl (st_move (v := .bool ((numDiv a b up).2)) rfl rfl ?_)
        refine ar_gd (d := (some 109)) (by show ((((numDiv a b up).1) == ((rDiv a b up).1)) == true) = true; rw [h8]; rfl) rfl (st_move (v := .bool ((rDiv a b up).2)) rfl rfl ?_)
        refine ar_gd (d := (some 110)) (by show ((((numDiv a b up).1) == ((rDiv a b up).1)) == true) = true; rw [h8]; rfl) rfl (st_bi (u := .bool ((numDiv a b up).2)) (v := .bool ((rDiv a b up).2)) (r := .bool (((numDiv a b up).2) == ((rDiv a b up).2))) rfl rfl rfl (bb_eql Try.underlying4 rfl) ?_)
        refine ao 111 rfl rfl (st_pkt' (b := ((numDiv a b up).1) == ((rDiv a b up).1)) (v := .bool (((numDiv a b up).2) == ((rDiv a b up).2))) h8 rfl rfl rfl ?_)
        refine ao 112 rfl rfl (st_move (v := .bool (((numDiv a b up).2) == ((rDiv a b up).2))) rfl rfl ?_)
        refine bool_split (((numDiv a b up).2) == ((rDiv a b up).2)) (fun h9 => ?_) (fun h9 => nomatch (show false = true from (show (lawNumTells a b up raw) = _ from (eT h1 (eT h2 (eT h3 (eF h4 (eT h5 (eT h6 (eT h7 (eT h8 (eF h9 rfl)))))))))).symm.trans H))
        refine ar_gd (d := (some 113)) (by show ((((numDiv a b up).2) == ((rDiv a b up).2)) == true) = true; rw [h9]; rfl) rfl (st_move (v := .int .i64 ((numRoot a up).1)) rfl rfl ?_)
        refine ar_gd (d := (some 114)) (by show ((((numDiv a b up).2) == ((rDiv a b up).2)) == true) = true; rw [h9]; rfl) rfl (st_move (v := .int .i64 ((rRoot a up).1)) rfl rfl ?_)
        refine ar_gd (d := (some 115)) (by show ((((numDiv a b up).2) == ((rDiv a b up).2)) == true) = true; rw [h9]; rfl) rfl (st_bi (u := .int .i64 ((numRoot a up).1)) (v := .int .i64 ((rRoot a up).1)) (r := .bool (((numRoot a up).1) == ((rRoot a up).1))) rfl rfl rfl (bi_eql rfl) ?_)
        refine ao 116 rfl rfl (st_pkt' (b := ((numDiv a b up).2) == ((rDiv a b up).2)) (v := .bool (((numRoot a up).1) == ((rRoot a up).1))) h9 rfl rfl rfl ?_)
        refine ao 117 rfl rfl (st_move (v := .bool (((numRoot a up).1) == ((rRoot a up).1))) rfl rfl ?_)
        refine bool_split (((numRoot a up).1) == ((rRoot a up).1)) (fun h10 => ?_) (fun h10 => nomatch (show false = true from (show (lawNumTells a b up raw) = _ from (eT h1 (eT h2 (eT h3 (eF h4 (eT h5 (eT h6 (eT h7 (eT h8 (eT h9 (eF h10 rfl))))))))))).symm.trans H))
        refine ar_gd (d := (some 118)) (by show ((((numRoot a up).1) == ((rRoot a up).1)) == true) = true; rw [h10]; rfl) rfl (st_move (v := .bool ((numRoot a up).2)) rfl rfl ?_)
        refine ar_gd (d := (some 119)) (by show ((((numRoot a up).1) == ((rRoot a up).1)) == true) = true; rw [h10]; rfl) rfl (st_move (v := .bool ((rRoot a up).2)) rfl rfl ?_)
        refine ar_gd (d := (some 120)) (by show ((((numRoot a up).1) == ((rRoot a up).1)) == true) = true; rw [h10]; rfl) rfl (st_bi (u := .bool ((numRoot a up).2)) (v := .bool ((rRoot a up).2)) (r := .bool (((numRoot a up).2) == ((rRoot a up).2))) rfl rfl rfl (bb_eql Try.underlying4 rfl) ?_)
        refine ao 121 rfl rfl (st_pkt' (b := ((numRoot a up).1) == ((rRoot a up).1)) (v := .bool (((numRoot a up).2) == ((rRoot a up).2))) h10 rfl rfl rfl ?_)
        refine ao 8 rfl rfl (st_assign (v := .bool (((numRoot a up).2) == ((rRoot a up).2))) rfl rfl ?_)
        refine ar_nil ?_
        refine ac_ret ?_
        exact fin_eq (v := .bool (((numRoot a up).2) == ((rRoot a up).2))) (congrArg Value.bool (show (((numRoot a up).2) == ((rRoot a up).2)) = true from (show (lawNumTells a b up raw) = _ from (eT h1 (eT h2 (eT h3 (eF h4 (eT h5 (eT h6 (eT h7 (eT h8 (eT h9 (eT h10 rfl))))))))))).symm.trans H)) (fin_ret (res_tmp rfl rfl))
      · refine ar_gd (d := (some 83)) (by show ((a == (-9223372036854775808)) == false) = true; rw [h5]; rfl) rfl (st_move (v := .int .i64 a) rfl rfl ?_)
        refine ar_gd (d := (some 84)) (by show ((a == (-9223372036854775808)) == false) = true; rw [h5]; rfl) rfl (st_move (v := .int .i64 b) rfl rfl ?_)
        refine ar_gd (d := (some 85)) (by show ((a == (-9223372036854775808)) == false) = true; rw [h5]; rfl) rfl (st_cf (vs := [.int .i64 a, .int .i64 b]) (r := .int .i64 (numFloor a b)) (c_numFloor a b) Try.func42 rfl (by decide) rfl rfl rfl ?_)
        refine ar_gd (d := (some 86)) (by show ((a == (-9223372036854775808)) == false) = true; rw [h5]; rfl) rfl (st_move (v := .int .i64 a) rfl rfl ?_)
        refine ar_gd (d := (some 87)) (by show ((a == (-9223372036854775808)) == false) = true; rw [h5]; rfl) rfl (st_move (v := .int .i64 b) rfl rfl ?_)
        refine ar_gd (d := (some 88)) (by show ((a == (-9223372036854775808)) == false) = true; rw [h5]; rfl) rfl (st_cf (vs := [.int .i64 a, .int .i64 b]) (r := .int .i64 (rFloor a b)) (c_rFloor a b) Try.func47 rfl (by decide) rfl rfl rfl ?_)
        refine ar_gd (d := (some 89)) (by show ((a == (-9223372036854775808)) == false) = true; rw [h5]; rfl) rfl (st_bi (u := .int .i64 (numFloor a b)) (v := .int .i64 (rFloor a b)) (r := .bool ((numFloor a b) == (rFloor a b))) rfl rfl rfl (bi_eql rfl) ?_)
        refine ar_gd (d := (some 90)) (by show (((numIn a) == (rIn a)) == true) = true; rw [h3]; rfl) rfl (st_pkf' (b := a == (-9223372036854775808)) (v := .bool ((numFloor a b) == (rFloor a b))) h5 rfl rfl rfl ?_)
        refine ao 91 rfl rfl (st_pkt' (b := (numIn a) == (rIn a)) (v := .bool ((numFloor a b) == (rFloor a b))) h3 rfl rfl rfl ?_)
        refine ao 92 rfl rfl (st_move (v := .bool ((numFloor a b) == (rFloor a b))) rfl rfl ?_)
        refine bool_split ((numFloor a b) == (rFloor a b)) (fun h6 => ?_) (fun h6 => nomatch (show false = true from (show (lawNumTells a b up raw) = _ from (eT h1 (eT h2 (eT h3 (eF h4 (eF h5 (eF h6 rfl))))))).symm.trans H))
        refine ar_gd (d := (some 93)) (by show (((numFloor a b) == (rFloor a b)) == true) = true; rw [h6]; rfl) rfl (st_move (v := .int .i64 ((numMul a b up).1)) rfl rfl ?_)
        refine ar_gd (d := (some 94)) (by show (((numFloor a b) == (rFloor a b)) == true) = true; rw [h6]; rfl) rfl (st_move (v := .int .i64 ((rMul a b up).1)) rfl rfl ?_)
        refine ar_gd (d := (some 95)) (by show (((numFloor a b) == (rFloor a b)) == true) = true; rw [h6]; rfl) rfl (st_bi (u := .int .i64 ((numMul a b up).1)) (v := .int .i64 ((rMul a b up).1)) (r := .bool (((numMul a b up).1) == ((rMul a b up).1))) rfl rfl rfl (bi_eql rfl) ?_)
        refine ao 96 rfl rfl (st_pkt' (b := (numFloor a b) == (rFloor a b)) (v := .bool (((numMul a b up).1) == ((rMul a b up).1))) h6 rfl rfl rfl ?_)
        refine ao 97 rfl rfl (st_move (v := .bool (((numMul a b up).1) == ((rMul a b up).1))) rfl rfl ?_)
        refine bool_split (((numMul a b up).1) == ((rMul a b up).1)) (fun h7 => ?_) (fun h7 => nomatch (show false = true from (show (lawNumTells a b up raw) = _ from (eT h1 (eT h2 (eT h3 (eF h4 (eF h5 (eT h6 (eF h7 rfl)))))))).symm.trans H))
        refine ar_gd (d := (some 98)) (by show ((((numMul a b up).1) == ((rMul a b up).1)) == true) = true; rw [h7]; rfl) rfl (st_move (v := .bool ((numMul a b up).2)) rfl rfl ?_)
        refine ar_gd (d := (some 99)) (by show ((((numMul a b up).1) == ((rMul a b up).1)) == true) = true; rw [h7]; rfl) rfl (st_move (v := .bool ((rMul a b up).2)) rfl rfl ?_)
        refine ar_gd (d := (some 100)) (by show ((((numMul a b up).1) == ((rMul a b up).1)) == true) = true; rw [h7]; rfl) rfl (st_bi (u := .bool ((numMul a b up).2)) (v := .bool ((rMul a b up).2)) (r := .bool (((numMul a b up).2) == ((rMul a b up).2))) rfl rfl rfl (bb_eql Try.underlying4 rfl) ?_)
        refine ao 101 rfl rfl (st_pkt' (b := ((numMul a b up).1) == ((rMul a b up).1)) (v := .bool (((numMul a b up).2) == ((rMul a b up).2))) h7 rfl rfl rfl ?_)
        refine ao 102 rfl rfl (st_move (v := .bool (((numMul a b up).2) == ((rMul a b up).2))) rfl rfl ?_)
        refine bool_split (((numMul a b up).2) == ((rMul a b up).2)) (fun h8 => ?_) (fun h8 => nomatch (show false = true from (show (lawNumTells a b up raw) = _ from (eT h1 (eT h2 (eT h3 (eF h4 (eF h5 (eT h6 (eT h7 (eF h8 rfl))))))))).symm.trans H))
        refine ar_gd (d := (some 103)) (by show ((((numMul a b up).2) == ((rMul a b up).2)) == true) = true; rw [h8]; rfl) rfl (st_move (v := .int .i64 ((numDiv a b up).1)) rfl rfl ?_)
        refine ar_gd (d := (some 104)) (by show ((((numMul a b up).2) == ((rMul a b up).2)) == true) = true; rw [h8]; rfl) rfl (st_move (v := .int .i64 ((rDiv a b up).1)) rfl rfl ?_)
        refine ar_gd (d := (some 105)) (by show ((((numMul a b up).2) == ((rMul a b up).2)) == true) = true; rw [h8]; rfl) rfl (st_bi (u := .int .i64 ((numDiv a b up).1)) (v := .int .i64 ((rDiv a b up).1)) (r := .bool (((numDiv a b up).1) == ((rDiv a b up).1))) rfl rfl rfl (bi_eql rfl) ?_)
        refine ao 106 rfl rfl (st_pkt' (b := ((numMul a b up).2) == ((rMul a b up).2)) (v := .bool (((numDiv a b up).1) == ((rDiv a b up).1))) h8 rfl rfl rfl ?_)
        refine ao 107 rfl rfl (st_move (v := .bool (((numDiv a b up).1) == ((rDiv a b up).1))) rfl rfl ?_)
        refine bool_split (((numDiv a b up).1) == ((rDiv a b up).1)) (fun h9 => ?_) (fun h9 => nomatch (show false = true from (show (lawNumTells a b up raw) = _ from (eT h1 (eT h2 (eT h3 (eF h4 (eF h5 (eT h6 (eT h7 (eT h8 (eF h9 rfl)))))))))).symm.trans H))
        refine ar_gd (d := (some 108)) (by show ((((numDiv a b up).1) == ((rDiv a b up).1)) == true) = true; rw [h9]; rfl) rfl (st_move (v := .bool ((numDiv a b up).2)) rfl rfl ?_)
        refine ar_gd (d := (some 109)) (by show ((((numDiv a b up).1) == ((rDiv a b up).1)) == true) = true; rw [h9]; rfl) rfl (st_move (v := .bool ((rDiv a b up).2)) rfl rfl ?_)
        refine ar_gd (d := (some 110)) (by show ((((numDiv a b up).1) == ((rDiv a b up).1)) == true) = true; rw [h9]; rfl) rfl (st_bi (u := .bool ((numDiv a b up).2)) (v := .bool ((rDiv a b up).2)) (r := .bool (((numDiv a b up).2) == ((rDiv a b up).2))) rfl rfl rfl (bb_eql Try.underlying4 rfl) ?_)
        refine ao 111 rfl rfl (st_pkt' (b := ((numDiv a b up).1) == ((rDiv a b up).1)) (v := .bool (((numDiv a b up).2) == ((rDiv a b up).2))) h9 rfl rfl rfl ?_)
        refine ao 112 rfl rfl (st_move (v := .bool (((numDiv a b up).2) == ((rDiv a b up).2))) rfl rfl ?_)
        refine bool_split (((numDiv a b up).2) == ((rDiv a b up).2)) (fun h10 => ?_) (fun h10 => nomatch (show false = true from (show (lawNumTells a b up raw) = _ from (eT h1 (eT h2 (eT h3 (eF h4 (eF h5 (eT h6 (eT h7 (eT h8 (eT h9 (eF h10 rfl))))))))))).symm.trans H))
        refine ar_gd (d := (some 113)) (by show ((((numDiv a b up).2) == ((rDiv a b up).2)) == true) = true; rw [h10]; rfl) rfl (st_move (v := .int .i64 ((numRoot a up).1)) rfl rfl ?_)
        refine ar_gd (d := (some 114)) (by show ((((numDiv a b up).2) == ((rDiv a b up).2)) == true) = true; rw [h10]; rfl) rfl (st_move (v := .int .i64 ((rRoot a up).1)) rfl rfl ?_)
        refine ar_gd (d := (some 115)) (by show ((((numDiv a b up).2) == ((rDiv a b up).2)) == true) = true; rw [h10]; rfl) rfl (st_bi (u := .int .i64 ((numRoot a up).1)) (v := .int .i64 ((rRoot a up).1)) (r := .bool (((numRoot a up).1) == ((rRoot a up).1))) rfl rfl rfl (bi_eql rfl) ?_)
        refine ao 116 rfl rfl (st_pkt' (b := ((numDiv a b up).2) == ((rDiv a b up).2)) (v := .bool (((numRoot a up).1) == ((rRoot a up).1))) h10 rfl rfl rfl ?_)
        refine ao 117 rfl rfl (st_move (v := .bool (((numRoot a up).1) == ((rRoot a up).1))) rfl rfl ?_)
        refine bool_split (((numRoot a up).1) == ((rRoot a up).1)) (fun h11 => ?_) (fun h11 => nomatch (show false = true from (show (lawNumTells a b up raw) = _ from (eT h1 (eT h2 (eT h3 (eF h4 (eF h5 (eT h6 (eT h7 (eT h8 (eT h9 (eT h10 (eF h11 rfl)))))))))))).symm.trans H))
        refine ar_gd (d := (some 118)) (by show ((((numRoot a up).1) == ((rRoot a up).1)) == true) = true; rw [h11]; rfl) rfl (st_move (v := .bool ((numRoot a up).2)) rfl rfl ?_)
        refine ar_gd (d := (some 119)) (by show ((((numRoot a up).1) == ((rRoot a up).1)) == true) = true; rw [h11]; rfl) rfl (st_move (v := .bool ((rRoot a up).2)) rfl rfl ?_)
        refine ar_gd (d := (some 120)) (by show ((((numRoot a up).1) == ((rRoot a up).1)) == true) = true; rw [h11]; rfl) rfl (st_bi (u := .bool ((numRoot a up).2)) (v := .bool ((rRoot a up).2)) (r := .bool (((numRoot a up).2) == ((rRoot a up).2))) rfl rfl rfl (bb_eql Try.underlying4 rfl) ?_)
        refine ao 121 rfl rfl (st_pkt' (b := ((numRoot a up).1) == ((rRoot a up).1)) (v := .bool (((numRoot a up).2) == ((rRoot a up).2))) h11 rfl rfl rfl ?_)
        refine ao 8 rfl rfl (st_assign (v := .bool (((numRoot a up).2) == ((rRoot a up).2))) rfl rfl ?_)
        refine ar_nil ?_
        refine ac_ret ?_
        exact fin_eq (v := .bool (((numRoot a up).2) == ((rRoot a up).2))) (congrArg Value.bool (show (((numRoot a up).2) == ((rRoot a up).2)) = true from (show (lawNumTells a b up raw) = _ from (eT h1 (eT h2 (eT h3 (eF h4 (eF h5 (eT h6 (eT h7 (eT h8 (eT h9 (eT h10 (eT h11 rfl)))))))))))).symm.trans H)) (fin_ret (res_tmp rfl rfl))
  · refine ac_then' (b := !raw) (by rw [h1]; rfl) rfl ?_
    refine ac_seq ?_
    refine ac_region_lit ?_
    refine ao 23 rfl rfl (st_move (v := .int .i64 a) rfl rfl ?_)
    refine ao 24 rfl rfl (st_cf (vs := [.int .i64 a]) (r := .int .i64 (hNum a)) (c_hNum a) Try.func36 rfl (by decide) rfl rfl rfl ?_)
    refine ao 0 rfl rfl (st_assign (v := .int .i64 (hNum a)) rfl rfl ?_)
    refine ar_nil ?_
    refine ac_region_lit ?_
    refine ao 25 rfl rfl (st_move (v := .int .i64 b) rfl rfl ?_)
    refine ao 26 rfl rfl (st_cf (vs := [.int .i64 b]) (r := .int .i64 (hNum b)) (c_hNum b) Try.func36 rfl (by decide) rfl rfl rfl ?_)
    refine ao 1 rfl rfl (st_assign (v := .int .i64 (hNum b)) rfl rfl ?_)
    refine ar_nil ?_
    refine ac_seq ?_
    refine ac_region_lit ?_
    refine ao 28 rfl rfl (st_move (v := .int .i64 (hNum a)) rfl rfl ?_)
    refine ao 29 rfl rfl (st_move (v := .int .i64 (hNum b)) rfl rfl ?_)
    refine ao 30 rfl rfl (st_move (v := .bool up) rfl rfl ?_)
    refine ao 31 rfl rfl (st_cf (vs := [.int .i64 (hNum a), .int .i64 (hNum b), .bool up]) (r := .tuple #[.int .i64 ((numMul (hNum a) (hNum b) up).1), .bool ((numMul (hNum a) (hNum b) up).2)]) (c_numMul (hNum a) (hNum b) up) Try.func37 rfl (by decide) rfl rfl rfl ?_)
    refine ao 27 rfl rfl (st_move (v := .tuple #[.int .i64 ((numMul (hNum a) (hNum b) up).1), .bool ((numMul (hNum a) (hNum b) up).2)]) rfl rfl ?_)
    refine ao 32 rfl rfl (st_ex (vs := [.int .i64 ((numMul (hNum a) (hNum b) up).1), .bool ((numMul (hNum a) (hNum b) up).2)]) (v := .int .i64 ((numMul (hNum a) (hNum b) up).1)) rfl rfl rfl ?_)
    refine ao 33 rfl rfl (st_ex (vs := [.int .i64 ((numMul (hNum a) (hNum b) up).1), .bool ((numMul (hNum a) (hNum b) up).2)]) (v := .bool ((numMul (hNum a) (hNum b) up).2)) rfl rfl rfl ?_)
    refine ao 9 rfl rfl (st_assign (v := .int .i64 ((numMul (hNum a) (hNum b) up).1)) rfl rfl ?_)
    refine ao 10 rfl rfl (st_assign (v := .bool ((numMul (hNum a) (hNum b) up).2)) rfl rfl ?_)
    refine ar_nil ?_
    refine ac_seq ?_
    refine ac_region_lit ?_
    refine ao 35 rfl rfl (st_move (v := .int .i64 (hNum a)) rfl rfl ?_)
    refine ao 36 rfl rfl (st_move (v := .int .i64 (hNum b)) rfl rfl ?_)
    refine ao 37 rfl rfl (st_move (v := .bool up) rfl rfl ?_)
    refine ao 38 rfl rfl (st_cf (vs := [.int .i64 (hNum a), .int .i64 (hNum b), .bool up]) (r := .tuple #[.int .i64 ((numDiv (hNum a) (hNum b) up).1), .bool ((numDiv (hNum a) (hNum b) up).2)]) (c_numDiv (hNum a) (hNum b) up) Try.func39 rfl (by decide) rfl rfl rfl ?_)
    refine ao 34 rfl rfl (st_move (v := .tuple #[.int .i64 ((numDiv (hNum a) (hNum b) up).1), .bool ((numDiv (hNum a) (hNum b) up).2)]) rfl rfl ?_)
    refine ao 39 rfl rfl (st_ex (vs := [.int .i64 ((numDiv (hNum a) (hNum b) up).1), .bool ((numDiv (hNum a) (hNum b) up).2)]) (v := .int .i64 ((numDiv (hNum a) (hNum b) up).1)) rfl rfl rfl ?_)
    refine ao 40 rfl rfl (st_ex (vs := [.int .i64 ((numDiv (hNum a) (hNum b) up).1), .bool ((numDiv (hNum a) (hNum b) up).2)]) (v := .bool ((numDiv (hNum a) (hNum b) up).2)) rfl rfl rfl ?_)
    refine ao 11 rfl rfl (st_assign (v := .int .i64 ((numDiv (hNum a) (hNum b) up).1)) rfl rfl ?_)
    refine ao 12 rfl rfl (st_assign (v := .bool ((numDiv (hNum a) (hNum b) up).2)) rfl rfl ?_)
    refine ar_nil ?_
    refine ac_seq ?_
    refine ac_region_lit ?_
    refine ao 42 rfl rfl (st_move (v := .int .i64 (hNum a)) rfl rfl ?_)
    refine ao 43 rfl rfl (st_move (v := .bool up) rfl rfl ?_)
    refine ao 44 rfl rfl (st_cf (vs := [.int .i64 (hNum a), .bool up]) (r := .tuple #[.int .i64 ((numRoot (hNum a) up).1), .bool ((numRoot (hNum a) up).2)]) (c_numRoot (hNum a) up) Try.func40 rfl (by decide) rfl rfl rfl ?_)
    refine ao 41 rfl rfl (st_move (v := .tuple #[.int .i64 ((numRoot (hNum a) up).1), .bool ((numRoot (hNum a) up).2)]) rfl rfl ?_)
    refine ao 45 rfl rfl (st_ex (vs := [.int .i64 ((numRoot (hNum a) up).1), .bool ((numRoot (hNum a) up).2)]) (v := .int .i64 ((numRoot (hNum a) up).1)) rfl rfl rfl ?_)
    refine ao 46 rfl rfl (st_ex (vs := [.int .i64 ((numRoot (hNum a) up).1), .bool ((numRoot (hNum a) up).2)]) (v := .bool ((numRoot (hNum a) up).2)) rfl rfl rfl ?_)
    refine ao 13 rfl rfl (st_assign (v := .int .i64 ((numRoot (hNum a) up).1)) rfl rfl ?_)
    refine ao 14 rfl rfl (st_assign (v := .bool ((numRoot (hNum a) up).2)) rfl rfl ?_)
    refine ar_nil ?_
    refine ac_seq ?_
    refine ac_region_lit ?_
    refine ao 48 rfl rfl (st_move (v := .int .i64 (hNum a)) rfl rfl ?_)
    refine ao 49 rfl rfl (st_move (v := .int .i64 (hNum b)) rfl rfl ?_)
    refine ao 50 rfl rfl (st_move (v := .bool up) rfl rfl ?_)
    refine ao 51 rfl rfl (st_cf (vs := [.int .i64 (hNum a), .int .i64 (hNum b), .bool up]) (r := .tuple #[.int .i64 ((rMul (hNum a) (hNum b) up).1), .bool ((rMul (hNum a) (hNum b) up).2)]) (c_rMul (hNum a) (hNum b) up) Try.func43 rfl (by decide) rfl rfl rfl ?_)
    refine ao 47 rfl rfl (st_move (v := .tuple #[.int .i64 ((rMul (hNum a) (hNum b) up).1), .bool ((rMul (hNum a) (hNum b) up).2)]) rfl rfl ?_)
    refine ao 52 rfl rfl (st_ex (vs := [.int .i64 ((rMul (hNum a) (hNum b) up).1), .bool ((rMul (hNum a) (hNum b) up).2)]) (v := .int .i64 ((rMul (hNum a) (hNum b) up).1)) rfl rfl rfl ?_)
    refine ao 53 rfl rfl (st_ex (vs := [.int .i64 ((rMul (hNum a) (hNum b) up).1), .bool ((rMul (hNum a) (hNum b) up).2)]) (v := .bool ((rMul (hNum a) (hNum b) up).2)) rfl rfl rfl ?_)
    refine ao 15 rfl rfl (st_assign (v := .int .i64 ((rMul (hNum a) (hNum b) up).1)) rfl rfl ?_)
    refine ao 16 rfl rfl (st_assign (v := .bool ((rMul (hNum a) (hNum b) up).2)) rfl rfl ?_)
    refine ar_nil ?_
    refine ac_seq ?_
    refine ac_region_lit ?_
    refine ao 55 rfl rfl (st_move (v := .int .i64 (hNum a)) rfl rfl ?_)
    refine ao 56 rfl rfl (st_move (v := .int .i64 (hNum b)) rfl rfl ?_)
    refine ao 57 rfl rfl (st_move (v := .bool up) rfl rfl ?_)
    refine ao 58 rfl rfl (st_cf (vs := [.int .i64 (hNum a), .int .i64 (hNum b), .bool up]) (r := .tuple #[.int .i64 ((rDiv (hNum a) (hNum b) up).1), .bool ((rDiv (hNum a) (hNum b) up).2)]) (c_rDiv (hNum a) (hNum b) up) Try.func44 rfl (by decide) rfl rfl rfl ?_)
    refine ao 54 rfl rfl (st_move (v := .tuple #[.int .i64 ((rDiv (hNum a) (hNum b) up).1), .bool ((rDiv (hNum a) (hNum b) up).2)]) rfl rfl ?_)
    refine ao 59 rfl rfl (st_ex (vs := [.int .i64 ((rDiv (hNum a) (hNum b) up).1), .bool ((rDiv (hNum a) (hNum b) up).2)]) (v := .int .i64 ((rDiv (hNum a) (hNum b) up).1)) rfl rfl rfl ?_)
    refine ao 60 rfl rfl (st_ex (vs := [.int .i64 ((rDiv (hNum a) (hNum b) up).1), .bool ((rDiv (hNum a) (hNum b) up).2)]) (v := .bool ((rDiv (hNum a) (hNum b) up).2)) rfl rfl rfl ?_)
    refine ao 17 rfl rfl (st_assign (v := .int .i64 ((rDiv (hNum a) (hNum b) up).1)) rfl rfl ?_)
    refine ao 18 rfl rfl (st_assign (v := .bool ((rDiv (hNum a) (hNum b) up).2)) rfl rfl ?_)
    refine ar_nil ?_
    refine ac_seq ?_
    refine ac_region_lit ?_
    refine ao 62 rfl rfl (st_move (v := .int .i64 (hNum a)) rfl rfl ?_)
    refine ao 63 rfl rfl (st_move (v := .bool up) rfl rfl ?_)
    refine ao 64 rfl rfl (st_cf (vs := [.int .i64 (hNum a), .bool up]) (r := .tuple #[.int .i64 ((rRoot (hNum a) up).1), .bool ((rRoot (hNum a) up).2)]) (c_rRoot (hNum a) up) Try.func45 rfl (by decide) rfl rfl rfl ?_)
    refine ao 61 rfl rfl (st_move (v := .tuple #[.int .i64 ((rRoot (hNum a) up).1), .bool ((rRoot (hNum a) up).2)]) rfl rfl ?_)
    refine ao 65 rfl rfl (st_ex (vs := [.int .i64 ((rRoot (hNum a) up).1), .bool ((rRoot (hNum a) up).2)]) (v := .int .i64 ((rRoot (hNum a) up).1)) rfl rfl rfl ?_)
    refine ao 66 rfl rfl (st_ex (vs := [.int .i64 ((rRoot (hNum a) up).1), .bool ((rRoot (hNum a) up).2)]) (v := .bool ((rRoot (hNum a) up).2)) rfl rfl rfl ?_)
    refine ao 19 rfl rfl (st_assign (v := .int .i64 ((rRoot (hNum a) up).1)) rfl rfl ?_)
    refine ao 20 rfl rfl (st_assign (v := .bool ((rRoot (hNum a) up).2)) rfl rfl ?_)
    refine ar_nil ?_
    refine ac_seq ?_
    refine ac_region_lit ?_
    refine ao 67 rfl rfl (st_cf (vs := []) (r := .bool known1) c_known1 Try.func38 rfl (by decide) rfl rfl rfl ?_)
    refine ao 68 rfl rfl (st_move (v := .bool known1) rfl rfl ?_)
    refine bool_split (known1) (fun h2 => ?_) (fun h2 => nomatch (show false = true from (show (lawNumTells a b up raw) = _ from (eF h1 (eF h2 rfl))).symm.trans H))
    refine ar_gd (d := (some 69)) (by show (known1 == true) = true; rw [h2]; rfl) rfl (st_move (v := .int .i64 (hNum a)) rfl rfl ?_)
    refine ar_gd (d := (some 70)) (by show (known1 == true) = true; rw [h2]; rfl) rfl (st_cf (vs := [.int .i64 (hNum a)]) (r := .bool (numIn (hNum a))) (c_numIn (hNum a)) Try.func41 rfl (by decide) rfl rfl rfl ?_)
    refine ar_gd (d := (some 71)) (by show (known1 == true) = true; rw [h2]; rfl) rfl (st_move (v := .int .i64 (hNum a)) rfl rfl ?_)
    refine ar_gd (d := (some 72)) (by show (known1 == true) = true; rw [h2]; rfl) rfl (st_cf (vs := [.int .i64 (hNum a)]) (r := .bool (rIn (hNum a))) (c_rIn (hNum a)) Try.func46 rfl (by decide) rfl rfl rfl ?_)
    refine ar_gd (d := (some 73)) (by show (known1 == true) = true; rw [h2]; rfl) rfl (st_bi (u := .bool (numIn (hNum a))) (v := .bool (rIn (hNum a))) (r := .bool ((numIn (hNum a)) == (rIn (hNum a)))) rfl rfl rfl (bb_eql Try.underlying4 rfl) ?_)
    refine ao 74 rfl rfl (st_pkt' (b := known1) (v := .bool ((numIn (hNum a)) == (rIn (hNum a)))) h2 rfl rfl rfl ?_)
    refine ao 75 rfl rfl (st_move (v := .bool ((numIn (hNum a)) == (rIn (hNum a)))) rfl rfl ?_)
    refine bool_split ((numIn (hNum a)) == (rIn (hNum a))) (fun h3 => ?_) (fun h3 => nomatch (show false = true from (show (lawNumTells a b up raw) = _ from (eF h1 (eT h2 (eF h3 rfl)))).symm.trans H))
    refine ar_gd (d := (some 76)) (by show (((numIn (hNum a)) == (rIn (hNum a))) == true) = true; rw [h3]; rfl) rfl (st_move (v := .int .i64 (hNum b)) rfl rfl ?_)
    refine ar_gd (d := (some 77)) (by show (((numIn (hNum a)) == (rIn (hNum a))) == true) = true; rw [h3]; rfl) rfl (st_bi (u := .int .i64 (hNum b)) (v := .int .i64 0) (r := .bool ((hNum b) == 0)) rfl rfl rfl (bi_eql rfl) ?_)
    refine ar_gd (d := (some 78)) (by show (((numIn (hNum a)) == (rIn (hNum a))) == true) = true; rw [h3]; rfl) rfl (st_move (v := .bool ((hNum b) == 0)) rfl rfl ?_)
    refine bool_split ((hNum b) == 0) (fun h4 => ?_) (fun h4 => ?_)
    · refine ar_sk (d := (some 79)) (by show (((hNum b) == 0) == false) = false; rw [h4]; rfl) rfl ?_
      refine ar_sk (d := (some 80)) (by show (((hNum b) == 0) == false) = false; rw [h4]; rfl) rfl ?_
      refine ar_gd (d := (some 81)) (by show (((numIn (hNum a)) == (rIn (hNum a))) == true) = true; rw [h3]; rfl) rfl (st_pkt' (b := (hNum b) == 0) (v := .bool true) h4 rfl rfl rfl ?_)
      refine ar_gd (d := (some 82)) (by show (((numIn (hNum a)) == (rIn (hNum a))) == true) = true; rw [h3]; rfl) rfl (st_move (v := .bool true) rfl rfl ?_)
      refine ar_sk (d := (some 83)) rfl rfl ?_
      refine ar_sk (d := (some 84)) rfl rfl ?_
      refine ar_sk (d := (some 85)) rfl rfl ?_
      refine ar_sk (d := (some 86)) rfl rfl ?_
      refine ar_sk (d := (some 87)) rfl rfl ?_
      refine ar_sk (d := (some 88)) rfl rfl ?_
      refine ar_sk (d := (some 89)) rfl rfl ?_
      refine ar_gd (d := (some 90)) (by show (((numIn (hNum a)) == (rIn (hNum a))) == true) = true; rw [h3]; rfl) rfl (st_pkt (v := .bool true) rfl rfl rfl ?_)
      refine ao 91 rfl rfl (st_pkt' (b := (numIn (hNum a)) == (rIn (hNum a))) (v := .bool true) h3 rfl rfl rfl ?_)
      refine ao 92 rfl rfl (st_move (v := .bool true) rfl rfl ?_)
      refine ar_gd (d := (some 93)) rfl rfl (st_move (v := .int .i64 ((numMul (hNum a) (hNum b) up).1)) rfl rfl ?_)
      refine ar_gd (d := (some 94)) rfl rfl (st_move (v := .int .i64 ((rMul (hNum a) (hNum b) up).1)) rfl rfl ?_)
      refine ar_gd (d := (some 95)) rfl rfl (st_bi (u := .int .i64 ((numMul (hNum a) (hNum b) up).1)) (v := .int .i64 ((rMul (hNum a) (hNum b) up).1)) (r := .bool (((numMul (hNum a) (hNum b) up).1) == ((rMul (hNum a) (hNum b) up).1))) rfl rfl rfl (bi_eql rfl) ?_)
      refine ao 96 rfl rfl (st_pkt (v := .bool (((numMul (hNum a) (hNum b) up).1) == ((rMul (hNum a) (hNum b) up).1))) rfl rfl rfl ?_)
      refine ao 97 rfl rfl (st_move (v := .bool (((numMul (hNum a) (hNum b) up).1) == ((rMul (hNum a) (hNum b) up).1))) rfl rfl ?_)
      refine bool_split (((numMul (hNum a) (hNum b) up).1) == ((rMul (hNum a) (hNum b) up).1)) (fun h5 => ?_) (fun h5 => nomatch (show false = true from (show (lawNumTells a b up raw) = _ from (eF h1 (eT h2 (eT h3 (eT h4 (eF h5 rfl)))))).symm.trans H))
      refine ar_gd (d := (some 98)) (by show ((((numMul (hNum a) (hNum b) up).1) == ((rMul (hNum a) (hNum b) up).1)) == true) = true; rw [h5]; rfl) rfl (st_move (v := .bool ((numMul (hNum a) (hNum b) up).2)) rfl rfl ?_)
      refine ar_gd (d := (some 99)) (by show ((((numMul (hNum a) (hNum b) up).1) == ((rMul (hNum a) (hNum b) up).1)) == true) = true; rw [h5]; rfl) rfl (st_move (v := .bool ((rMul (hNum a) (hNum b) up).2)) rfl rfl ?_)
      refine ar_gd (d := (some 100)) (by show ((((numMul (hNum a) (hNum b) up).1) == ((rMul (hNum a) (hNum b) up).1)) == true) = true; rw [h5]; rfl) rfl (st_bi (u := .bool ((numMul (hNum a) (hNum b) up).2)) (v := .bool ((rMul (hNum a) (hNum b) up).2)) (r := .bool (((numMul (hNum a) (hNum b) up).2) == ((rMul (hNum a) (hNum b) up).2))) rfl rfl rfl (bb_eql Try.underlying4 rfl) ?_)
      refine ao 101 rfl rfl (st_pkt' (b := ((numMul (hNum a) (hNum b) up).1) == ((rMul (hNum a) (hNum b) up).1)) (v := .bool (((numMul (hNum a) (hNum b) up).2) == ((rMul (hNum a) (hNum b) up).2))) h5 rfl rfl rfl ?_)
      refine ao 102 rfl rfl (st_move (v := .bool (((numMul (hNum a) (hNum b) up).2) == ((rMul (hNum a) (hNum b) up).2))) rfl rfl ?_)
      refine bool_split (((numMul (hNum a) (hNum b) up).2) == ((rMul (hNum a) (hNum b) up).2)) (fun h6 => ?_) (fun h6 => nomatch (show false = true from (show (lawNumTells a b up raw) = _ from (eF h1 (eT h2 (eT h3 (eT h4 (eT h5 (eF h6 rfl))))))).symm.trans H))
      refine ar_gd (d := (some 103)) (by show ((((numMul (hNum a) (hNum b) up).2) == ((rMul (hNum a) (hNum b) up).2)) == true) = true; rw [h6]; rfl) rfl (st_move (v := .int .i64 ((numDiv (hNum a) (hNum b) up).1)) rfl rfl ?_)
      refine ar_gd (d := (some 104)) (by show ((((numMul (hNum a) (hNum b) up).2) == ((rMul (hNum a) (hNum b) up).2)) == true) = true; rw [h6]; rfl) rfl (st_move (v := .int .i64 ((rDiv (hNum a) (hNum b) up).1)) rfl rfl ?_)
      refine ar_gd (d := (some 105)) (by show ((((numMul (hNum a) (hNum b) up).2) == ((rMul (hNum a) (hNum b) up).2)) == true) = true; rw [h6]; rfl) rfl (st_bi (u := .int .i64 ((numDiv (hNum a) (hNum b) up).1)) (v := .int .i64 ((rDiv (hNum a) (hNum b) up).1)) (r := .bool (((numDiv (hNum a) (hNum b) up).1) == ((rDiv (hNum a) (hNum b) up).1))) rfl rfl rfl (bi_eql rfl) ?_)
      refine ao 106 rfl rfl (st_pkt' (b := ((numMul (hNum a) (hNum b) up).2) == ((rMul (hNum a) (hNum b) up).2)) (v := .bool (((numDiv (hNum a) (hNum b) up).1) == ((rDiv (hNum a) (hNum b) up).1))) h6 rfl rfl rfl ?_)
      refine ao 107 rfl rfl (st_move (v := .bool (((numDiv (hNum a) (hNum b) up).1) == ((rDiv (hNum a) (hNum b) up).1))) rfl rfl ?_)
      refine bool_split (((numDiv (hNum a) (hNum b) up).1) == ((rDiv (hNum a) (hNum b) up).1)) (fun h7 => ?_) (fun h7 => nomatch (show false = true from (show (lawNumTells a b up raw) = _ from (eF h1 (eT h2 (eT h3 (eT h4 (eT h5 (eT h6 (eF h7 rfl)))))))).symm.trans H))
      refine ar_gd (d := (some 108)) (by show ((((numDiv (hNum a) (hNum b) up).1) == ((rDiv (hNum a) (hNum b) up).1)) == true) = true; rw [h7]; rfl) rfl (st_move (v := .bool ((numDiv (hNum a) (hNum b) up).2)) rfl rfl ?_)
      refine ar_gd (d := (some 109)) (by show ((((numDiv (hNum a) (hNum b) up).1) == ((rDiv (hNum a) (hNum b) up).1)) == true) = true; rw [h7]; rfl) rfl (st_move (v := .bool ((rDiv (hNum a) (hNum b) up).2)) rfl rfl ?_)
      refine ar_gd (d := (some 110)) (by show ((((numDiv (hNum a) (hNum b) up).1) == ((rDiv (hNum a) (hNum b) up).1)) == true) = true; rw [h7]; rfl) rfl (st_bi (u := .bool ((numDiv (hNum a) (hNum b) up).2)) (v := .bool ((rDiv (hNum a) (hNum b) up).2)) (r := .bool (((numDiv (hNum a) (hNum b) up).2) == ((rDiv (hNum a) (hNum b) up).2))) rfl rfl rfl (bb_eql Try.underlying4 rfl) ?_)
      refine ao 111 rfl rfl (st_pkt' (b := ((numDiv (hNum a) (hNum b) up).1) == ((rDiv (hNum a) (hNum b) up).1)) (v := .bool (((numDiv (hNum a) (hNum b) up).2) == ((rDiv (hNum a) (hNum b) up).2))) h7 rfl rfl rfl ?_)
      refine ao 112 rfl rfl (st_move (v := .bool (((numDiv (hNum a) (hNum b) up).2) == ((rDiv (hNum a) (hNum b) up).2))) rfl rfl ?_)
      refine bool_split (((numDiv (hNum a) (hNum b) up).2) == ((rDiv (hNum a) (hNum b) up).2)) (fun h8 => ?_) (fun h8 => nomatch (show false = true from (show (lawNumTells a b up raw) = _ from (eF h1 (eT h2 (eT h3 (eT h4 (eT h5 (eT h6 (eT h7 (eF h8 rfl))))))))).symm.trans H))
      refine ar_gd (d := (some 113)) (by show ((((numDiv (hNum a) (hNum b) up).2) == ((rDiv (hNum a) (hNum b) up).2)) == true) = true; rw [h8]; rfl) rfl (st_move (v := .int .i64 ((numRoot (hNum a) up).1)) rfl rfl ?_)
      refine ar_gd (d := (some 114)) (by show ((((numDiv (hNum a) (hNum b) up).2) == ((rDiv (hNum a) (hNum b) up).2)) == true) = true; rw [h8]; rfl) rfl (st_move (v := .int .i64 ((rRoot (hNum a) up).1)) rfl rfl ?_)
      refine ar_gd (d := (some 115)) (by show ((((numDiv (hNum a) (hNum b) up).2) == ((rDiv (hNum a) (hNum b) up).2)) == true) = true; rw [h8]; rfl) rfl (st_bi (u := .int .i64 ((numRoot (hNum a) up).1)) (v := .int .i64 ((rRoot (hNum a) up).1)) (r := .bool (((numRoot (hNum a) up).1) == ((rRoot (hNum a) up).1))) rfl rfl rfl (bi_eql rfl) ?_)
      refine ao 116 rfl rfl (st_pkt' (b := ((numDiv (hNum a) (hNum b) up).2) == ((rDiv (hNum a) (hNum b) up).2)) (v := .bool (((numRoot (hNum a) up).1) == ((rRoot (hNum a) up).1))) h8 rfl rfl rfl ?_)
      refine ao 117 rfl rfl (st_move (v := .bool (((numRoot (hNum a) up).1) == ((rRoot (hNum a) up).1))) rfl rfl ?_)
      refine bool_split (((numRoot (hNum a) up).1) == ((rRoot (hNum a) up).1)) (fun h9 => ?_) (fun h9 => nomatch (show false = true from (show (lawNumTells a b up raw) = _ from (eF h1 (eT h2 (eT h3 (eT h4 (eT h5 (eT h6 (eT h7 (eT h8 (eF h9 rfl)))))))))).symm.trans H))
      refine ar_gd (d := (some 118)) (by show ((((numRoot (hNum a) up).1) == ((rRoot (hNum a) up).1)) == true) = true; rw [h9]; rfl) rfl (st_move (v := .bool ((numRoot (hNum a) up).2)) rfl rfl ?_)
      refine ar_gd (d := (some 119)) (by show ((((numRoot (hNum a) up).1) == ((rRoot (hNum a) up).1)) == true) = true; rw [h9]; rfl) rfl (st_move (v := .bool ((rRoot (hNum a) up).2)) rfl rfl ?_)
      refine ar_gd (d := (some 120)) (by show ((((numRoot (hNum a) up).1) == ((rRoot (hNum a) up).1)) == true) = true; rw [h9]; rfl) rfl (st_bi (u := .bool ((numRoot (hNum a) up).2)) (v := .bool ((rRoot (hNum a) up).2)) (r := .bool (((numRoot (hNum a) up).2) == ((rRoot (hNum a) up).2))) rfl rfl rfl (bb_eql Try.underlying4 rfl) ?_)
      refine ao 121 rfl rfl (st_pkt' (b := ((numRoot (hNum a) up).1) == ((rRoot (hNum a) up).1)) (v := .bool (((numRoot (hNum a) up).2) == ((rRoot (hNum a) up).2))) h9 rfl rfl rfl ?_)
      refine ao 8 rfl rfl (st_assign (v := .bool (((numRoot (hNum a) up).2) == ((rRoot (hNum a) up).2))) rfl rfl ?_)
      refine ar_nil ?_
      refine ac_ret ?_
      exact fin_eq (v := .bool (((numRoot (hNum a) up).2) == ((rRoot (hNum a) up).2))) (congrArg Value.bool (show (((numRoot (hNum a) up).2) == ((rRoot (hNum a) up).2)) = true from (show (lawNumTells a b up raw) = _ from (eF h1 (eT h2 (eT h3 (eT h4 (eT h5 (eT h6 (eT h7 (eT h8 (eT h9 rfl)))))))))).symm.trans H)) (fin_ret (res_tmp rfl rfl))
    · refine ar_gd (d := (some 79)) (by show (((hNum b) == 0) == false) = true; rw [h4]; rfl) rfl (st_move (v := .int .i64 (hNum a)) rfl rfl ?_)
      refine ar_gd (d := (some 80)) (by show (((hNum b) == 0) == false) = true; rw [h4]; rfl) rfl (st_bi (u := .int .i64 (hNum a)) (v := .int .i64 (-9223372036854775808)) (r := .bool ((hNum a) == (-9223372036854775808))) rfl rfl rfl (bi_eql rfl) ?_)
      refine ar_gd (d := (some 81)) (by show (((numIn (hNum a)) == (rIn (hNum a))) == true) = true; rw [h3]; rfl) rfl (st_pkf' (b := (hNum b) == 0) (v := .bool ((hNum a) == (-9223372036854775808))) h4 rfl rfl rfl ?_)
      refine ar_gd (d := (some 82)) (by show (((numIn (hNum a)) == (rIn (hNum a))) == true) = true; rw [h3]; rfl) rfl (st_move (v := .bool ((hNum a) == (-9223372036854775808))) rfl rfl ?_)
      refine bool_split ((hNum a) == (-9223372036854775808)) (fun h5 => ?_) (fun h5 => ?_)
      · refine ar_sk (d := (some 83)) (by show (((hNum a) == (-9223372036854775808)) == false) = false; rw [h5]; rfl) rfl ?_
        refine ar_sk (d := (some 84)) (by show (((hNum a) == (-9223372036854775808)) == false) = false; rw [h5]; rfl) rfl ?_
        refine ar_sk (d := (some 85)) (by show (((hNum a) == (-9223372036854775808)) == false) = false; rw [h5]; rfl) rfl ?_
        refine ar_sk (d := (some 86)) (by show (((hNum a) == (-9223372036854775808)) == false) = false; rw [h5]; rfl) rfl ?_
        refine ar_sk (d := (some 87)) (by show (((hNum a) == (-9223372036854775808)) == false) = false; rw [h5]; rfl) rfl ?_
        refine ar_sk (d := (some 88)) (by show (((hNum a) == (-9223372036854775808)) == false) = false; rw [h5]; rfl) rfl ?_
        refine ar_sk (d := (some 89)) (by show (((hNum a) == (-9223372036854775808)) == false) = false; rw [h5]; rfl) rfl ?_
        refine ar_gd (d := (some 90)) (by show (((numIn (hNum a)) == (rIn (hNum a))) == true) = true; rw [h3]; rfl) rfl (st_pkt' (b := (hNum a) == (-9223372036854775808)) (v := .bool true) h5 rfl rfl rfl ?_)
        refine ao 91 rfl rfl (st_pkt' (b := (numIn (hNum a)) == (rIn (hNum a))) (v := .bool true) h3 rfl rfl rfl ?_)
        refine ao 92 rfl rfl (st_move (v := .bool true) rfl rfl ?_)
        refine ar_gd (d := (some 93)) rfl rfl (st_move (v := .int .i64 ((numMul (hNum a) (hNum b) up).1)) rfl rfl ?_)
        refine ar_gd (d := (some 94)) rfl rfl (st_move (v := .int .i64 ((rMul (hNum a) (hNum b) up).1)) rfl rfl ?_)
        refine ar_gd (d := (some 95)) rfl rfl (st_bi (u := .int .i64 ((numMul (hNum a) (hNum b) up).1)) (v := .int .i64 ((rMul (hNum a) (hNum b) up).1)) (r := .bool (((numMul (hNum a) (hNum b) up).1) == ((rMul (hNum a) (hNum b) up).1))) rfl rfl rfl (bi_eql rfl) ?_)
        refine ao 96 rfl rfl (st_pkt (v := .bool (((numMul (hNum a) (hNum b) up).1) == ((rMul (hNum a) (hNum b) up).1))) rfl rfl rfl ?_)
        refine ao 97 rfl rfl (st_move (v := .bool (((numMul (hNum a) (hNum b) up).1) == ((rMul (hNum a) (hNum b) up).1))) rfl rfl ?_)
        refine bool_split (((numMul (hNum a) (hNum b) up).1) == ((rMul (hNum a) (hNum b) up).1)) (fun h6 => ?_) (fun h6 => nomatch (show false = true from (show (lawNumTells a b up raw) = _ from (eF h1 (eT h2 (eT h3 (eF h4 (eT h5 (eF h6 rfl))))))).symm.trans H))
        refine ar_gd (d := (some 98)) (by show ((((numMul (hNum a) (hNum b) up).1) == ((rMul (hNum a) (hNum b) up).1)) == true) = true; rw [h6]; rfl) rfl (st_move (v := .bool ((numMul (hNum a) (hNum b) up).2)) rfl rfl ?_)
        refine ar_gd (d := (some 99)) (by show ((((numMul (hNum a) (hNum b) up).1) == ((rMul (hNum a) (hNum b) up).1)) == true) = true; rw [h6]; rfl) rfl (st_move (v := .bool ((rMul (hNum a) (hNum b) up).2)) rfl rfl ?_)
        refine ar_gd (d := (some 100)) (by show ((((numMul (hNum a) (hNum b) up).1) == ((rMul (hNum a) (hNum b) up).1)) == true) = true; rw [h6]; rfl) rfl (st_bi (u := .bool ((numMul (hNum a) (hNum b) up).2)) (v := .bool ((rMul (hNum a) (hNum b) up).2)) (r := .bool (((numMul (hNum a) (hNum b) up).2) == ((rMul (hNum a) (hNum b) up).2))) rfl rfl rfl (bb_eql Try.underlying4 rfl) ?_)
        refine ao 101 rfl rfl (st_pkt' (b := ((numMul (hNum a) (hNum b) up).1) == ((rMul (hNum a) (hNum b) up).1)) (v := .bool (((numMul (hNum a) (hNum b) up).2) == ((rMul (hNum a) (hNum b) up).2))) h6 rfl rfl rfl ?_)
        refine ao 102 rfl rfl (st_move (v := .bool (((numMul (hNum a) (hNum b) up).2) == ((rMul (hNum a) (hNum b) up).2))) rfl rfl ?_)
        refine bool_split (((numMul (hNum a) (hNum b) up).2) == ((rMul (hNum a) (hNum b) up).2)) (fun h7 => ?_) (fun h7 => nomatch (show false = true from (show (lawNumTells a b up raw) = _ from (eF h1 (eT h2 (eT h3 (eF h4 (eT h5 (eT h6 (eF h7 rfl)))))))).symm.trans H))
        refine ar_gd (d := (some 103)) (by show ((((numMul (hNum a) (hNum b) up).2) == ((rMul (hNum a) (hNum b) up).2)) == true) = true; rw [h7]; rfl) rfl (st_move (v := .int .i64 ((numDiv (hNum a) (hNum b) up).1)) rfl rfl ?_)
        refine ar_gd (d := (some 104)) (by show ((((numMul (hNum a) (hNum b) up).2) == ((rMul (hNum a) (hNum b) up).2)) == true) = true; rw [h7]; rfl) rfl (st_move (v := .int .i64 ((rDiv (hNum a) (hNum b) up).1)) rfl rfl ?_)
        refine ar_gd (d := (some 105)) (by show ((((numMul (hNum a) (hNum b) up).2) == ((rMul (hNum a) (hNum b) up).2)) == true) = true; rw [h7]; rfl) rfl (st_bi (u := .int .i64 ((numDiv (hNum a) (hNum b) up).1)) (v := .int .i64 ((rDiv (hNum a) (hNum b) up).1)) (r := .bool (((numDiv (hNum a) (hNum b) up).1) == ((rDiv (hNum a) (hNum b) up).1))) rfl rfl rfl (bi_eql rfl) ?_)
        refine ao 106 rfl rfl (st_pkt' (b := ((numMul (hNum a) (hNum b) up).2) == ((rMul (hNum a) (hNum b) up).2)) (v := .bool (((numDiv (hNum a) (hNum b) up).1) == ((rDiv (hNum a) (hNum b) up).1))) h7 rfl rfl rfl ?_)
        refine ao 107 rfl rfl (st_move (v := .bool (((numDiv (hNum a) (hNum b) up).1) == ((rDiv (hNum a) (hNum b) up).1))) rfl rfl ?_)
        refine bool_split (((numDiv (hNum a) (hNum b) up).1) == ((rDiv (hNum a) (hNum b) up).1)) (fun h8 => ?_) (fun h8 => nomatch (show false = true from (show (lawNumTells a b up raw) = _ from (eF h1 (eT h2 (eT h3 (eF h4 (eT h5 (eT h6 (eT h7 (eF h8 rfl))))))))).symm.trans H))
        refine ar_gd (d := (some 108)) (by show ((((numDiv (hNum a) (hNum b) up).1) == ((rDiv (hNum a) (hNum b) up).1)) == true) = true; rw [h8]; rfl) rfl (st_move (v := .bool ((numDiv (hNum a) (hNum b) up).2)) rfl rfl ?_)
        refine ar_gd (d := (some 109)) (by show ((((numDiv (hNum a) (hNum b) up).1) == ((rDiv (hNum a) (hNum b) up).1)) == true) = true; rw [h8]; rfl) rfl (st_move (v := .bool ((rDiv (hNum a) (hNum b) up).2)) rfl rfl ?_)
        refine ar_gd (d := (some 110)) (by show ((((numDiv (hNum a) (hNum b) up).1) == ((rDiv (hNum a) (hNum b) up).1)) == true) = true; rw [h8]; rfl) rfl (st_bi (u := .bool ((numDiv (hNum a) (hNum b) up).2)) (v := .bool ((rDiv (hNum a) (hNum b) up).2)) (r := .bool (((numDiv (hNum a) (hNum b) up).2) == ((rDiv (hNum a) (hNum b) up).2))) rfl rfl rfl (bb_eql Try.underlying4 rfl) ?_)
        refine ao 111 rfl rfl (st_pkt' (b := ((numDiv (hNum a) (hNum b) up).1) == ((rDiv (hNum a) (hNum b) up).1)) (v := .bool (((numDiv (hNum a) (hNum b) up).2) == ((rDiv (hNum a) (hNum b) up).2))) h8 rfl rfl rfl ?_)
        refine ao 112 rfl rfl (st_move (v := .bool (((numDiv (hNum a) (hNum b) up).2) == ((rDiv (hNum a) (hNum b) up).2))) rfl rfl ?_)
        refine bool_split (((numDiv (hNum a) (hNum b) up).2) == ((rDiv (hNum a) (hNum b) up).2)) (fun h9 => ?_) (fun h9 => nomatch (show false = true from (show (lawNumTells a b up raw) = _ from (eF h1 (eT h2 (eT h3 (eF h4 (eT h5 (eT h6 (eT h7 (eT h8 (eF h9 rfl)))))))))).symm.trans H))
        refine ar_gd (d := (some 113)) (by show ((((numDiv (hNum a) (hNum b) up).2) == ((rDiv (hNum a) (hNum b) up).2)) == true) = true; rw [h9]; rfl) rfl (st_move (v := .int .i64 ((numRoot (hNum a) up).1)) rfl rfl ?_)
        refine ar_gd (d := (some 114)) (by show ((((numDiv (hNum a) (hNum b) up).2) == ((rDiv (hNum a) (hNum b) up).2)) == true) = true; rw [h9]; rfl) rfl (st_move (v := .int .i64 ((rRoot (hNum a) up).1)) rfl rfl ?_)
        refine ar_gd (d := (some 115)) (by show ((((numDiv (hNum a) (hNum b) up).2) == ((rDiv (hNum a) (hNum b) up).2)) == true) = true; rw [h9]; rfl) rfl (st_bi (u := .int .i64 ((numRoot (hNum a) up).1)) (v := .int .i64 ((rRoot (hNum a) up).1)) (r := .bool (((numRoot (hNum a) up).1) == ((rRoot (hNum a) up).1))) rfl rfl rfl (bi_eql rfl) ?_)
        refine ao 116 rfl rfl (st_pkt' (b := ((numDiv (hNum a) (hNum b) up).2) == ((rDiv (hNum a) (hNum b) up).2)) (v := .bool (((numRoot (hNum a) up).1) == ((rRoot (hNum a) up).1))) h9 rfl rfl rfl ?_)
        refine ao 117 rfl rfl (st_move (v := .bool (((numRoot (hNum a) up).1) == ((rRoot (hNum a) up).1))) rfl rfl ?_)
        refine bool_split (((numRoot (hNum a) up).1) == ((rRoot (hNum a) up).1)) (fun h10 => ?_) (fun h10 => nomatch (show false = true from (show (lawNumTells a b up raw) = _ from (eF h1 (eT h2 (eT h3 (eF h4 (eT h5 (eT h6 (eT h7 (eT h8 (eT h9 (eF h10 rfl))))))))))).symm.trans H))
        refine ar_gd (d := (some 118)) (by show ((((numRoot (hNum a) up).1) == ((rRoot (hNum a) up).1)) == true) = true; rw [h10]; rfl) rfl (st_move (v := .bool ((numRoot (hNum a) up).2)) rfl rfl ?_)
        refine ar_gd (d := (some 119)) (by show ((((numRoot (hNum a) up).1) == ((rRoot (hNum a) up).1)) == true) = true; rw [h10]; rfl) rfl (st_move (v := .bool ((rRoot (hNum a) up).2)) rfl rfl ?_)
        refine ar_gd (d := (some 120)) (by show ((((numRoot (hNum a) up).1) == ((rRoot (hNum a) up).1)) == true) = true; rw [h10]; rfl) rfl (st_bi (u := .bool ((numRoot (hNum a) up).2)) (v := .bool ((rRoot (hNum a) up).2)) (r := .bool (((numRoot (hNum a) up).2) == ((rRoot (hNum a) up).2))) rfl rfl rfl (bb_eql Try.underlying4 rfl) ?_)
        refine ao 121 rfl rfl (st_pkt' (b := ((numRoot (hNum a) up).1) == ((rRoot (hNum a) up).1)) (v := .bool (((numRoot (hNum a) up).2) == ((rRoot (hNum a) up).2))) h10 rfl rfl rfl ?_)
        refine ao 8 rfl rfl (st_assign (v := .bool (((numRoot (hNum a) up).2) == ((rRoot (hNum a) up).2))) rfl rfl ?_)
        refine ar_nil ?_
        refine ac_ret ?_
        exact fin_eq (v := .bool (((numRoot (hNum a) up).2) == ((rRoot (hNum a) up).2))) (congrArg Value.bool (show (((numRoot (hNum a) up).2) == ((rRoot (hNum a) up).2)) = true from (show (lawNumTells a b up raw) = _ from (eF h1 (eT h2 (eT h3 (eF h4 (eT h5 (eT h6 (eT h7 (eT h8 (eT h9 (eT h10 rfl))))))))))).symm.trans H)) (fin_ret (res_tmp rfl rfl))
      · refine ar_gd (d := (some 83)) (by show (((hNum a) == (-9223372036854775808)) == false) = true; rw [h5]; rfl) rfl (st_move (v := .int .i64 (hNum a)) rfl rfl ?_)
        refine ar_gd (d := (some 84)) (by show (((hNum a) == (-9223372036854775808)) == false) = true; rw [h5]; rfl) rfl (st_move (v := .int .i64 (hNum b)) rfl rfl ?_)
        refine ar_gd (d := (some 85)) (by show (((hNum a) == (-9223372036854775808)) == false) = true; rw [h5]; rfl) rfl (st_cf (vs := [.int .i64 (hNum a), .int .i64 (hNum b)]) (r := .int .i64 (numFloor (hNum a) (hNum b))) (c_numFloor (hNum a) (hNum b)) Try.func42 rfl (by decide) rfl rfl rfl ?_)
        refine ar_gd (d := (some 86)) (by show (((hNum a) == (-9223372036854775808)) == false) = true; rw [h5]; rfl) rfl (st_move (v := .int .i64 (hNum a)) rfl rfl ?_)
        refine ar_gd (d := (some 87)) (by show (((hNum a) == (-9223372036854775808)) == false) = true; rw [h5]; rfl) rfl (st_move (v := .int .i64 (hNum b)) rfl rfl ?_)
        refine ar_gd (d := (some 88)) (by show (((hNum a) == (-9223372036854775808)) == false) = true; rw [h5]; rfl) rfl (st_cf (vs := [.int .i64 (hNum a), .int .i64 (hNum b)]) (r := .int .i64 (rFloor (hNum a) (hNum b))) (c_rFloor (hNum a) (hNum b)) Try.func47 rfl (by decide) rfl rfl rfl ?_)
        refine ar_gd (d := (some 89)) (by show (((hNum a) == (-9223372036854775808)) == false) = true; rw [h5]; rfl) rfl (st_bi (u := .int .i64 (numFloor (hNum a) (hNum b))) (v := .int .i64 (rFloor (hNum a) (hNum b))) (r := .bool ((numFloor (hNum a) (hNum b)) == (rFloor (hNum a) (hNum b)))) rfl rfl rfl (bi_eql rfl) ?_)
        refine ar_gd (d := (some 90)) (by show (((numIn (hNum a)) == (rIn (hNum a))) == true) = true; rw [h3]; rfl) rfl (st_pkf' (b := (hNum a) == (-9223372036854775808)) (v := .bool ((numFloor (hNum a) (hNum b)) == (rFloor (hNum a) (hNum b)))) h5 rfl rfl rfl ?_)
        refine ao 91 rfl rfl (st_pkt' (b := (numIn (hNum a)) == (rIn (hNum a))) (v := .bool ((numFloor (hNum a) (hNum b)) == (rFloor (hNum a) (hNum b)))) h3 rfl rfl rfl ?_)
        refine ao 92 rfl rfl (st_move (v := .bool ((numFloor (hNum a) (hNum b)) == (rFloor (hNum a) (hNum b)))) rfl rfl ?_)
        refine bool_split ((numFloor (hNum a) (hNum b)) == (rFloor (hNum a) (hNum b))) (fun h6 => ?_) (fun h6 => nomatch (show false = true from (show (lawNumTells a b up raw) = _ from (eF h1 (eT h2 (eT h3 (eF h4 (eF h5 (eF h6 rfl))))))).symm.trans H))
        refine ar_gd (d := (some 93)) (by show (((numFloor (hNum a) (hNum b)) == (rFloor (hNum a) (hNum b))) == true) = true; rw [h6]; rfl) rfl (st_move (v := .int .i64 ((numMul (hNum a) (hNum b) up).1)) rfl rfl ?_)
        refine ar_gd (d := (some 94)) (by show (((numFloor (hNum a) (hNum b)) == (rFloor (hNum a) (hNum b))) == true) = true; rw [h6]; rfl) rfl (st_move (v := .int .i64 ((rMul (hNum a) (hNum b) up).1)) rfl rfl ?_)
        refine ar_gd (d := (some 95)) (by show (((numFloor (hNum a) (hNum b)) == (rFloor (hNum a) (hNum b))) == true) = true; rw [h6]; rfl) rfl (st_bi (u := .int .i64 ((numMul (hNum a) (hNum b) up).1)) (v := .int .i64 ((rMul (hNum a) (hNum b) up).1)) (r := .bool (((numMul (hNum a) (hNum b) up).1) == ((rMul (hNum a) (hNum b) up).1))) rfl rfl rfl (bi_eql rfl) ?_)
        refine ao 96 rfl rfl (st_pkt' (b := (numFloor (hNum a) (hNum b)) == (rFloor (hNum a) (hNum b))) (v := .bool (((numMul (hNum a) (hNum b) up).1) == ((rMul (hNum a) (hNum b) up).1))) h6 rfl rfl rfl ?_)
        refine ao 97 rfl rfl (st_move (v := .bool (((numMul (hNum a) (hNum b) up).1) == ((rMul (hNum a) (hNum b) up).1))) rfl rfl ?_)
        refine bool_split (((numMul (hNum a) (hNum b) up).1) == ((rMul (hNum a) (hNum b) up).1)) (fun h7 => ?_) (fun h7 => nomatch (show false = true from (show (lawNumTells a b up raw) = _ from (eF h1 (eT h2 (eT h3 (eF h4 (eF h5 (eT h6 (eF h7 rfl)))))))).symm.trans H))
        refine ar_gd (d := (some 98)) (by show ((((numMul (hNum a) (hNum b) up).1) == ((rMul (hNum a) (hNum b) up).1)) == true) = true; rw [h7]; rfl) rfl (st_move (v := .bool ((numMul (hNum a) (hNum b) up).2)) rfl rfl ?_)
        refine ar_gd (d := (some 99)) (by show ((((numMul (hNum a) (hNum b) up).1) == ((rMul (hNum a) (hNum b) up).1)) == true) = true; rw [h7]; rfl) rfl (st_move (v := .bool ((rMul (hNum a) (hNum b) up).2)) rfl rfl ?_)
        refine ar_gd (d := (some 100)) (by show ((((numMul (hNum a) (hNum b) up).1) == ((rMul (hNum a) (hNum b) up).1)) == true) = true; rw [h7]; rfl) rfl (st_bi (u := .bool ((numMul (hNum a) (hNum b) up).2)) (v := .bool ((rMul (hNum a) (hNum b) up).2)) (r := .bool (((numMul (hNum a) (hNum b) up).2) == ((rMul (hNum a) (hNum b) up).2))) rfl rfl rfl (bb_eql Try.underlying4 rfl) ?_)
        refine ao 101 rfl rfl (st_pkt' (b := ((numMul (hNum a) (hNum b) up).1) == ((rMul (hNum a) (hNum b) up).1)) (v := .bool (((numMul (hNum a) (hNum b) up).2) == ((rMul (hNum a) (hNum b) up).2))) h7 rfl rfl rfl ?_)
        refine ao 102 rfl rfl (st_move (v := .bool (((numMul (hNum a) (hNum b) up).2) == ((rMul (hNum a) (hNum b) up).2))) rfl rfl ?_)
        refine bool_split (((numMul (hNum a) (hNum b) up).2) == ((rMul (hNum a) (hNum b) up).2)) (fun h8 => ?_) (fun h8 => nomatch (show false = true from (show (lawNumTells a b up raw) = _ from (eF h1 (eT h2 (eT h3 (eF h4 (eF h5 (eT h6 (eT h7 (eF h8 rfl))))))))).symm.trans H))
        refine ar_gd (d := (some 103)) (by show ((((numMul (hNum a) (hNum b) up).2) == ((rMul (hNum a) (hNum b) up).2)) == true) = true; rw [h8]; rfl) rfl (st_move (v := .int .i64 ((numDiv (hNum a) (hNum b) up).1)) rfl rfl ?_)
        refine ar_gd (d := (some 104)) (by show ((((numMul (hNum a) (hNum b) up).2) == ((rMul (hNum a) (hNum b) up).2)) == true) = true; rw [h8]; rfl) rfl (st_move (v := .int .i64 ((rDiv (hNum a) (hNum b) up).1)) rfl rfl ?_)
        refine ar_gd (d := (some 105)) (by show ((((numMul (hNum a) (hNum b) up).2) == ((rMul (hNum a) (hNum b) up).2)) == true) = true; rw [h8]; rfl) rfl (st_bi (u := .int .i64 ((numDiv (hNum a) (hNum b) up).1)) (v := .int .i64 ((rDiv (hNum a) (hNum b) up).1)) (r := .bool (((numDiv (hNum a) (hNum b) up).1) == ((rDiv (hNum a) (hNum b) up).1))) rfl rfl rfl (bi_eql rfl) ?_)
        refine ao 106 rfl rfl (st_pkt' (b := ((numMul (hNum a) (hNum b) up).2) == ((rMul (hNum a) (hNum b) up).2)) (v := .bool (((numDiv (hNum a) (hNum b) up).1) == ((rDiv (hNum a) (hNum b) up).1))) h8 rfl rfl rfl ?_)
        refine ao 107 rfl rfl (st_move (v := .bool (((numDiv (hNum a) (hNum b) up).1) == ((rDiv (hNum a) (hNum b) up).1))) rfl rfl ?_)
        refine bool_split (((numDiv (hNum a) (hNum b) up).1) == ((rDiv (hNum a) (hNum b) up).1)) (fun h9 => ?_) (fun h9 => nomatch (show false = true from (show (lawNumTells a b up raw) = _ from (eF h1 (eT h2 (eT h3 (eF h4 (eF h5 (eT h6 (eT h7 (eT h8 (eF h9 rfl)))))))))).symm.trans H))
        refine ar_gd (d := (some 108)) (by show ((((numDiv (hNum a) (hNum b) up).1) == ((rDiv (hNum a) (hNum b) up).1)) == true) = true; rw [h9]; rfl) rfl (st_move (v := .bool ((numDiv (hNum a) (hNum b) up).2)) rfl rfl ?_)
        refine ar_gd (d := (some 109)) (by show ((((numDiv (hNum a) (hNum b) up).1) == ((rDiv (hNum a) (hNum b) up).1)) == true) = true; rw [h9]; rfl) rfl (st_move (v := .bool ((rDiv (hNum a) (hNum b) up).2)) rfl rfl ?_)
        refine ar_gd (d := (some 110)) (by show ((((numDiv (hNum a) (hNum b) up).1) == ((rDiv (hNum a) (hNum b) up).1)) == true) = true; rw [h9]; rfl) rfl (st_bi (u := .bool ((numDiv (hNum a) (hNum b) up).2)) (v := .bool ((rDiv (hNum a) (hNum b) up).2)) (r := .bool (((numDiv (hNum a) (hNum b) up).2) == ((rDiv (hNum a) (hNum b) up).2))) rfl rfl rfl (bb_eql Try.underlying4 rfl) ?_)
        refine ao 111 rfl rfl (st_pkt' (b := ((numDiv (hNum a) (hNum b) up).1) == ((rDiv (hNum a) (hNum b) up).1)) (v := .bool (((numDiv (hNum a) (hNum b) up).2) == ((rDiv (hNum a) (hNum b) up).2))) h9 rfl rfl rfl ?_)
        refine ao 112 rfl rfl (st_move (v := .bool (((numDiv (hNum a) (hNum b) up).2) == ((rDiv (hNum a) (hNum b) up).2))) rfl rfl ?_)
        refine bool_split (((numDiv (hNum a) (hNum b) up).2) == ((rDiv (hNum a) (hNum b) up).2)) (fun h10 => ?_) (fun h10 => nomatch (show false = true from (show (lawNumTells a b up raw) = _ from (eF h1 (eT h2 (eT h3 (eF h4 (eF h5 (eT h6 (eT h7 (eT h8 (eT h9 (eF h10 rfl))))))))))).symm.trans H))
        refine ar_gd (d := (some 113)) (by show ((((numDiv (hNum a) (hNum b) up).2) == ((rDiv (hNum a) (hNum b) up).2)) == true) = true; rw [h10]; rfl) rfl (st_move (v := .int .i64 ((numRoot (hNum a) up).1)) rfl rfl ?_)
        refine ar_gd (d := (some 114)) (by show ((((numDiv (hNum a) (hNum b) up).2) == ((rDiv (hNum a) (hNum b) up).2)) == true) = true; rw [h10]; rfl) rfl (st_move (v := .int .i64 ((rRoot (hNum a) up).1)) rfl rfl ?_)
        refine ar_gd (d := (some 115)) (by show ((((numDiv (hNum a) (hNum b) up).2) == ((rDiv (hNum a) (hNum b) up).2)) == true) = true; rw [h10]; rfl) rfl (st_bi (u := .int .i64 ((numRoot (hNum a) up).1)) (v := .int .i64 ((rRoot (hNum a) up).1)) (r := .bool (((numRoot (hNum a) up).1) == ((rRoot (hNum a) up).1))) rfl rfl rfl (bi_eql rfl) ?_)
        refine ao 116 rfl rfl (st_pkt' (b := ((numDiv (hNum a) (hNum b) up).2) == ((rDiv (hNum a) (hNum b) up).2)) (v := .bool (((numRoot (hNum a) up).1) == ((rRoot (hNum a) up).1))) h10 rfl rfl rfl ?_)
        refine ao 117 rfl rfl (st_move (v := .bool (((numRoot (hNum a) up).1) == ((rRoot (hNum a) up).1))) rfl rfl ?_)
        refine bool_split (((numRoot (hNum a) up).1) == ((rRoot (hNum a) up).1)) (fun h11 => ?_) (fun h11 => nomatch (show false = true from (show (lawNumTells a b up raw) = _ from (eF h1 (eT h2 (eT h3 (eF h4 (eF h5 (eT h6 (eT h7 (eT h8 (eT h9 (eT h10 (eF h11 rfl)))))))))))).symm.trans H))
        refine ar_gd (d := (some 118)) (by show ((((numRoot (hNum a) up).1) == ((rRoot (hNum a) up).1)) == true) = true; rw [h11]; rfl) rfl (st_move (v := .bool ((numRoot (hNum a) up).2)) rfl rfl ?_)
        refine ar_gd (d := (some 119)) (by show ((((numRoot (hNum a) up).1) == ((rRoot (hNum a) up).1)) == true) = true; rw [h11]; rfl) rfl (st_move (v := .bool ((rRoot (hNum a) up).2)) rfl rfl ?_)
        refine ar_gd (d := (some 120)) (by show ((((numRoot (hNum a) up).1) == ((rRoot (hNum a) up).1)) == true) = true; rw [h11]; rfl) rfl (st_bi (u := .bool ((numRoot (hNum a) up).2)) (v := .bool ((rRoot (hNum a) up).2)) (r := .bool (((numRoot (hNum a) up).2) == ((rRoot (hNum a) up).2))) rfl rfl rfl (bb_eql Try.underlying4 rfl) ?_)
        refine ao 121 rfl rfl (st_pkt' (b := ((numRoot (hNum a) up).1) == ((rRoot (hNum a) up).1)) (v := .bool (((numRoot (hNum a) up).2) == ((rRoot (hNum a) up).2))) h11 rfl rfl rfl ?_)
        refine ao 8 rfl rfl (st_assign (v := .bool (((numRoot (hNum a) up).2) == ((rRoot (hNum a) up).2))) rfl rfl ?_)
        refine ar_nil ?_
        refine ac_ret ?_
        exact fin_eq (v := .bool (((numRoot (hNum a) up).2) == ((rRoot (hNum a) up).2))) (congrArg Value.bool (show (((numRoot (hNum a) up).2) == ((rRoot (hNum a) up).2)) = true from (show (lawNumTells a b up raw) = _ from (eF h1 (eT h2 (eT h3 (eF h4 (eF h5 (eT h6 (eT h7 (eT h8 (eT h9 (eT h10 (eT h11 rfl)))))))))))).symm.trans H)) (fin_ret (res_tmp rfl rfl))
end Go.Proofs.Ytbaihncnbejjbaa
