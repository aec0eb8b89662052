import Derived.Test.YthngkopcadlciaaMNormalTells11
import Derived.Test.YthngkopcadlciaaMNormalTells5
import Derived.Test.YthngkopcadlciaaMNormalTells6
import Derived.Test.YthngkopcadlciaaMNormalTells3
set_option linter.unusedVariables false
set_option linter.unusedSimpArgs false
namespace Go.Proofs.Ythngkopcadlciaa
open Go.RowKit
attribute [local irreducible] AC AR DWalk
def rDecIv_e0 (d : Dec) : Iv := (rOf (rFloor (w64 (d.c * 65536)) (rTen d.scale)) (rCeil (w64 (d.c * 65536)) (rTen d.scale)))
def rDecIv (d : Dec) : Iv := (bif rRightDec d then (rDecIv_e0 d) else rNone)
set_option maxRecDepth 100000 in
theorem c_rDecIv (d : Dec) : Gets Try.prog 106 #[.agg #[.int .i64 d.c, .int .i64 d.scale]] (Iv.v (rDecIv d)) := by
 refine gets_fin Try.func106 rfl rfl rfl (aQ (aL (ao 1 rfl rfl (st_box (v := .agg #[.int .i64 d.c, .int .i64 d.scale]) (cs := [.int .i64 d.c, .int .i64 d.scale]) rfl rfl rfl fun g0 => (ao 2 rfl rfl (st_new zero26 rfl fun g1 => (aN (aQ (aQ (aL (aG 3 [.int .i64 d.c, .int .i64 d.scale] agg83 1 rfl rfl rfl rfl rfl (aC 4 (c_rRightDec d) Try.func127 ⟨rfl, by decide⟩ rfl rfl (ao 5 rfl rfl (st_un (v := .bool (!(rRightDec d))) rfl rfl (un_not rfl) (aN ?_)))))))))))))))
 refine bool_split (rRightDec d) (fun h1 => ?_) (fun h1 => ?_)
 ·refine ac_else' (b := !(rRightDec d)) (by rw [h1]; rfl) rfl (ac_skip (aQ ?_))
  refine ac_draw0 (id := 3) [0, 1, 2, 3, 4, 5, 6, 7, 8, 9, 10, 11, 12, 13, 14] [15] _ (by kernel_rfl) follows rfl  (dw_op (d := some 7) _ rfl rfl rfl (st_fa rfl fa83_0 rfl ⟨rfl, rfl⟩) (dw_op (d := some 8) _ rfl rfl rfl (st_ldc (v := .int .i64 d.c) cell3 1 rfl rfl rfl rfl rfl ⟨rfl, rfl⟩) (dw_op (d := some 9) _ rfl rfl rfl (st_bi (r := .int .i64 (w64 (d.c * 65536))) rfl rfl rfl (bi_mul rfl) ⟨rfl, rfl⟩) (dw_op (d := some 10) _ rfl rfl rfl (st_fa rfl fa83_1 rfl ⟨rfl, rfl⟩) (dw_op (d := some 11) _ rfl rfl rfl (st_ldc (v := .int .i64 d.scale) cell3 1 rfl rfl rfl rfl rfl ⟨rfl, rfl⟩) ?_)))))
  refine dw_op (d := some 12) _ rfl rfl rfl (st_cf (c_rTen d.scale (ten_ok h1)) Try.func129 rfl (by decide) rfl rfl rfl ⟨rfl, rfl⟩) (dw_op (d := some 13) _ rfl rfl rfl (st_cf (c_rFloor (w64 (d.c * 65536)) (rTen d.scale)) Try.func128 rfl (by decide) rfl rfl rfl ⟨rfl, rfl⟩) (dw_op (d := some 14) _ rfl rfl rfl (st_fa rfl fa83_0 rfl ⟨rfl, rfl⟩) (dw_op (d := some 15) _ rfl rfl rfl (st_ldc (v := .int .i64 d.c) cell3 1 rfl rfl rfl rfl rfl ⟨rfl, rfl⟩) (dw_op (d := some 16) _ rfl rfl rfl (st_bi (r := .int .i64 (w64 (d.c * 65536))) rfl rfl rfl (bi_mul rfl) ⟨rfl, rfl⟩) (dw_op (d := some 17) _ rfl rfl rfl (st_fa rfl fa83_1 rfl ⟨rfl, rfl⟩) ?_)))))
  refine dw_op (d := some 18) _ rfl rfl rfl (st_ldc (v := .int .i64 d.scale) cell3 1 rfl rfl rfl rfl rfl ⟨rfl, rfl⟩) (dw_op (d := some 19) _ rfl rfl rfl (st_cf (c_rTen d.scale (ten_ok h1)) Try.func129 rfl (by decide) rfl rfl rfl ⟨rfl, rfl⟩) (dw_op (d := some 20) _ rfl rfl rfl (st_cf (c_rCeil (w64 (d.c * 65536)) (rTen d.scale)) Try.func130 rfl (by decide) rfl rfl rfl ⟨rfl, rfl⟩) (dw_op (d := some 21) _ rfl rfl rfl (st_cf (c_rOf (rFloor (w64 (d.c * 65536)) (rTen d.scale)) (rCeil (w64 (d.c * 65536)) (rTen d.scale))) Try.func112 rfl (by decide) rfl rfl rfl ⟨rfl, rfl⟩) (dw_nil ?_))))
  refine aS [.int .i64 ((rDecIv_e0 d).lo), .int .i64 ((rDecIv_e0 d).hi), .bool ((rDecIv_e0 d).no)] agg26 0 rfl rfl rfl rfl rfl rfl (aN (ac_ret (fin_eq (v := .agg #[.int .i64 ((rDecIv_e0 d).lo), .int .i64 ((rDecIv_e0 d).hi), .bool ((rDecIv_e0 d).no)]) (by show _ = Iv.v (rDecIv d); rw [rDecIv, h1] <;> rfl) (fin_ret (res_c (vs := [.int .i64 ((rDecIv_e0 d).lo), .int .i64 ((rDecIv_e0 d).hi), .bool ((rDecIv_e0 d).no)]) agg26 0 rfl rfl rfl rfl rfl rfl)))))
 ·refine ac_then' (b := !(rRightDec d)) (by rw [h1]; rfl) rfl (aQ (aL (aC 6 c_rNone Try.func111 ⟨rfl, by decide⟩ rfl rfl (aS [.int .i64 rNone.lo, .int .i64 rNone.hi, .bool rNone.no] agg26 0 rfl rfl rfl rfl rfl rfl (aN (ac_ret (fin_eq (v := .agg #[.int .i64 rNone.lo, .int .i64 rNone.hi, .bool rNone.no]) (by show _ = Iv.v (rDecIv d); rw [rDecIv, h1] <;> rfl) (fin_ret (res_c (vs := [.int .i64 rNone.lo, .int .i64 rNone.hi, .bool rNone.no]) agg26 0 rfl rfl rfl rfl rfl rfl)))))))))
def rDecLess (a : Dec) (b : Dec) : Bool := (bif rRightDec a then (bif rRightDec b then decide ((w64 (a.c * (rTen (w64 (6 - a.scale))))) < (w64 (b.c * (rTen (w64 (6 - b.scale)))))) else false) else false)
set_option maxRecDepth 100000 in
theorem c_rDecLess (a : Dec) (b : Dec) : Gets Try.prog 138 #[.agg #[.int .i64 a.c, .int .i64 a.scale], .agg #[.int .i64 b.c, .int .i64 b.scale]] ((fun (r : Bool) => (.bool r : Value)) (rDecLess a b)) := by
 refine gets_fin Try.func138 rfl rfl rfl (aQ (aL (ao 2 rfl rfl (st_box (v := .agg #[.int .i64 a.c, .int .i64 a.scale]) (cs := [.int .i64 a.c, .int .i64 a.scale]) rfl rfl rfl fun g0 => (ao 3 rfl rfl (st_box (v := .agg #[.int .i64 b.c, .int .i64 b.scale]) (cs := [.int .i64 b.c, .int .i64 b.scale]) rfl rfl rfl fun g1 => (aA 4 (.bool false) rfl rfl (aN (aQ ?_)))))))))
 refine ac_draw0 (id := 1) [0, 1, 2, 3, 4, 5, 6, 7, 8, 9, 10, 11, 12, 13, 14, 15, 16, 17, 18, 19, 20, 21, 22, 23] [] _ (by kernel_rfl) follows rfl  (dw_op (d := some 5) _ rfl rfl rfl (st_lda (vs := [.int .i64 a.c, .int .i64 a.scale]) agg83 1 rfl rfl rfl rfl rfl rfl ⟨rfl, rfl⟩) (dw_op (d := some 6) _ rfl rfl rfl (st_cf (c_rRightDec a) Try.func127 rfl (by decide) rfl rfl rfl ⟨rfl, rfl⟩) (dw_op (d := some 7) _ rfl rfl rfl (st_move (v := .bool (rRightDec a)) rfl rfl ⟨rfl, rfl⟩) ?_)))
 refine bool_split (rRightDec a) (fun h1 => ?_) (fun h1 => ?_)
 ·refine dw_gd (d := (some 8)) (.agg #[.int .i64 b.c, .int .i64 b.scale]) rfl (by show ((rRightDec a) == true) = true; rw [h1]; rfl) rfl (st_lda (vs := [.int .i64 b.c, .int .i64 b.scale]) agg83 0 rfl rfl rfl rfl rfl rfl ⟨rfl, rfl⟩) (dw_gd (d := (some 9)) (.bool (rRightDec b)) rfl (by show ((rRightDec a) == true) = true; rw [h1]; rfl) rfl (st_cf (c_rRightDec b) Try.func127 rfl (by decide) rfl rfl rfl ⟨rfl, rfl⟩) (dw_op (d := some 10) _ rfl rfl rfl (st_pkt' (b := rRightDec a) (v := .bool (rRightDec b)) h1 rfl rfl rfl ⟨rfl, rfl⟩) (dw_op (d := some 11) _ rfl rfl rfl (st_move (v := .bool (rRightDec b)) rfl rfl ⟨rfl, rfl⟩) ?_)))
  refine bool_split (rRightDec b) (fun h2 => ?_) (fun h2 => ?_)
  ·refine dw_gd (d := (some 12)) (.pointer (some ⟨g0, 0, none⟩)) rfl (by show ((rRightDec b) == true) = true; rw [h2]; rfl) rfl (st_fa rfl fa83_0 rfl ⟨rfl, rfl⟩) (dw_gd (d := (some 13)) (.int .i64 a.c) rfl (by show ((rRightDec b) == true) = true; rw [h2]; rfl) rfl (st_ldc (v := .int .i64 a.c) cell3 1 rfl rfl rfl rfl rfl ⟨rfl, rfl⟩) (dw_gd (d := (some 14)) (.pointer (some ⟨g0, 1, none⟩)) rfl (by show ((rRightDec b) == true) = true; rw [h2]; rfl) rfl (st_fa rfl fa83_1 rfl ⟨rfl, rfl⟩) (dw_gd (d := (some 15)) (.int .i64 a.scale) rfl (by show ((rRightDec b) == true) = true; rw [h2]; rfl) rfl (st_ldc (v := .int .i64 a.scale) cell3 1 rfl rfl rfl rfl rfl ⟨rfl, rfl⟩) ?_)))
   refine dw_gd (d := (some 16)) (.int .i64 (w64 (6 - a.scale))) rfl (by show ((rRightDec b) == true) = true; rw [h2]; rfl) rfl (st_bi (r := .int .i64 (w64 (6 - a.scale))) rfl rfl rfl (bi_sub rfl) ⟨rfl, rfl⟩) (dw_gd (d := (some 17)) (.int .i64 (rTen (w64 (6 - a.scale)))) rfl (by show ((rRightDec b) == true) = true; rw [h2]; rfl) rfl (st_cf (c_rTen (w64 (6 - a.scale)) (ten_ok2 h1)) Try.func129 rfl (by decide) rfl rfl rfl ⟨rfl, rfl⟩) (dw_gd (d := (some 18)) (.int .i64 (w64 (a.c * (rTen (w64 (6 - a.scale)))))) rfl (by show ((rRightDec b) == true) = true; rw [h2]; rfl) rfl (st_bi (r := .int .i64 (w64 (a.c * (rTen (w64 (6 - a.scale)))))) rfl rfl rfl (bi_mul rfl) ⟨rfl, rfl⟩) ?_))
   refine dw_gd (d := (some 19)) (.pointer (some ⟨g1, 0, none⟩)) rfl (by show ((rRightDec b) == true) = true; rw [h2]; rfl) rfl (st_fa rfl fa83_0 rfl ⟨rfl, rfl⟩) (dw_gd (d := (some 20)) (.int .i64 b.c) rfl (by show ((rRightDec b) == true) = true; rw [h2]; rfl) rfl (st_ldc (v := .int .i64 b.c) cell3 0 rfl rfl rfl rfl rfl ⟨rfl, rfl⟩) (dw_gd (d := (some 21)) (.pointer (some ⟨g1, 1, none⟩)) rfl (by show ((rRightDec b) == true) = true; rw [h2]; rfl) rfl (st_fa rfl fa83_1 rfl ⟨rfl, rfl⟩) (dw_gd (d := (some 22)) (.int .i64 b.scale) rfl (by show ((rRightDec b) == true) = true; rw [h2]; rfl) rfl (st_ldc (v := .int .i64 b.scale) cell3 0 rfl rfl rfl rfl rfl ⟨rfl, rfl⟩) ?_)))
   refine dw_gd (d := (some 23)) (.int .i64 (w64 (6 - b.scale))) rfl (by show ((rRightDec b) == true) = true; rw [h2]; rfl) rfl (st_bi (r := .int .i64 (w64 (6 - b.scale))) rfl rfl rfl (bi_sub rfl) ⟨rfl, rfl⟩) (dw_gd (d := (some 24)) (.int .i64 (rTen (w64 (6 - b.scale)))) rfl (by show ((rRightDec b) == true) = true; rw [h2]; rfl) rfl (st_cf (c_rTen (w64 (6 - b.scale)) (ten_ok2 h2)) Try.func129 rfl (by decide) rfl rfl rfl ⟨rfl, rfl⟩) (dw_gd (d := (some 25)) (.int .i64 (w64 (b.c * (rTen (w64 (6 - b.scale)))))) rfl (by show ((rRightDec b) == true) = true; rw [h2]; rfl) rfl (st_bi (r := .int .i64 (w64 (b.c * (rTen (w64 (6 - b.scale)))))) rfl rfl rfl (bi_mul rfl) ⟨rfl, rfl⟩) ?_))
   refine dw_gd (d := (some 26)) (.bool (decide ((w64 (a.c * (rTen (w64 (6 - a.scale))))) < (w64 (b.c * (rTen (w64 (6 - b.scale)))))))) rfl (by show ((rRightDec b) == true) = true; rw [h2]; rfl) rfl (st_bi (r := .bool (decide ((w64 (a.c * (rTen (w64 (6 - a.scale))))) < (w64 (b.c * (rTen (w64 (6 - b.scale)))))))) rfl rfl rfl (bi_lss rfl) ⟨rfl, rfl⟩) (dw_op (d := some 27) _ rfl rfl rfl (st_pkt' (b := rRightDec b) (v := .bool (decide ((w64 (a.c * (rTen (w64 (6 - a.scale))))) < (w64 (b.c * (rTen (w64 (6 - b.scale)))))))) h2 rfl rfl rfl ⟨rfl, rfl⟩) ?_)
   refine dw_op (d := some 4) _ rfl rfl rfl (st_assign (v := .bool (decide ((w64 (a.c * (rTen (w64 (6 - a.scale))))) < (w64 (b.c * (rTen (w64 (6 - b.scale)))))))) rfl rfl ⟨rfl, rfl⟩) (dw_nil (aN (ac_ret (fin_eq (v := .bool (decide ((w64 (a.c * (rTen (w64 (6 - a.scale))))) < (w64 (b.c * (rTen (w64 (6 - b.scale)))))))) (by show _ = (fun (r : Bool) => (.bool r : Value)) (rDecLess a b); rw [rDecLess, h2, h1] <;> rfl) (fin_ret (res_tmp rfl rfl))))))
  ·refine dw_sk (d := (some 12)) rfl (by show ((rRightDec b) == true) = false; rw [h2]; rfl) rfl (dw_sk (d := (some 13)) rfl (by show ((rRightDec b) == true) = false; rw [h2]; rfl) rfl (dw_sk (d := (some 14)) rfl (by show ((rRightDec b) == true) = false; rw [h2]; rfl) rfl (dw_sk (d := (some 15)) rfl (by show ((rRightDec b) == true) = false; rw [h2]; rfl) rfl (dw_sk (d := (some 16)) rfl (by show ((rRightDec b) == true) = false; rw [h2]; rfl) rfl (dw_sk (d := (some 17)) rfl (by show ((rRightDec b) == true) = false; rw [h2]; rfl) rfl (dw_sk (d := (some 18)) rfl (by show ((rRightDec b) == true) = false; rw [h2]; rfl) rfl ?_))))))
   refine dw_sk (d := (some 19)) rfl (by show ((rRightDec b) == true) = false; rw [h2]; rfl) rfl (dw_sk (d := (some 20)) rfl (by show ((rRightDec b) == true) = false; rw [h2]; rfl) rfl (dw_sk (d := (some 21)) rfl (by show ((rRightDec b) == true) = false; rw [h2]; rfl) rfl (dw_sk (d := (some 22)) rfl (by show ((rRightDec b) == true) = false; rw [h2]; rfl) rfl (dw_sk (d := (some 23)) rfl (by show ((rRightDec b) == true) = false; rw [h2]; rfl) rfl (dw_sk (d := (some 24)) rfl (by show ((rRightDec b) == true) = false; rw [h2]; rfl) rfl (dw_sk (d := (some 25)) rfl (by show ((rRightDec b) == true) = false; rw [h2]; rfl) rfl ?_))))))
   refine dw_sk (d := (some 26)) rfl (by show ((rRightDec b) == true) = false; rw [h2]; rfl) rfl (dw_op (d := some 27) _ rfl rfl rfl (st_pkf' (b := rRightDec b) (v := .bool false) h2 rfl rfl rfl ⟨rfl, rfl⟩) (dw_op (d := some 4) _ rfl rfl rfl (st_assign (v := .bool false) rfl rfl ⟨rfl, rfl⟩) (dw_nil (aN (ac_ret (fin_eq (v := .bool false) (by show _ = (fun (r : Bool) => (.bool r : Value)) (rDecLess a b); rw [rDecLess, h2, h1] <;> rfl) (fin_ret (res_tmp rfl rfl))))))))
 ·refine dw_sk (d := (some 8)) rfl (by show ((rRightDec a) == true) = false; rw [h1]; rfl) rfl (dw_sk (d := (some 9)) rfl (by show ((rRightDec a) == true) = false; rw [h1]; rfl) rfl (dw_op (d := some 10) _ rfl rfl rfl (st_pkf' (b := rRightDec a) (v := .bool false) h1 rfl rfl rfl ⟨rfl, rfl⟩) (dw_op (d := some 11) _ rfl rfl rfl (st_move (v := .bool false) rfl rfl ⟨rfl, rfl⟩) (dw_sk (d := (some 12)) rfl rfl rfl (dw_sk (d := (some 13)) rfl rfl rfl (dw_sk (d := (some 14)) rfl rfl rfl (dw_sk (d := (some 15)) rfl rfl rfl (dw_sk (d := (some 16)) rfl rfl rfl (dw_sk (d := (some 17)) rfl rfl rfl (dw_sk (d := (some 18)) rfl rfl rfl (dw_sk (d := (some 19)) rfl rfl rfl ?_)))))))))))
  refine dw_sk (d := (some 20)) rfl rfl rfl (dw_sk (d := (some 21)) rfl rfl rfl (dw_sk (d := (some 22)) rfl rfl rfl (dw_sk (d := (some 23)) rfl rfl rfl (dw_sk (d := (some 24)) rfl rfl rfl (dw_sk (d := (some 25)) rfl rfl rfl (dw_sk (d := (some 26)) rfl rfl rfl (dw_op (d := some 27) _ rfl rfl rfl (st_pkf (v := .bool false) rfl rfl rfl ⟨rfl, rfl⟩) (dw_op (d := some 4) _ rfl rfl rfl (st_assign (v := .bool false) rfl rfl ⟨rfl, rfl⟩) (dw_nil (aN (ac_ret (fin_eq (v := .bool false) (by show _ = (fun (r : Bool) => (.bool r : Value)) (rDecLess a b); rw [rDecLess, h1] <;> rfl) (fin_ret (res_tmp rfl rfl))))))))))))))
def rLine (k : Int) : Iv := (bif k == 0 then (rDecIv (⟨5876, 4⟩ : Dec)) else (bif k == 1 then (rDecIv (⟨4861, 4⟩ : Dec)) else (bif k == 2 then (rDecIv (⟨6563, 4⟩ : Dec)) else rNone)))
set_option maxRecDepth 100000 in
theorem c_rLine (k : Int) : Gets Try.prog 78 #[.int .i64 k] (Iv.v (rLine k)) := by
 refine gets_fin Try.func78 rfl rfl rfl (aQ (aL (ao 2 rfl rfl (st_new zero26 rfl fun g0 => (aN (aQ (aQ (aL (aM 3 (.int .i64 k) rfl rfl (aN (ac_block (aQ (aL (aB 5 (.bool (k == 0)) rfl rfl rfl (bi_eql rfl) (aA 4 (.bool (k == 0)) rfl rfl (aN ?_))))))))))))))))
 refine bool_split (k == 0) (fun h1 => ?_) (fun h1 => ?_)
 ·refine ac_then' (b := k == 0) h1 rfl (aQ (aL (ao 6 rfl rfl (st_bd (us := [(0, .int .i64 5876), (1, .int .i64 4)]) (v := .agg #[.int .i64 5876, .int .i64 4]) rfl rfl (bd83_0_1 _ _) (aC 7 (c_rDecIv (⟨5876, 4⟩ : Dec)) Try.func106 ⟨rfl, by decide⟩ rfl rfl (aS [.int .i64 ((rDecIv (⟨5876, 4⟩ : Dec)).lo), .int .i64 ((rDecIv (⟨5876, 4⟩ : Dec)).hi), .bool ((rDecIv (⟨5876, 4⟩ : Dec)).no)] agg26 0 rfl rfl rfl rfl rfl rfl (aN (ac_ret ?_))))))))
  exact fin_eq (v := .agg #[.int .i64 ((rDecIv (⟨5876, 4⟩ : Dec)).lo), .int .i64 ((rDecIv (⟨5876, 4⟩ : Dec)).hi), .bool ((rDecIv (⟨5876, 4⟩ : Dec)).no)]) (by show _ = Iv.v (rLine k); rw [rLine, h1] <;> rfl) (fin_ret (res_c (vs := [.int .i64 ((rDecIv (⟨5876, 4⟩ : Dec)).lo), .int .i64 ((rDecIv (⟨5876, 4⟩ : Dec)).hi), .bool ((rDecIv (⟨5876, 4⟩ : Dec)).no)]) agg26 0 rfl rfl rfl rfl rfl rfl))
 ·refine ac_else' (b := k == 0) h1 rfl (aQ (aL (aB 9 (.bool (k == 1)) rfl rfl rfl (bi_eql rfl) (aA 8 (.bool (k == 1)) rfl rfl (aN ?_)))))
  refine bool_split (k == 1) (fun h2 => ?_) (fun h2 => ?_)
  ·refine ac_then' (b := k == 1) h2 rfl (aQ (aL (ao 10 rfl rfl (st_bd (us := [(0, .int .i64 4861), (1, .int .i64 4)]) (v := .agg #[.int .i64 4861, .int .i64 4]) rfl rfl (bd83_0_1 _ _) (aC 11 (c_rDecIv (⟨4861, 4⟩ : Dec)) Try.func106 ⟨rfl, by decide⟩ rfl rfl (aS [.int .i64 ((rDecIv (⟨4861, 4⟩ : Dec)).lo), .int .i64 ((rDecIv (⟨4861, 4⟩ : Dec)).hi), .bool ((rDecIv (⟨4861, 4⟩ : Dec)).no)] agg26 0 rfl rfl rfl rfl rfl rfl (aN (ac_ret ?_))))))))
   exact fin_eq (v := .agg #[.int .i64 ((rDecIv (⟨4861, 4⟩ : Dec)).lo), .int .i64 ((rDecIv (⟨4861, 4⟩ : Dec)).hi), .bool ((rDecIv (⟨4861, 4⟩ : Dec)).no)]) (by show _ = Iv.v (rLine k); rw [rLine, h2, h1] <;> rfl) (fin_ret (res_c (vs := [.int .i64 ((rDecIv (⟨4861, 4⟩ : Dec)).lo), .int .i64 ((rDecIv (⟨4861, 4⟩ : Dec)).hi), .bool ((rDecIv (⟨4861, 4⟩ : Dec)).no)]) agg26 0 rfl rfl rfl rfl rfl rfl))
  ·refine ac_else' (b := k == 1) h2 rfl (aQ (aL (aB 13 (.bool (k == 2)) rfl rfl rfl (bi_eql rfl) (aA 12 (.bool (k == 2)) rfl rfl (aN ?_)))))
   refine bool_split (k == 2) (fun h3 => ?_) (fun h3 => ?_)
   ·refine ac_then' (b := k == 2) h3 rfl (aQ (aL (ao 14 rfl rfl (st_bd (us := [(0, .int .i64 6563), (1, .int .i64 4)]) (v := .agg #[.int .i64 6563, .int .i64 4]) rfl rfl (bd83_0_1 _ _) (aC 15 (c_rDecIv (⟨6563, 4⟩ : Dec)) Try.func106 ⟨rfl, by decide⟩ rfl rfl (aS [.int .i64 ((rDecIv (⟨6563, 4⟩ : Dec)).lo), .int .i64 ((rDecIv (⟨6563, 4⟩ : Dec)).hi), .bool ((rDecIv (⟨6563, 4⟩ : Dec)).no)] agg26 0 rfl rfl rfl rfl rfl rfl (aN (ac_ret ?_))))))))
    exact fin_eq (v := .agg #[.int .i64 ((rDecIv (⟨6563, 4⟩ : Dec)).lo), .int .i64 ((rDecIv (⟨6563, 4⟩ : Dec)).hi), .bool ((rDecIv (⟨6563, 4⟩ : Dec)).no)]) (by show _ = Iv.v (rLine k); rw [rLine, h3, h2, h1] <;> rfl) (fin_ret (res_c (vs := [.int .i64 ((rDecIv (⟨6563, 4⟩ : Dec)).lo), .int .i64 ((rDecIv (⟨6563, 4⟩ : Dec)).hi), .bool ((rDecIv (⟨6563, 4⟩ : Dec)).no)]) agg26 0 rfl rfl rfl rfl rfl rfl))
   ·refine ac_else' (b := k == 2) h3 rfl (ac_skip (aQ (aL (aC 16 c_rNone Try.func111 ⟨rfl, by decide⟩ rfl rfl (aS [.int .i64 rNone.lo, .int .i64 rNone.hi, .bool rNone.no] agg26 0 rfl rfl rfl rfl rfl rfl (aN (ac_ret (fin_eq (v := .agg #[.int .i64 rNone.lo, .int .i64 rNone.hi, .bool rNone.no]) (by show _ = Iv.v (rLine k); rw [rLine, h3, h2, h1] <;> rfl) (fin_ret (res_c (vs := [.int .i64 rNone.lo, .int .i64 rNone.hi, .bool rNone.no]) agg26 0 rfl rfl rfl rfl rfl rfl))))))))))
end Go.Proofs.Ythngkopcadlciaa
namespace Go.Proofs.Ythngkopcadlciaa
open Go.RowKit
attribute [local irreducible] AC AR DWalk
set_option maxRecDepth 100000
def digI : Nat → Int → ByteArray
 | 0, n => byteS (IntKind.u8.wrap (w64 (48 + n)))
 | k + 1, n => bif decide (n < 10) then byteS (IntKind.u8.wrap (w64 (48 + n))) else digI k (w64 (Int.tdiv n 10)) ++ byteS (IntKind.u8.wrap (w64 (48 + Int.tmod n 10)))
theorem dig_le : ∀ (k : Nat) (n : Int), (digI k n).size ≤ k + 1
 | 0, n => Nat.le_refl _
 | k + 1, n => by
  rw [digI]
  cases decide (n < 10)
  ·exact sz_add (dig_le k _) (byteS_size _)
  ·exact Nat.le_trans (byteS_size _) (by omega)
theorem dig_le19 {k : Nat} (hk : k ≤ 18) (n : Int) : (digI k n).size ≤ 19 := Nat.le_trans (dig_le k n) (by omega)
theorem dig_pos : ∀ (k : Nat) (n : Int), 1 ≤ (digI k n).size
 | 0, n => Nat.le_refl _
 | k + 1, n => by
  rw [digI]
  cases decide (n < 10)
  ·rw [cond_false, ByteArray.size_append']
   exact Nat.le_trans (Nat.le_refl 1) (Nat.le_add_left _ _)
  ·exact Nat.le_refl _
theorem dig_step {k : Nat} {n : Int} (h0 : 0 ≤ n) (h63 : n ≤ 9223372036854775807) (hlt : n < 10 ^ (k + 2)) : 0 ≤ w64 (Int.tdiv n 10) ∧ w64 (Int.tdiv n 10) ≤ 9223372036854775807 ∧ w64 (Int.tdiv n 10) < 10 ^ (k + 1) := by
 have h1 : (10 : Int) ^ (k + 2) = 10 ^ (k + 1) * 10 := Int.pow_succ _ (k + 1)
 rw [h1] at hlt
 rw [Int.tdiv_eq_ediv_of_nonneg h0]
 generalize (10 : Int) ^ (k + 1) = P at *
 rw [w64_id (by omega)]
 omega
theorem c_dig : ∀ (k : Nat), k ≤ 18 → ∀ (n : Int), 0 ≤ n → n ≤ 9223372036854775807 → n < 10 ^ (k + 1) → Gets Try.prog 103 #[.int .i64 n] (.string (digI k n))
 | 0, hk, n, h0, h63, hlt => by
  refine gets_fin Try.func103 rfl rfl rfl (aQ (aL (aA 2 (.string (⟨#[]⟩ : ByteArray)) rfl rfl (aN (aQ (aQ (aL (aM 3 (.int .i64 n) rfl rfl (aB 4 (.bool (decide (n < 0))) rfl rfl rfl (bi_lss rfl) (aN (ac_else' (b := decide (n < 0)) (decide_eq_false (show ¬ (n < 0) by omega)) rfl (ac_skip (aQ (aQ (aL (aM 9 (.int .i64 n) rfl rfl (aB 10 (.bool (decide (n < 10))) rfl rfl rfl (bi_lss rfl) (aN (ac_then' (b := decide (n < 10)) (decide_eq_true (show n < 10 by simpa using hlt)) rfl (aQ (aL (aM 11 (.int .i64 n) rfl rfl (aB 12 (.int .i64 (w64 (48 + n))) rfl rfl rfl (bi_add rfl) ?_)))))))))))))))))))))))
  refine ao 13 rfl rfl (st_cv_int (k := .u8) (a := (w64 (48 + n))) (c := (IntKind.u8.wrap (w64 (48 + n)))) Try.underlying5 Try.underlying3 rfl rfl rfl (ao 14 rfl rfl (st_bs (us := [(0, .int .u8 (IntKind.u8.wrap (w64 (48 + n))))]) (cs := [.int .u8 (IntKind.u8.wrap (w64 (48 + n)))]) rfl rfl (bs141_1_0 _) fun g0 => (ao 15 rfl rfl (st_cvs (g := g0) (n := (IntKind.u8.wrap (w64 (48 + n)))) 0 rfl Try.underlying141 Try.underlying5 Try.underlying9 rfl rfl rfl rfl (aA 2 (.string (byteS (IntKind.u8.wrap (w64 (48 + n))))) rfl rfl (aN (ac_ret (fin_eq (v := .string (byteS (IntKind.u8.wrap (w64 (48 + n))))) rfl (fin_ret (res_tmp rfl rfl)))))))))))
 | k + 1, hk, n, h0, h63, hlt => by
  have ih := c_dig k (by omega)
  refine gets_fin Try.func103 rfl rfl rfl (aQ (aL (aA 2 (.string (⟨#[]⟩ : ByteArray)) rfl rfl (aN (aQ (aQ (aL (aM 3 (.int .i64 n) rfl rfl (aB 4 (.bool (decide (n < 0))) rfl rfl rfl (bi_lss rfl) (aN (ac_else' (b := decide (n < 0)) (decide_eq_false (show ¬ (n < 0) by omega)) rfl (ac_skip (aQ (aQ (aL (aM 9 (.int .i64 n) rfl rfl (aB 10 (.bool (decide (n < 10))) rfl rfl rfl (bi_lss rfl) (aN ?_))))))))))))))))))
  refine bool_split (decide (n < 10)) (fun h1 => ?_) (fun h1 => ?_)
  ·refine ac_then' (b := decide (n < 10)) h1 rfl (aQ (aL (aM 11 (.int .i64 n) rfl rfl (aB 12 (.int .i64 (w64 (48 + n))) rfl rfl rfl (bi_add rfl) (ao 13 rfl rfl (st_cv_int (k := .u8) (a := (w64 (48 + n))) (c := (IntKind.u8.wrap (w64 (48 + n)))) Try.underlying5 Try.underlying3 rfl rfl rfl (ao 14 rfl rfl (st_bs (us := [(0, .int .u8 (IntKind.u8.wrap (w64 (48 + n))))]) (cs := [.int .u8 (IntKind.u8.wrap (w64 (48 + n)))]) rfl rfl (bs141_1_0 _) fun g0 => (ao 15 rfl rfl (st_cvs (g := g0) (n := (IntKind.u8.wrap (w64 (48 + n)))) 0 rfl Try.underlying141 Try.underlying5 Try.underlying9 rfl rfl rfl rfl (aA 2 (.string (byteS (IntKind.u8.wrap (w64 (48 + n))))) rfl rfl (aN ?_))))))))))))
   refine ac_ret (fin_eq (v := .string (byteS (IntKind.u8.wrap (w64 (48 + n))))) (by rw [digI, h1]; rfl) (fin_ret (res_tmp rfl rfl)))
  ·refine ac_else' (b := decide (n < 10)) h1 rfl (ac_skip (aQ ?_))
   refine ac_any follows 11 rfl (fun Φ stepR doneR permR => ?_)
   refine ((fun s5_29 => ?_) : (∀ (E : Env) (b5_7 : Nat), E 2 = .string ((digI k (w64 (Int.tdiv n 10))) ++ (byteS (IntKind.u8.wrap (w64 (48 + (Int.tmod n 10)))))) → Φ 0 [true, true, true, true, true, true, true, true, true, true, true] E [⟨b5_7, [.int .u8 (IntKind.u8.wrap (w64 (48 + (Int.tmod n 10))))], 5, false⟩]) → _) ?_
   ·have s5_28 : ∀ (E : Env) (b5_7 : Nat), E 2 = .string (⟨#[]⟩ : ByteArray) → E 25 = .string ((digI k (w64 (Int.tdiv n 10))) ++ (byteS (IntKind.u8.wrap (w64 (48 + (Int.tmod n 10)))))) → Φ 1 [true, true, true, true, true, true, true, true, true, true, false] E [⟨b5_7, [.int .u8 (IntKind.u8.wrap (w64 (48 + (Int.tmod n 10))))], 5, false⟩] := by
     intro E b5_7 q2 q25
     obtain ⟨E0, rfl⟩ : ∃ E0 : Env, E = ((E0.put (some 2) (.string (⟨#[]⟩ : ByteArray))).put (some 25) (.string ((digI k (w64 (Int.tdiv n 10))) ++ (byteS (IntKind.u8.wrap (w64 (48 + (Int.tmod n 10)))))))) := ⟨E, by rw [put_self q2, put_self q25]⟩
     refine stepR 0 _ _ _ [10] (by kernel_rfl) rfl ⟨?_, trivial⟩
     ·refine opR_op (d := (some 2)) rfl rfl rfl (st_assign (v := .string ((digI k (w64 (Int.tdiv n 10))) ++ (byteS (IntKind.u8.wrap (w64 (48 + (Int.tmod n 10))))))) rfl rfl ?_)
      exact s5_29 _ _ rfl
    have s5_27 : ∀ (E : Env) (b5_7 : Nat), E 2 = .string (⟨#[]⟩ : ByteArray) → E 18 = .string (digI k (w64 (Int.tdiv n 10))) → E 24 = .string (byteS (IntKind.u8.wrap (w64 (48 + (Int.tmod n 10))))) → Φ 2 [true, true, true, true, true, true, true, true, true, false, false] E [⟨b5_7, [.int .u8 (IntKind.u8.wrap (w64 (48 + (Int.tmod n 10))))], 5, false⟩] := by
     intro E b5_7 q2 q18 q24
     obtain ⟨E0, rfl⟩ : ∃ E0 : Env, E = (((E0.put (some 2) (.string (⟨#[]⟩ : ByteArray))).put (some 18) (.string (digI k (w64 (Int.tdiv n 10))))).put (some 24) (.string (byteS (IntKind.u8.wrap (w64 (48 + (Int.tmod n 10))))))) := ⟨E, by rw [put_self q2, put_self q18, put_self q24]⟩
     refine stepR 1 _ _ _ [9] (by kernel_rfl) rfl ⟨?_, trivial⟩
     ·refine opR_op (d := (some 25)) rfl rfl rfl (st_bi (r := .string ((digI k (w64 (Int.tdiv n 10))) ++ (byteS (IntKind.u8.wrap (w64 (48 + (Int.tmod n 10))))))) rfl rfl rfl (bi_sadd (sz_two (dig_le19 (by omega : k ≤ 18) _) (byteS_size _) (by decide))) ?_)
      exact s5_28 _ _ rfl rfl
    have s5_26 : ∀ (E : Env) (b5_7 : Nat), E 2 = .string (⟨#[]⟩ : ByteArray) → E 18 = .string (digI k (w64 (Int.tdiv n 10))) → E 23 = .slice (some ⟨b5_7, 0, none⟩) 1 1 → Φ 3 [true, true, true, true, true, true, true, true, false, false, false] E [⟨b5_7, [.int .u8 (IntKind.u8.wrap (w64 (48 + (Int.tmod n 10))))], 5, false⟩] := by
     intro E b5_7 q2 q18 q23
     obtain ⟨E0, rfl⟩ : ∃ E0 : Env, E = (((E0.put (some 2) (.string (⟨#[]⟩ : ByteArray))).put (some 18) (.string (digI k (w64 (Int.tdiv n 10))))).put (some 23) (.slice (some ⟨b5_7, 0, none⟩) 1 1)) := ⟨E, by rw [put_self q2, put_self q18, put_self q23]⟩
     refine stepR 2 _ _ _ [8] (by kernel_rfl) rfl ⟨?_, trivial⟩
     ·refine opR_op (d := (some 24)) rfl rfl rfl (st_cvs (g := b5_7) (n := (IntKind.u8.wrap (w64 (48 + (Int.tmod n 10))))) 0 rfl Try.underlying141 Try.underlying5 Try.underlying9 rfl rfl rfl rfl ?_)
      exact s5_27 _ _ rfl rfl rfl
    have s5_25 : ∀ (E : Env) (b5_7 : Nat), E 2 = .string (⟨#[]⟩ : ByteArray) → E 17 = .int .i64 (w64 (Int.tdiv n 10)) → E 24 = .string (byteS (IntKind.u8.wrap (w64 (48 + (Int.tmod n 10))))) → Φ 3 [true, true, false, true, true, true, true, true, true, false, false] E [⟨b5_7, [.int .u8 (IntKind.u8.wrap (w64 (48 + (Int.tmod n 10))))], 5, false⟩] := by
     intro E b5_7 q2 q17 q24
     obtain ⟨E0, rfl⟩ : ∃ E0 : Env, E = (((E0.put (some 2) (.string (⟨#[]⟩ : ByteArray))).put (some 17) (.int .i64 (w64 (Int.tdiv n 10)))).put (some 24) (.string (byteS (IntKind.u8.wrap (w64 (48 + (Int.tmod n 10))))))) := ⟨E, by rw [put_self q2, put_self q17, put_self q24]⟩
     refine stepR 2 _ _ _ [2] (by kernel_rfl) rfl ⟨?_, trivial⟩
     ·refine opR_op (d := (some 18)) rfl rfl rfl (st_cf (ih _ (dig_step h0 h63 hlt).1 (dig_step h0 h63 hlt).2.1 (dig_step h0 h63 hlt).2.2) Try.func103 rfl (by decide) rfl rfl rfl ?_)
      exact s5_27 _ _ rfl rfl rfl
    have s5_24 : ∀ (E : Env), E 2 = .string (⟨#[]⟩ : ByteArray) → E 18 = .string (digI k (w64 (Int.tdiv n 10))) → E 22 = .int .u8 (IntKind.u8.wrap (w64 (48 + (Int.tmod n 10)))) → Φ 4 [true, true, true, true, true, true, true, false, false, false, false] E [] := by
     intro E q2 q18 q22
     obtain ⟨E0, rfl⟩ : ∃ E0 : Env, E = (((E0.put (some 2) (.string (⟨#[]⟩ : ByteArray))).put (some 18) (.string (digI k (w64 (Int.tdiv n 10))))).put (some 22) (.int .u8 (IntKind.u8.wrap (w64 (48 + (Int.tmod n 10)))))) := ⟨E, by rw [put_self q2, put_self q18, put_self q22]⟩
     refine stepR 3 _ _ _ [7] (by kernel_rfl) rfl ⟨?_, trivial⟩
     ·refine opR_op (d := (some 23)) rfl rfl rfl (st_bs (us := [(0, .int .u8 (IntKind.u8.wrap (w64 (48 + (Int.tmod n 10)))))]) (cs := [.int .u8 (IntKind.u8.wrap (w64 (48 + (Int.tmod n 10))))]) rfl rfl (bs141_1_0 _) fun b5_7 => ?_)
      exact s5_26 _ _ rfl rfl rfl
    have s5_23 : ∀ (E : Env) (b5_7 : Nat), E 2 = .string (⟨#[]⟩ : ByteArray) → E 17 = .int .i64 (w64 (Int.tdiv n 10)) → E 23 = .slice (some ⟨b5_7, 0, none⟩) 1 1 → Φ 4 [true, true, false, true, true, true, true, true, false, false, false] E [⟨b5_7, [.int .u8 (IntKind.u8.wrap (w64 (48 + (Int.tmod n 10))))], 5, false⟩] := by
     intro E b5_7 q2 q17 q23
     obtain ⟨E0, rfl⟩ : ∃ E0 : Env, E = (((E0.put (some 2) (.string (⟨#[]⟩ : ByteArray))).put (some 17) (.int .i64 (w64 (Int.tdiv n 10)))).put (some 23) (.slice (some ⟨b5_7, 0, none⟩) 1 1)) := ⟨E, by rw [put_self q2, put_self q17, put_self q23]⟩
     refine stepR 3 _ _ _ [2, 8] (by kernel_rfl) rfl ⟨?_, ?_, trivial⟩
     ·refine opR_op (d := (some 18)) rfl rfl rfl (st_cf (ih _ (dig_step h0 h63 hlt).1 (dig_step h0 h63 hlt).2.1 (dig_step h0 h63 hlt).2.2) Try.func103 rfl (by decide) rfl rfl rfl ?_)
      exact s5_26 _ _ rfl rfl rfl
     ·refine opR_op (d := (some 24)) rfl rfl rfl (st_cvs (g := b5_7) (n := (IntKind.u8.wrap (w64 (48 + (Int.tmod n 10))))) 0 rfl Try.underlying141 Try.underlying5 Try.underlying9 rfl rfl rfl rfl ?_)
      exact s5_25 _ _ rfl rfl rfl
    have s5_22 : ∀ (E : Env) (b5_7 : Nat), E 2 = .string (⟨#[]⟩ : ByteArray) → E 16 = .int .i64 n → E 24 = .string (byteS (IntKind.u8.wrap (w64 (48 + (Int.tmod n 10))))) → Φ 4 [true, false, false, true, true, true, true, true, true, false, false] E [⟨b5_7, [.int .u8 (IntKind.u8.wrap (w64 (48 + (Int.tmod n 10))))], 5, false⟩] := by
     intro E b5_7 q2 q16 q24
     obtain ⟨E0, rfl⟩ : ∃ E0 : Env, E = (((E0.put (some 2) (.string (⟨#[]⟩ : ByteArray))).put (some 16) (.int .i64 n)).put (some 24) (.string (byteS (IntKind.u8.wrap (w64 (48 + (Int.tmod n 10))))))) := ⟨E, by rw [put_self q2, put_self q16, put_self q24]⟩
     refine stepR 3 _ _ _ [1] (by kernel_rfl) rfl ⟨?_, trivial⟩
     ·refine opR_op (d := (some 17)) rfl rfl rfl (st_bi (r := .int .i64 (w64 (Int.tdiv n 10))) rfl rfl rfl (bi_quo (by decide) rfl) ?_)
      exact s5_25 _ _ rfl rfl rfl
    have s5_21 : ∀ (E : Env), E 2 = .string (⟨#[]⟩ : ByteArray) → E 18 = .string (digI k (w64 (Int.tdiv n 10))) → E 21 = .int .i64 (w64 (48 + (Int.tmod n 10))) → Φ 5 [true, true, true, true, true, true, false, false, false, false, false] E [] := by
     intro E q2 q18 q21
     obtain ⟨E0, rfl⟩ : ∃ E0 : Env, E = (((E0.put (some 2) (.string (⟨#[]⟩ : ByteArray))).put (some 18) (.string (digI k (w64 (Int.tdiv n 10))))).put (some 21) (.int .i64 (w64 (48 + (Int.tmod n 10))))) := ⟨E, by rw [put_self q2, put_self q18, put_self q21]⟩
     refine stepR 4 _ _ _ [6] (by kernel_rfl) rfl ⟨?_, trivial⟩
     ·refine opR_op (d := (some 22)) rfl rfl rfl (st_cv_int (k := .u8) (a := (w64 (48 + (Int.tmod n 10)))) (c := (IntKind.u8.wrap (w64 (48 + (Int.tmod n 10))))) Try.underlying5 Try.underlying3 rfl rfl rfl ?_)
      exact s5_24 _ rfl rfl rfl
    have s5_20 : ∀ (E : Env), E 2 = .string (⟨#[]⟩ : ByteArray) → E 17 = .int .i64 (w64 (Int.tdiv n 10)) → E 22 = .int .u8 (IntKind.u8.wrap (w64 (48 + (Int.tmod n 10)))) → Φ 5 [true, true, false, true, true, true, true, false, false, false, false] E [] := by
     intro E q2 q17 q22
     obtain ⟨E0, rfl⟩ : ∃ E0 : Env, E = (((E0.put (some 2) (.string (⟨#[]⟩ : ByteArray))).put (some 17) (.int .i64 (w64 (Int.tdiv n 10)))).put (some 22) (.int .u8 (IntKind.u8.wrap (w64 (48 + (Int.tmod n 10)))))) := ⟨E, by rw [put_self q2, put_self q17, put_self q22]⟩
     refine stepR 4 _ _ _ [2, 7] (by kernel_rfl) rfl ⟨?_, ?_, trivial⟩
     ·refine opR_op (d := (some 18)) rfl rfl rfl (st_cf (ih _ (dig_step h0 h63 hlt).1 (dig_step h0 h63 hlt).2.1 (dig_step h0 h63 hlt).2.2) Try.func103 rfl (by decide) rfl rfl rfl ?_)
      exact s5_24 _ rfl rfl rfl
     ·refine opR_op (d := (some 23)) rfl rfl rfl (st_bs (us := [(0, .int .u8 (IntKind.u8.wrap (w64 (48 + (Int.tmod n 10)))))]) (cs := [.int .u8 (IntKind.u8.wrap (w64 (48 + (Int.tmod n 10))))]) rfl rfl (bs141_1_0 _) fun b5_7 => ?_)
      exact s5_23 _ _ rfl rfl rfl
    have s5_19 : ∀ (E : Env) (b5_7 : Nat), E 2 = .string (⟨#[]⟩ : ByteArray) → E 16 = .int .i64 n → E 23 = .slice (some ⟨b5_7, 0, none⟩) 1 1 → Φ 5 [true, false, false, true, true, true, true, true, false, false, false] E [⟨b5_7, [.int .u8 (IntKind.u8.wrap (w64 (48 + (Int.tmod n 10))))], 5, false⟩] := by
     intro E b5_7 q2 q16 q23
     obtain ⟨E0, rfl⟩ : ∃ E0 : Env, E = (((E0.put (some 2) (.string (⟨#[]⟩ : ByteArray))).put (some 16) (.int .i64 n)).put (some 23) (.slice (some ⟨b5_7, 0, none⟩) 1 1)) := ⟨E, by rw [put_self q2, put_self q16, put_self q23]⟩
     refine stepR 4 _ _ _ [1, 8] (by kernel_rfl) rfl ⟨?_, ?_, trivial⟩
     ·refine opR_op (d := (some 17)) rfl rfl rfl (st_bi (r := .int .i64 (w64 (Int.tdiv n 10))) rfl rfl rfl (bi_quo (by decide) rfl) ?_)
      exact s5_23 _ _ rfl rfl rfl
     ·refine opR_op (d := (some 24)) rfl rfl rfl (st_cvs (g := b5_7) (n := (IntKind.u8.wrap (w64 (48 + (Int.tmod n 10))))) 0 rfl Try.underlying141 Try.underlying5 Try.underlying9 rfl rfl rfl rfl ?_)
      exact s5_22 _ _ rfl rfl rfl
    have s5_18 : ∀ (E : Env) (b5_7 : Nat), E 0 = .int .i64 n → E 2 = .string (⟨#[]⟩ : ByteArray) → E 24 = .string (byteS (IntKind.u8.wrap (w64 (48 + (Int.tmod n 10))))) → Φ 5 [false, false, false, true, true, true, true, true, true, false, false] E [⟨b5_7, [.int .u8 (IntKind.u8.wrap (w64 (48 + (Int.tmod n 10))))], 5, false⟩] := by
     intro E b5_7 q0 q2 q24
     obtain ⟨E0, rfl⟩ : ∃ E0 : Env, E = (((E0.put (some 0) (.int .i64 n)).put (some 2) (.string (⟨#[]⟩ : ByteArray))).put (some 24) (.string (byteS (IntKind.u8.wrap (w64 (48 + (Int.tmod n 10))))))) := ⟨E, by rw [put_self q0, put_self q2, put_self q24]⟩
     refine stepR 4 _ _ _ [0] (by kernel_rfl) rfl ⟨?_, trivial⟩
     ·refine opR_op (d := (some 16)) rfl rfl rfl (st_move (v := .int .i64 n) rfl rfl ?_)
      exact s5_22 _ _ rfl rfl rfl
    have s5_17 : ∀ (E : Env), E 2 = .string (⟨#[]⟩ : ByteArray) → E 18 = .string (digI k (w64 (Int.tdiv n 10))) → E 20 = .int .i64 (Int.tmod n 10) → Φ 6 [true, true, true, true, true, false, false, false, false, false, false] E [] := by
     intro E q2 q18 q20
     obtain ⟨E0, rfl⟩ : ∃ E0 : Env, E = (((E0.put (some 2) (.string (⟨#[]⟩ : ByteArray))).put (some 18) (.string (digI k (w64 (Int.tdiv n 10))))).put (some 20) (.int .i64 (Int.tmod n 10))) := ⟨E, by rw [put_self q2, put_self q18, put_self q20]⟩
     refine stepR 5 _ _ _ [5] (by kernel_rfl) rfl ⟨?_, trivial⟩
     ·refine opR_op (d := (some 21)) rfl rfl rfl (st_bi (r := .int .i64 (w64 (48 + (Int.tmod n 10)))) rfl rfl rfl (bi_add rfl) ?_)
      exact s5_21 _ rfl rfl rfl
    have s5_16 : ∀ (E : Env), E 2 = .string (⟨#[]⟩ : ByteArray) → E 17 = .int .i64 (w64 (Int.tdiv n 10)) → E 21 = .int .i64 (w64 (48 + (Int.tmod n 10))) → Φ 6 [true, true, false, true, true, true, false, false, false, false, false] E [] := by
     intro E q2 q17 q21
     obtain ⟨E0, rfl⟩ : ∃ E0 : Env, E = (((E0.put (some 2) (.string (⟨#[]⟩ : ByteArray))).put (some 17) (.int .i64 (w64 (Int.tdiv n 10)))).put (some 21) (.int .i64 (w64 (48 + (Int.tmod n 10))))) := ⟨E, by rw [put_self q2, put_self q17, put_self q21]⟩
     refine stepR 5 _ _ _ [2, 6] (by kernel_rfl) rfl ⟨?_, ?_, trivial⟩
     ·refine opR_op (d := (some 18)) rfl rfl rfl (st_cf (ih _ (dig_step h0 h63 hlt).1 (dig_step h0 h63 hlt).2.1 (dig_step h0 h63 hlt).2.2) Try.func103 rfl (by decide) rfl rfl rfl ?_)
      exact s5_21 _ rfl rfl rfl
     ·refine opR_op (d := (some 22)) rfl rfl rfl (st_cv_int (k := .u8) (a := (w64 (48 + (Int.tmod n 10)))) (c := (IntKind.u8.wrap (w64 (48 + (Int.tmod n 10))))) Try.underlying5 Try.underlying3 rfl rfl rfl ?_)
      exact s5_20 _ rfl rfl rfl
    have s5_15 : ∀ (E : Env), E 2 = .string (⟨#[]⟩ : ByteArray) → E 16 = .int .i64 n → E 22 = .int .u8 (IntKind.u8.wrap (w64 (48 + (Int.tmod n 10)))) → Φ 6 [true, false, false, true, true, true, true, false, false, false, false] E [] := by
     intro E q2 q16 q22
     obtain ⟨E0, rfl⟩ : ∃ E0 : Env, E = (((E0.put (some 2) (.string (⟨#[]⟩ : ByteArray))).put (some 16) (.int .i64 n)).put (some 22) (.int .u8 (IntKind.u8.wrap (w64 (48 + (Int.tmod n 10)))))) := ⟨E, by rw [put_self q2, put_self q16, put_self q22]⟩
     refine stepR 5 _ _ _ [1, 7] (by kernel_rfl) rfl ⟨?_, ?_, trivial⟩
     ·refine opR_op (d := (some 17)) rfl rfl rfl (st_bi (r := .int .i64 (w64 (Int.tdiv n 10))) rfl rfl rfl (bi_quo (by decide) rfl) ?_)
      exact s5_20 _ rfl rfl rfl
     ·refine opR_op (d := (some 23)) rfl rfl rfl (st_bs (us := [(0, .int .u8 (IntKind.u8.wrap (w64 (48 + (Int.tmod n 10)))))]) (cs := [.int .u8 (IntKind.u8.wrap (w64 (48 + (Int.tmod n 10))))]) rfl rfl (bs141_1_0 _) fun b5_7 => ?_)
      exact s5_19 _ _ rfl rfl rfl
    have s5_14 : ∀ (E : Env) (b5_7 : Nat), E 0 = .int .i64 n → E 2 = .string (⟨#[]⟩ : ByteArray) → E 23 = .slice (some ⟨b5_7, 0, none⟩) 1 1 → Φ 6 [false, false, false, true, true, true, true, true, false, false, false] E [⟨b5_7, [.int .u8 (IntKind.u8.wrap (w64 (48 + (Int.tmod n 10))))], 5, false⟩] := by
     intro E b5_7 q0 q2 q23
     obtain ⟨E0, rfl⟩ : ∃ E0 : Env, E = (((E0.put (some 0) (.int .i64 n)).put (some 2) (.string (⟨#[]⟩ : ByteArray))).put (some 23) (.slice (some ⟨b5_7, 0, none⟩) 1 1)) := ⟨E, by rw [put_self q0, put_self q2, put_self q23]⟩
     refine stepR 5 _ _ _ [0, 8] (by kernel_rfl) rfl ⟨?_, ?_, trivial⟩
     ·refine opR_op (d := (some 16)) rfl rfl rfl (st_move (v := .int .i64 n) rfl rfl ?_)
      exact s5_19 _ _ rfl rfl rfl
     ·refine opR_op (d := (some 24)) rfl rfl rfl (st_cvs (g := b5_7) (n := (IntKind.u8.wrap (w64 (48 + (Int.tmod n 10))))) 0 rfl Try.underlying141 Try.underlying5 Try.underlying9 rfl rfl rfl rfl ?_)
      exact s5_18 _ _ rfl rfl rfl
    have s5_13 : ∀ (E : Env), E 2 = .string (⟨#[]⟩ : ByteArray) → E 18 = .string (digI k (w64 (Int.tdiv n 10))) → E 19 = .int .i64 n → Φ 7 [true, true, true, true, false, false, false, false, false, false, false] E [] := by
     intro E q2 q18 q19
     obtain ⟨E0, rfl⟩ : ∃ E0 : Env, E = (((E0.put (some 2) (.string (⟨#[]⟩ : ByteArray))).put (some 18) (.string (digI k (w64 (Int.tdiv n 10))))).put (some 19) (.int .i64 n)) := ⟨E, by rw [put_self q2, put_self q18, put_self q19]⟩
     refine stepR 6 _ _ _ [4] (by kernel_rfl) rfl ⟨?_, trivial⟩
     ·refine opR_op (d := (some 20)) rfl rfl rfl (st_bi (r := .int .i64 (Int.tmod n 10)) rfl rfl rfl (bi_rem (by decide) rfl) ?_)
      exact s5_17 _ rfl rfl rfl
    have s5_12 : ∀ (E : Env), E 2 = .string (⟨#[]⟩ : ByteArray) → E 17 = .int .i64 (w64 (Int.tdiv n 10)) → E 20 = .int .i64 (Int.tmod n 10) → Φ 7 [true, true, false, true, true, false, false, false, false, false, false] E [] := by
     intro E q2 q17 q20
     obtain ⟨E0, rfl⟩ : ∃ E0 : Env, E = (((E0.put (some 2) (.string (⟨#[]⟩ : ByteArray))).put (some 17) (.int .i64 (w64 (Int.tdiv n 10)))).put (some 20) (.int .i64 (Int.tmod n 10))) := ⟨E, by rw [put_self q2, put_self q17, put_self q20]⟩
     refine stepR 6 _ _ _ [2, 5] (by kernel_rfl) rfl ⟨?_, ?_, trivial⟩
     ·refine opR_op (d := (some 18)) rfl rfl rfl (st_cf (ih _ (dig_step h0 h63 hlt).1 (dig_step h0 h63 hlt).2.1 (dig_step h0 h63 hlt).2.2) Try.func103 rfl (by decide) rfl rfl rfl ?_)
      exact s5_17 _ rfl rfl rfl
     ·refine opR_op (d := (some 21)) rfl rfl rfl (st_bi (r := .int .i64 (w64 (48 + (Int.tmod n 10)))) rfl rfl rfl (bi_add rfl) ?_)
      exact s5_16 _ rfl rfl rfl
    have s5_11 : ∀ (E : Env), E 2 = .string (⟨#[]⟩ : ByteArray) → E 16 = .int .i64 n → E 21 = .int .i64 (w64 (48 + (Int.tmod n 10))) → Φ 7 [true, false, false, true, true, true, false, false, false, false, false] E [] := by
     intro E q2 q16 q21
     obtain ⟨E0, rfl⟩ : ∃ E0 : Env, E = (((E0.put (some 2) (.string (⟨#[]⟩ : ByteArray))).put (some 16) (.int .i64 n)).put (some 21) (.int .i64 (w64 (48 + (Int.tmod n 10))))) := ⟨E, by rw [put_self q2, put_self q16, put_self q21]⟩
     refine stepR 6 _ _ _ [1, 6] (by kernel_rfl) rfl ⟨?_, ?_, trivial⟩
     ·refine opR_op (d := (some 17)) rfl rfl rfl (st_bi (r := .int .i64 (w64 (Int.tdiv n 10))) rfl rfl rfl (bi_quo (by decide) rfl) ?_)
      exact s5_16 _ rfl rfl rfl
     ·refine opR_op (d := (some 22)) rfl rfl rfl (st_cv_int (k := .u8) (a := (w64 (48 + (Int.tmod n 10)))) (c := (IntKind.u8.wrap (w64 (48 + (Int.tmod n 10))))) Try.underlying5 Try.underlying3 rfl rfl rfl ?_)
      exact s5_15 _ rfl rfl rfl
    have s5_10 : ∀ (E : Env), E 0 = .int .i64 n → E 2 = .string (⟨#[]⟩ : ByteArray) → E 22 = .int .u8 (IntKind.u8.wrap (w64 (48 + (Int.tmod n 10)))) → Φ 7 [false, false, false, true, true, true, true, false, false, false, false] E [] := by
     intro E q0 q2 q22
     obtain ⟨E0, rfl⟩ : ∃ E0 : Env, E = (((E0.put (some 0) (.int .i64 n)).put (some 2) (.string (⟨#[]⟩ : ByteArray))).put (some 22) (.int .u8 (IntKind.u8.wrap (w64 (48 + (Int.tmod n 10)))))) := ⟨E, by rw [put_self q0, put_self q2, put_self q22]⟩
     refine stepR 6 _ _ _ [0, 7] (by kernel_rfl) rfl ⟨?_, ?_, trivial⟩
     ·refine opR_op (d := (some 16)) rfl rfl rfl (st_move (v := .int .i64 n) rfl rfl ?_)
      exact s5_15 _ rfl rfl rfl
     ·refine opR_op (d := (some 23)) rfl rfl rfl (st_bs (us := [(0, .int .u8 (IntKind.u8.wrap (w64 (48 + (Int.tmod n 10)))))]) (cs := [.int .u8 (IntKind.u8.wrap (w64 (48 + (Int.tmod n 10))))]) rfl rfl (bs141_1_0 _) fun b5_7 => ?_)
      exact s5_14 _ _ rfl rfl rfl
    have s5_9 : ∀ (E : Env), E 0 = .int .i64 n → E 2 = .string (⟨#[]⟩ : ByteArray) → E 18 = .string (digI k (w64 (Int.tdiv n 10))) → Φ 8 [true, true, true, false, false, false, false, false, false, false, false] E [] := by
     intro E q0 q2 q18
     obtain ⟨E0, rfl⟩ : ∃ E0 : Env, E = (((E0.put (some 0) (.int .i64 n)).put (some 2) (.string (⟨#[]⟩ : ByteArray))).put (some 18) (.string (digI k (w64 (Int.tdiv n 10))))) := ⟨E, by rw [put_self q0, put_self q2, put_self q18]⟩
     refine stepR 7 _ _ _ [3] (by kernel_rfl) rfl ⟨?_, trivial⟩
     ·refine opR_op (d := (some 19)) rfl rfl rfl (st_move (v := .int .i64 n) rfl rfl ?_)
      exact s5_13 _ rfl rfl rfl
    have s5_8 : ∀ (E : Env), E 2 = .string (⟨#[]⟩ : ByteArray) → E 17 = .int .i64 (w64 (Int.tdiv n 10)) → E 19 = .int .i64 n → Φ 8 [true, true, false, true, false, false, false, false, false, false, false] E [] := by
     intro E q2 q17 q19
     obtain ⟨E0, rfl⟩ : ∃ E0 : Env, E = (((E0.put (some 2) (.string (⟨#[]⟩ : ByteArray))).put (some 17) (.int .i64 (w64 (Int.tdiv n 10)))).put (some 19) (.int .i64 n)) := ⟨E, by rw [put_self q2, put_self q17, put_self q19]⟩
     refine stepR 7 _ _ _ [2, 4] (by kernel_rfl) rfl ⟨?_, ?_, trivial⟩
     ·refine opR_op (d := (some 18)) rfl rfl rfl (st_cf (ih _ (dig_step h0 h63 hlt).1 (dig_step h0 h63 hlt).2.1 (dig_step h0 h63 hlt).2.2) Try.func103 rfl (by decide) rfl rfl rfl ?_)
      exact s5_13 _ rfl rfl rfl
     ·refine opR_op (d := (some 20)) rfl rfl rfl (st_bi (r := .int .i64 (Int.tmod n 10)) rfl rfl rfl (bi_rem (by decide) rfl) ?_)
      exact s5_12 _ rfl rfl rfl
    have s5_7 : ∀ (E : Env), E 2 = .string (⟨#[]⟩ : ByteArray) → E 16 = .int .i64 n → E 20 = .int .i64 (Int.tmod n 10) → Φ 8 [true, false, false, true, true, false, false, false, false, false, false] E [] := by
     intro E q2 q16 q20
     obtain ⟨E0, rfl⟩ : ∃ E0 : Env, E = (((E0.put (some 2) (.string (⟨#[]⟩ : ByteArray))).put (some 16) (.int .i64 n)).put (some 20) (.int .i64 (Int.tmod n 10))) := ⟨E, by rw [put_self q2, put_self q16, put_self q20]⟩
     refine stepR 7 _ _ _ [1, 5] (by kernel_rfl) rfl ⟨?_, ?_, trivial⟩
     ·refine opR_op (d := (some 17)) rfl rfl rfl (st_bi (r := .int .i64 (w64 (Int.tdiv n 10))) rfl rfl rfl (bi_quo (by decide) rfl) ?_)
      exact s5_12 _ rfl rfl rfl
     ·refine opR_op (d := (some 21)) rfl rfl rfl (st_bi (r := .int .i64 (w64 (48 + (Int.tmod n 10)))) rfl rfl rfl (bi_add rfl) ?_)
      exact s5_11 _ rfl rfl rfl
    have s5_6 : ∀ (E : Env), E 0 = .int .i64 n → E 2 = .string (⟨#[]⟩ : ByteArray) → E 21 = .int .i64 (w64 (48 + (Int.tmod n 10))) → Φ 8 [false, false, false, true, true, true, false, false, false, false, false] E [] := by
     intro E q0 q2 q21
     obtain ⟨E0, rfl⟩ : ∃ E0 : Env, E = (((E0.put (some 0) (.int .i64 n)).put (some 2) (.string (⟨#[]⟩ : ByteArray))).put (some 21) (.int .i64 (w64 (48 + (Int.tmod n 10))))) := ⟨E, by rw [put_self q0, put_self q2, put_self q21]⟩
     refine stepR 7 _ _ _ [0, 6] (by kernel_rfl) rfl ⟨?_, ?_, trivial⟩
     ·refine opR_op (d := (some 16)) rfl rfl rfl (st_move (v := .int .i64 n) rfl rfl ?_)
      exact s5_11 _ rfl rfl rfl
     ·refine opR_op (d := (some 22)) rfl rfl rfl (st_cv_int (k := .u8) (a := (w64 (48 + (Int.tmod n 10)))) (c := (IntKind.u8.wrap (w64 (48 + (Int.tmod n 10))))) Try.underlying5 Try.underlying3 rfl rfl rfl ?_)
      exact s5_10 _ rfl rfl rfl
    have s5_5 : ∀ (E : Env), E 0 = .int .i64 n → E 2 = .string (⟨#[]⟩ : ByteArray) → E 17 = .int .i64 (w64 (Int.tdiv n 10)) → Φ 9 [true, true, false, false, false, false, false, false, false, false, false] E [] := by
     intro E q0 q2 q17
     obtain ⟨E0, rfl⟩ : ∃ E0 : Env, E = (((E0.put (some 0) (.int .i64 n)).put (some 2) (.string (⟨#[]⟩ : ByteArray))).put (some 17) (.int .i64 (w64 (Int.tdiv n 10)))) := ⟨E, by rw [put_self q0, put_self q2, put_self q17]⟩
     refine stepR 8 _ _ _ [2, 3] (by kernel_rfl) rfl ⟨?_, ?_, trivial⟩
     ·refine opR_op (d := (some 18)) rfl rfl rfl (st_cf (ih _ (dig_step h0 h63 hlt).1 (dig_step h0 h63 hlt).2.1 (dig_step h0 h63 hlt).2.2) Try.func103 rfl (by decide) rfl rfl rfl ?_)
      exact s5_9 _ rfl rfl rfl
     ·refine opR_op (d := (some 19)) rfl rfl rfl (st_move (v := .int .i64 n) rfl rfl ?_)
      exact s5_8 _ rfl rfl rfl
    have s5_4 : ∀ (E : Env), E 2 = .string (⟨#[]⟩ : ByteArray) → E 16 = .int .i64 n → E 19 = .int .i64 n → Φ 9 [true, false, false, true, false, false, false, false, false, false, false] E [] := by
     intro E q2 q16 q19
     obtain ⟨E0, rfl⟩ : ∃ E0 : Env, E = (((E0.put (some 2) (.string (⟨#[]⟩ : ByteArray))).put (some 16) (.int .i64 n)).put (some 19) (.int .i64 n)) := ⟨E, by rw [put_self q2, put_self q16, put_self q19]⟩
     refine stepR 8 _ _ _ [1, 4] (by kernel_rfl) rfl ⟨?_, ?_, trivial⟩
     ·refine opR_op (d := (some 17)) rfl rfl rfl (st_bi (r := .int .i64 (w64 (Int.tdiv n 10))) rfl rfl rfl (bi_quo (by decide) rfl) ?_)
      exact s5_8 _ rfl rfl rfl
     ·refine opR_op (d := (some 20)) rfl rfl rfl (st_bi (r := .int .i64 (Int.tmod n 10)) rfl rfl rfl (bi_rem (by decide) rfl) ?_)
      exact s5_7 _ rfl rfl rfl
    have s5_3 : ∀ (E : Env), E 0 = .int .i64 n → E 2 = .string (⟨#[]⟩ : ByteArray) → E 20 = .int .i64 (Int.tmod n 10) → Φ 9 [false, false, false, true, true, false, false, false, false, false, false] E [] := by
     intro E q0 q2 q20
     obtain ⟨E0, rfl⟩ : ∃ E0 : Env, E = (((E0.put (some 0) (.int .i64 n)).put (some 2) (.string (⟨#[]⟩ : ByteArray))).put (some 20) (.int .i64 (Int.tmod n 10))) := ⟨E, by rw [put_self q0, put_self q2, put_self q20]⟩
     refine stepR 8 _ _ _ [0, 5] (by kernel_rfl) rfl ⟨?_, ?_, trivial⟩
     ·refine opR_op (d := (some 16)) rfl rfl rfl (st_move (v := .int .i64 n) rfl rfl ?_)
      exact s5_7 _ rfl rfl rfl
     ·refine opR_op (d := (some 21)) rfl rfl rfl (st_bi (r := .int .i64 (w64 (48 + (Int.tmod n 10)))) rfl rfl rfl (bi_add rfl) ?_)
      exact s5_6 _ rfl rfl rfl
    have s5_2 : ∀ (E : Env), E 0 = .int .i64 n → E 2 = .string (⟨#[]⟩ : ByteArray) → E 16 = .int .i64 n → Φ 10 [true, false, false, false, false, false, false, false, false, false, false] E [] := by
     intro E q0 q2 q16
     obtain ⟨E0, rfl⟩ : ∃ E0 : Env, E = (((E0.put (some 0) (.int .i64 n)).put (some 2) (.string (⟨#[]⟩ : ByteArray))).put (some 16) (.int .i64 n)) := ⟨E, by rw [put_self q0, put_self q2, put_self q16]⟩
     refine stepR 9 _ _ _ [1, 3] (by kernel_rfl) rfl ⟨?_, ?_, trivial⟩
     ·refine opR_op (d := (some 17)) rfl rfl rfl (st_bi (r := .int .i64 (w64 (Int.tdiv n 10))) rfl rfl rfl (bi_quo (by decide) rfl) ?_)
      exact s5_5 _ rfl rfl rfl
     ·refine opR_op (d := (some 19)) rfl rfl rfl (st_move (v := .int .i64 n) rfl rfl ?_)
      exact s5_4 _ rfl rfl rfl
    have s5_1 : ∀ (E : Env), E 0 = .int .i64 n → E 2 = .string (⟨#[]⟩ : ByteArray) → E 19 = .int .i64 n → Φ 10 [false, false, false, true, false, false, false, false, false, false, false] E [] := by
     intro E q0 q2 q19
     obtain ⟨E0, rfl⟩ : ∃ E0 : Env, E = (((E0.put (some 0) (.int .i64 n)).put (some 2) (.string (⟨#[]⟩ : ByteArray))).put (some 19) (.int .i64 n)) := ⟨E, by rw [put_self q0, put_self q2, put_self q19]⟩
     refine stepR 9 _ _ _ [0, 4] (by kernel_rfl) rfl ⟨?_, ?_, trivial⟩
     ·refine opR_op (d := (some 16)) rfl rfl rfl (st_move (v := .int .i64 n) rfl rfl ?_)
      exact s5_4 _ rfl rfl rfl
     ·refine opR_op (d := (some 20)) rfl rfl rfl (st_bi (r := .int .i64 (Int.tmod n 10)) rfl rfl rfl (bi_rem (by decide) rfl) ?_)
      exact s5_3 _ rfl rfl rfl
    refine stepR 10 _ _ _ [0, 3] (by kernel_rfl) rfl ⟨?_, ?_, trivial⟩
    ·refine opR_op (d := (some 16)) rfl rfl rfl (st_move (v := .int .i64 n) rfl rfl ?_)
     exact s5_2 _ rfl rfl rfl
    ·refine opR_op (d := (some 19)) rfl rfl rfl (st_move (v := .int .i64 n) rfl rfl ?_)
     exact s5_1 _ rfl rfl rfl
   intro E b5_7 q2
   obtain ⟨E0, rfl⟩ : ∃ E0 : Env, E = (E0.put (some 2) (.string ((digI k (w64 (Int.tdiv n 10))) ++ (byteS (IntKind.u8.wrap (w64 (48 + (Int.tmod n 10)))))))) := ⟨E, by rw [put_self q2]⟩
   refine doneR _ _ _ (by kernel_rfl) (ac_ret (fin_eq (v := .string ((digI k (w64 (Int.tdiv n 10))) ++ (byteS (IntKind.u8.wrap (w64 (48 + (Int.tmod n 10))))))) (by rw [digI, h1]; rfl) (fin_ret (res_tmp rfl rfl))))
def dig (n : Int) : ByteArray := digI 18 n
theorem dig_ge1 (n : Int) : 1 ≤ (dig n).size := dig_pos 18 n
theorem dig_sz (n : Int) : (dig n).size ≤ 19 := dig_le 18 n
theorem c_digs (n : Int) (h0 : 0 ≤ n) (h63 : n ≤ 9223372036854775807) : Gets Try.prog 103 #[.int .i64 n] (.string (dig n)) := c_dig 18 (by decide) n h0 h63 (by rw [show (10 : Int) ^ (18 + 1) = 10000000000000000000 from by decide]; omega)
end Go.Proofs.Ythngkopcadlciaa
namespace Go.Proofs.Ythngkopcadlciaa
open Go.RowKit
attribute [local irreducible] dig rTen sEq
attribute [local irreducible] AC AR DWalk
def rPrintDec (d : Dec) : ByteArray := (bif rRightDec d then (bif decide ((w64 (Int.tdiv (max d.c (w64 (0 - d.c))) (rTen d.scale))) > 99999) then (⟨#[]⟩ : ByteArray) else (bif decide (d.c < 0) then (bif decide (d.scale > 0) then ((((⟨#[45]⟩ : ByteArray) ++ (dig (w64 (Int.tdiv (max d.c (w64 (0 - d.c))) (rTen d.scale))))) ++ (⟨#[46]⟩ : ByteArray)) ++ (((dig (w64 ((Int.tmod (max d.c (w64 (0 - d.c))) (rTen d.scale)) + (rTen d.scale))))).extract 1 ((dig (w64 ((Int.tmod (max d.c (w64 (0 - d.c))) (rTen d.scale)) + (rTen d.scale))))).size)) else ((⟨#[45]⟩ : ByteArray) ++ (dig (w64 (Int.tdiv (max d.c (w64 (0 - d.c))) (rTen d.scale)))))) else (bif decide (d.scale > 0) then (((dig (w64 (Int.tdiv (max d.c (w64 (0 - d.c))) (rTen d.scale)))) ++ (⟨#[46]⟩ : ByteArray)) ++ (((dig (w64 ((Int.tmod (max d.c (w64 (0 - d.c))) (rTen d.scale)) + (rTen d.scale))))).extract 1 ((dig (w64 ((Int.tmod (max d.c (w64 (0 - d.c))) (rTen d.scale)) + (rTen d.scale))))).size)) else (dig (w64 (Int.tdiv (max d.c (w64 (0 - d.c))) (rTen d.scale))))))) else (⟨#[]⟩ : ByteArray))
set_option maxRecDepth 100000 in
set_option maxHeartbeats 4000000 in
theorem c_rPrintDec (d : Dec) : Gets Try.prog 137 #[.agg #[.int .i64 d.c, .int .i64 d.scale]] ((fun (r : ByteArray) => (.string r : Value)) (rPrintDec d)) := by
 refine gets_fin Try.func137 rfl rfl rfl (aQ (aL (ao 1 rfl rfl (st_box (v := .agg #[.int .i64 d.c, .int .i64 d.scale]) (cs := [.int .i64 d.c, .int .i64 d.scale]) rfl rfl rfl fun g0 => (aA 2 (.string (⟨#[]⟩ : ByteArray)) rfl rfl (aN (aQ (aQ (aL (aG 7 [.int .i64 d.c, .int .i64 d.scale] agg83 0 rfl rfl rfl rfl rfl (aC 8 (c_rRightDec d) Try.func127 ⟨rfl, by decide⟩ rfl rfl (ao 9 rfl rfl (st_un (v := .bool (!(rRightDec d))) rfl rfl (un_not rfl) (aN ?_))))))))))))))
 refine bool_split (rRightDec d) (fun h1 => ?_) (fun h1 => ?_)
 ·refine ac_else' (b := !(rRightDec d)) (by rw [h1]; rfl) rfl (ac_skip (aQ (aL (aF 10 fa83_0 rfl rfl (aD 11 (.int .i64 d.c) cell3 0 rfl rfl rfl rfl (aF 12 fa83_0 rfl rfl (aD 13 (.int .i64 d.c) cell3 0 rfl rfl rfl rfl (ao 14 rfl rfl (st_un (v := .int .i64 (w64 (0 - d.c))) rfl rfl (un_neg rfl) (ao 15 rfl rfl (st_mx (x := d.c) (y := (w64 (0 - d.c))) (c := (max d.c (w64 (0 - d.c)))) rfl rfl rfl (aA 3 (.int .i64 (max d.c (w64 (0 - d.c)))) rfl rfl (aN (aQ (aL (aM 16 (.int .i64 (max d.c (w64 (0 - d.c)))) rfl rfl (aF 17 fa83_1 rfl rfl (aD 18 (.int .i64 d.scale) cell3 0 rfl rfl rfl rfl (aC 19 (c_rTen d.scale (ten_ok h1)) Try.func129 ⟨rfl, by decide⟩ rfl rfl ?_)))))))))))))))))))
  refine aB 20 (.int .i64 (w64 (Int.tdiv (max d.c (w64 (0 - d.c))) (rTen d.scale)))) rfl rfl rfl (bi_quo (ten_nz h1) rfl) (aA 4 (.int .i64 (w64 (Int.tdiv (max d.c (w64 (0 - d.c))) (rTen d.scale)))) rfl rfl (aN (aQ (aQ (aL (aM 21 (.int .i64 (w64 (Int.tdiv (max d.c (w64 (0 - d.c))) (rTen d.scale)))) rfl rfl (aB 22 (.bool (decide ((w64 (Int.tdiv (max d.c (w64 (0 - d.c))) (rTen d.scale))) > 99999))) rfl rfl rfl (bi_gtr rfl) (aN ?_))))))))
  refine bool_split (decide ((w64 (Int.tdiv (max d.c (w64 (0 - d.c))) (rTen d.scale))) > 99999)) (fun h2 => ?_) (fun h2 => ?_)
  ·refine ac_then' (b := decide ((w64 (Int.tdiv (max d.c (w64 (0 - d.c))) (rTen d.scale))) > 99999)) h2 rfl (aQ (aL (aA 2 (.string (⟨#[]⟩ : ByteArray)) rfl rfl (aN (ac_ret (fin_eq (v := .string (⟨#[]⟩ : ByteArray)) (by show _ = (fun (r : ByteArray) => (.string r : Value)) (rPrintDec d); rw [rPrintDec, h2, h1] <;> rfl) (fin_ret (res_tmp rfl rfl))))))))
  ·refine ac_else' (b := decide ((w64 (Int.tdiv (max d.c (w64 (0 - d.c))) (rTen d.scale))) > 99999)) h2 rfl (ac_skip (aQ (aL (aM 23 (.int .i64 (w64 (Int.tdiv (max d.c (w64 (0 - d.c))) (rTen d.scale)))) rfl rfl (aC 24 (c_digs (w64 (Int.tdiv (max d.c (w64 (0 - d.c))) (rTen d.scale))) (dig_ok1 h1).1 (dig_ok1 h1).2) Try.func103 ⟨rfl, by decide⟩ rfl rfl (aA 5 (.string (dig (w64 (Int.tdiv (max d.c (w64 (0 - d.c))) (rTen d.scale))))) rfl rfl (aN (aQ (aQ (aL (aF 25 fa83_0 rfl rfl (aD 26 (.int .i64 d.c) cell3 0 rfl rfl rfl rfl (aB 27 (.bool (decide (d.c < 0))) rfl rfl rfl (bi_lss rfl) (aN ?_))))))))))))))
   refine bool_split (decide (d.c < 0)) (fun h3 => ?_) (fun h3 => ?_)
   ·refine ac_then' (b := decide (d.c < 0)) h3 rfl (aL (aM 28 (.string (dig (w64 (Int.tdiv (max d.c (w64 (0 - d.c))) (rTen d.scale))))) rfl rfl (aB 29 (.string ((⟨#[45]⟩ : ByteArray) ++ (dig (w64 (Int.tdiv (max d.c (w64 (0 - d.c))) (rTen d.scale)))))) rfl rfl rfl (bi_sadd (sz_two (show ((⟨#[45]⟩ : ByteArray)).size ≤ 1 from Nat.le_refl _) (dig_sz _) (by decide))) (aA 5 (.string ((⟨#[45]⟩ : ByteArray) ++ (dig (w64 (Int.tdiv (max d.c (w64 (0 - d.c))) (rTen d.scale)))))) rfl rfl (aN (aQ (aQ (aL (aF 30 fa83_1 rfl rfl (aD 31 (.int .i64 d.scale) cell3 0 rfl rfl rfl rfl (aB 32 (.bool (decide (d.scale > 0))) rfl rfl rfl (bi_gtr rfl) (aN ?_))))))))))))
    refine bool_split (decide (d.scale > 0)) (fun h4 => ?_) (fun h4 => ?_)
    ·refine ac_then' (b := decide (d.scale > 0)) h4 rfl (aQ ?_)
     refine ac_draw0 (id := 11) [0, 1, 2, 3, 4, 5, 6, 7, 8, 9, 10] [] _ (by kernel_rfl) follows rfl  (dw_op (d := some 33) _ rfl rfl rfl (st_move (v := .int .i64 (max d.c (w64 (0 - d.c)))) rfl rfl ⟨rfl, rfl⟩) (dw_op (d := some 34) _ rfl rfl rfl (st_fa rfl fa83_1 rfl ⟨rfl, rfl⟩) (dw_op (d := some 35) _ rfl rfl rfl (st_ldc (v := .int .i64 d.scale) cell3 0 rfl rfl rfl rfl rfl ⟨rfl, rfl⟩) (dw_op (d := some 36) _ rfl rfl rfl (st_cf (c_rTen d.scale (ten_ok h1)) Try.func129 rfl (by decide) rfl rfl rfl ⟨rfl, rfl⟩) ?_))))
     refine dw_op (d := some 37) _ rfl rfl rfl (st_bi (r := .int .i64 (Int.tmod (max d.c (w64 (0 - d.c))) (rTen d.scale))) rfl rfl rfl (bi_rem (ten_nz h1) rfl) ⟨rfl, rfl⟩) (dw_op (d := some 38) _ rfl rfl rfl (st_fa rfl fa83_1 rfl ⟨rfl, rfl⟩) (dw_op (d := some 39) _ rfl rfl rfl (st_ldc (v := .int .i64 d.scale) cell3 0 rfl rfl rfl rfl rfl ⟨rfl, rfl⟩) (dw_op (d := some 40) _ rfl rfl rfl (st_cf (c_rTen d.scale (ten_ok h1)) Try.func129 rfl (by decide) rfl rfl rfl ⟨rfl, rfl⟩) (dw_op (d := some 41) _ rfl rfl rfl (st_bi (r := .int .i64 (w64 ((Int.tmod (max d.c (w64 (0 - d.c))) (rTen d.scale)) + (rTen d.scale)))) rfl rfl rfl (bi_add rfl) ⟨rfl, rfl⟩) ?_))))
     refine dw_op (d := some 42) _ rfl rfl rfl (st_cf (c_digs (w64 ((Int.tmod (max d.c (w64 (0 - d.c))) (rTen d.scale)) + (rTen d.scale))) (dig_ok2 h1).1 (dig_ok2 h1).2) Try.func103 rfl (by decide) rfl rfl rfl ⟨rfl, rfl⟩) (dw_op (d := some 6) _ rfl rfl rfl (st_assign (v := .string (dig (w64 ((Int.tmod (max d.c (w64 (0 - d.c))) (rTen d.scale)) + (rTen d.scale))))) rfl rfl ⟨rfl, rfl⟩) (dw_nil (aN (aL (aM 43 (.string ((⟨#[45]⟩ : ByteArray) ++ (dig (w64 (Int.tdiv (max d.c (w64 (0 - d.c))) (rTen d.scale)))))) rfl rfl ?_)))))
     refine aB 44 (.string (((⟨#[45]⟩ : ByteArray) ++ (dig (w64 (Int.tdiv (max d.c (w64 (0 - d.c))) (rTen d.scale))))) ++ (⟨#[46]⟩ : ByteArray))) rfl rfl rfl (bi_sadd (sz_two (sz_add (show ((⟨#[45]⟩ : ByteArray)).size ≤ 1 from Nat.le_refl _) (dig_sz _)) (show ((⟨#[46]⟩ : ByteArray)).size ≤ 1 from Nat.le_refl _) (by decide))) (aM 45 (.string (dig (w64 ((Int.tmod (max d.c (w64 (0 - d.c))) (rTen d.scale)) + (rTen d.scale))))) rfl rfl (ao 46 rfl rfl (st_sslo (s := (dig (w64 ((Int.tmod (max d.c (w64 (0 - d.c))) (rTen d.scale)) + (rTen d.scale))))) (i := 1) rfl Try.underlying9 rfl rfl (dig_ge1 _) ?_)))
     refine aB 47 (.string ((((⟨#[45]⟩ : ByteArray) ++ (dig (w64 (Int.tdiv (max d.c (w64 (0 - d.c))) (rTen d.scale))))) ++ (⟨#[46]⟩ : ByteArray)) ++ (((dig (w64 ((Int.tmod (max d.c (w64 (0 - d.c))) (rTen d.scale)) + (rTen d.scale))))).extract 1 ((dig (w64 ((Int.tmod (max d.c (w64 (0 - d.c))) (rTen d.scale)) + (rTen d.scale))))).size))) rfl rfl rfl (bi_sadd (sz_two (sz_add (sz_add (show ((⟨#[45]⟩ : ByteArray)).size ≤ 1 from Nat.le_refl _) (dig_sz _)) (show ((⟨#[46]⟩ : ByteArray)).size ≤ 1 from Nat.le_refl _)) (sz_ext _ _ (dig_sz _)) (by decide))) ?_
     refine aA 5 (.string ((((⟨#[45]⟩ : ByteArray) ++ (dig (w64 (Int.tdiv (max d.c (w64 (0 - d.c))) (rTen d.scale))))) ++ (⟨#[46]⟩ : ByteArray)) ++ (((dig (w64 ((Int.tmod (max d.c (w64 (0 - d.c))) (rTen d.scale)) + (rTen d.scale))))).extract 1 ((dig (w64 ((Int.tmod (max d.c (w64 (0 - d.c))) (rTen d.scale)) + (rTen d.scale))))).size))) rfl rfl (aN (aQ (aL ?_)))
     refine aM 48 (.string ((((⟨#[45]⟩ : ByteArray) ++ (dig (w64 (Int.tdiv (max d.c (w64 (0 - d.c))) (rTen d.scale))))) ++ (⟨#[46]⟩ : ByteArray)) ++ (((dig (w64 ((Int.tmod (max d.c (w64 (0 - d.c))) (rTen d.scale)) + (rTen d.scale))))).extract 1 ((dig (w64 ((Int.tmod (max d.c (w64 (0 - d.c))) (rTen d.scale)) + (rTen d.scale))))).size))) rfl rfl ?_
     refine aA 2 (.string ((((⟨#[45]⟩ : ByteArray) ++ (dig (w64 (Int.tdiv (max d.c (w64 (0 - d.c))) (rTen d.scale))))) ++ (⟨#[46]⟩ : ByteArray)) ++ (((dig (w64 ((Int.tmod (max d.c (w64 (0 - d.c))) (rTen d.scale)) + (rTen d.scale))))).extract 1 ((dig (w64 ((Int.tmod (max d.c (w64 (0 - d.c))) (rTen d.scale)) + (rTen d.scale))))).size))) rfl rfl (aN (ac_ret ?_))
     exact fin_eq (v := .string ((((⟨#[45]⟩ : ByteArray) ++ (dig (w64 (Int.tdiv (max d.c (w64 (0 - d.c))) (rTen d.scale))))) ++ (⟨#[46]⟩ : ByteArray)) ++ (((dig (w64 ((Int.tmod (max d.c (w64 (0 - d.c))) (rTen d.scale)) + (rTen d.scale))))).extract 1 ((dig (w64 ((Int.tmod (max d.c (w64 (0 - d.c))) (rTen d.scale)) + (rTen d.scale))))).size))) (by show _ = (fun (r : ByteArray) => (.string r : Value)) (rPrintDec d); rw [rPrintDec, h4, h3, h2, h1] <;> rfl) (fin_ret (res_tmp rfl rfl))
    ·refine ac_else' (b := decide (d.scale > 0)) h4 rfl (ac_skip (aQ (aL (aM 48 (.string ((⟨#[45]⟩ : ByteArray) ++ (dig (w64 (Int.tdiv (max d.c (w64 (0 - d.c))) (rTen d.scale)))))) rfl rfl (aA 2 (.string ((⟨#[45]⟩ : ByteArray) ++ (dig (w64 (Int.tdiv (max d.c (w64 (0 - d.c))) (rTen d.scale)))))) rfl rfl (aN (ac_ret (fin_eq (v := .string ((⟨#[45]⟩ : ByteArray) ++ (dig (w64 (Int.tdiv (max d.c (w64 (0 - d.c))) (rTen d.scale)))))) (by show _ = (fun (r : ByteArray) => (.string r : Value)) (rPrintDec d); rw [rPrintDec, h4, h3, h2, h1] <;> rfl) (fin_ret (res_tmp rfl rfl))))))))))
   ·refine ac_else' (b := decide (d.c < 0)) h3 rfl (ac_skip (aQ (aQ (aL (aF 30 fa83_1 rfl rfl (aD 31 (.int .i64 d.scale) cell3 0 rfl rfl rfl rfl (aB 32 (.bool (decide (d.scale > 0))) rfl rfl rfl (bi_gtr rfl) (aN ?_))))))))
    refine bool_split (decide (d.scale > 0)) (fun h4 => ?_) (fun h4 => ?_)
    ·refine ac_then' (b := decide (d.scale > 0)) h4 rfl (aQ ?_)
     refine ac_draw0 (id := 11) [0, 1, 2, 3, 4, 5, 6, 7, 8, 9, 10] [] _ (by kernel_rfl) follows rfl  (dw_op (d := some 33) _ rfl rfl rfl (st_move (v := .int .i64 (max d.c (w64 (0 - d.c)))) rfl rfl ⟨rfl, rfl⟩) (dw_op (d := some 34) _ rfl rfl rfl (st_fa rfl fa83_1 rfl ⟨rfl, rfl⟩) (dw_op (d := some 35) _ rfl rfl rfl (st_ldc (v := .int .i64 d.scale) cell3 0 rfl rfl rfl rfl rfl ⟨rfl, rfl⟩) (dw_op (d := some 36) _ rfl rfl rfl (st_cf (c_rTen d.scale (ten_ok h1)) Try.func129 rfl (by decide) rfl rfl rfl ⟨rfl, rfl⟩) ?_))))
     refine dw_op (d := some 37) _ rfl rfl rfl (st_bi (r := .int .i64 (Int.tmod (max d.c (w64 (0 - d.c))) (rTen d.scale))) rfl rfl rfl (bi_rem (ten_nz h1) rfl) ⟨rfl, rfl⟩) (dw_op (d := some 38) _ rfl rfl rfl (st_fa rfl fa83_1 rfl ⟨rfl, rfl⟩) (dw_op (d := some 39) _ rfl rfl rfl (st_ldc (v := .int .i64 d.scale) cell3 0 rfl rfl rfl rfl rfl ⟨rfl, rfl⟩) (dw_op (d := some 40) _ rfl rfl rfl (st_cf (c_rTen d.scale (ten_ok h1)) Try.func129 rfl (by decide) rfl rfl rfl ⟨rfl, rfl⟩) (dw_op (d := some 41) _ rfl rfl rfl (st_bi (r := .int .i64 (w64 ((Int.tmod (max d.c (w64 (0 - d.c))) (rTen d.scale)) + (rTen d.scale)))) rfl rfl rfl (bi_add rfl) ⟨rfl, rfl⟩) ?_))))
     refine dw_op (d := some 42) _ rfl rfl rfl (st_cf (c_digs (w64 ((Int.tmod (max d.c (w64 (0 - d.c))) (rTen d.scale)) + (rTen d.scale))) (dig_ok2 h1).1 (dig_ok2 h1).2) Try.func103 rfl (by decide) rfl rfl rfl ⟨rfl, rfl⟩) (dw_op (d := some 6) _ rfl rfl rfl (st_assign (v := .string (dig (w64 ((Int.tmod (max d.c (w64 (0 - d.c))) (rTen d.scale)) + (rTen d.scale))))) rfl rfl ⟨rfl, rfl⟩) (dw_nil (aN (aL (aM 43 (.string (dig (w64 (Int.tdiv (max d.c (w64 (0 - d.c))) (rTen d.scale))))) rfl rfl ?_)))))
     refine aB 44 (.string ((dig (w64 (Int.tdiv (max d.c (w64 (0 - d.c))) (rTen d.scale)))) ++ (⟨#[46]⟩ : ByteArray))) rfl rfl rfl (bi_sadd (sz_two (dig_sz _) (show ((⟨#[46]⟩ : ByteArray)).size ≤ 1 from Nat.le_refl _) (by decide))) (aM 45 (.string (dig (w64 ((Int.tmod (max d.c (w64 (0 - d.c))) (rTen d.scale)) + (rTen d.scale))))) rfl rfl (ao 46 rfl rfl (st_sslo (s := (dig (w64 ((Int.tmod (max d.c (w64 (0 - d.c))) (rTen d.scale)) + (rTen d.scale))))) (i := 1) rfl Try.underlying9 rfl rfl (dig_ge1 _) ?_)))
     refine aB 47 (.string (((dig (w64 (Int.tdiv (max d.c (w64 (0 - d.c))) (rTen d.scale)))) ++ (⟨#[46]⟩ : ByteArray)) ++ (((dig (w64 ((Int.tmod (max d.c (w64 (0 - d.c))) (rTen d.scale)) + (rTen d.scale))))).extract 1 ((dig (w64 ((Int.tmod (max d.c (w64 (0 - d.c))) (rTen d.scale)) + (rTen d.scale))))).size))) rfl rfl rfl (bi_sadd (sz_two (sz_add (dig_sz _) (show ((⟨#[46]⟩ : ByteArray)).size ≤ 1 from Nat.le_refl _)) (sz_ext _ _ (dig_sz _)) (by decide))) ?_
     refine aA 5 (.string (((dig (w64 (Int.tdiv (max d.c (w64 (0 - d.c))) (rTen d.scale)))) ++ (⟨#[46]⟩ : ByteArray)) ++ (((dig (w64 ((Int.tmod (max d.c (w64 (0 - d.c))) (rTen d.scale)) + (rTen d.scale))))).extract 1 ((dig (w64 ((Int.tmod (max d.c (w64 (0 - d.c))) (rTen d.scale)) + (rTen d.scale))))).size))) rfl rfl (aN (aQ (aL (aM 48 (.string (((dig (w64 (Int.tdiv (max d.c (w64 (0 - d.c))) (rTen d.scale)))) ++ (⟨#[46]⟩ : ByteArray)) ++ (((dig (w64 ((Int.tmod (max d.c (w64 (0 - d.c))) (rTen d.scale)) + (rTen d.scale))))).extract 1 ((dig (w64 ((Int.tmod (max d.c (w64 (0 - d.c))) (rTen d.scale)) + (rTen d.scale))))).size))) rfl rfl ?_))))
     refine aA 2 (.string (((dig (w64 (Int.tdiv (max d.c (w64 (0 - d.c))) (rTen d.scale)))) ++ (⟨#[46]⟩ : ByteArray)) ++ (((dig (w64 ((Int.tmod (max d.c (w64 (0 - d.c))) (rTen d.scale)) + (rTen d.scale))))).extract 1 ((dig (w64 ((Int.tmod (max d.c (w64 (0 - d.c))) (rTen d.scale)) + (rTen d.scale))))).size))) rfl rfl (aN (ac_ret ?_))
     exact fin_eq (v := .string (((dig (w64 (Int.tdiv (max d.c (w64 (0 - d.c))) (rTen d.scale)))) ++ (⟨#[46]⟩ : ByteArray)) ++ (((dig (w64 ((Int.tmod (max d.c (w64 (0 - d.c))) (rTen d.scale)) + (rTen d.scale))))).extract 1 ((dig (w64 ((Int.tmod (max d.c (w64 (0 - d.c))) (rTen d.scale)) + (rTen d.scale))))).size))) (by show _ = (fun (r : ByteArray) => (.string r : Value)) (rPrintDec d); rw [rPrintDec, h4, h3, h2, h1] <;> rfl) (fin_ret (res_tmp rfl rfl))
    ·refine ac_else' (b := decide (d.scale > 0)) h4 rfl (ac_skip (aQ (aL (aM 48 (.string (dig (w64 (Int.tdiv (max d.c (w64 (0 - d.c))) (rTen d.scale))))) rfl rfl (aA 2 (.string (dig (w64 (Int.tdiv (max d.c (w64 (0 - d.c))) (rTen d.scale))))) rfl rfl (aN (ac_ret (fin_eq (v := .string (dig (w64 (Int.tdiv (max d.c (w64 (0 - d.c))) (rTen d.scale))))) (by show _ = (fun (r : ByteArray) => (.string r : Value)) (rPrintDec d); rw [rPrintDec, h4, h3, h2, h1] <;> rfl) (fin_ret (res_tmp rfl rfl))))))))))
 ·refine ac_then' (b := !(rRightDec d)) (by rw [h1]; rfl) rfl (aQ (aL (aA 2 (.string (⟨#[]⟩ : ByteArray)) rfl rfl (aN (ac_ret (fin_eq (v := .string (⟨#[]⟩ : ByteArray)) (by show _ = (fun (r : ByteArray) => (.string r : Value)) (rPrintDec d); rw [rPrintDec, h1] <;> rfl) (fin_ret (res_tmp rfl rfl))))))))
def rPrintable (d : Dec) : Bool := !(sEq (rPrintDec d) (⟨#[]⟩ : ByteArray))
set_option maxRecDepth 100000 in
theorem c_rPrintable (d : Dec) : Gets Try.prog 124 #[.agg #[.int .i64 d.c, .int .i64 d.scale]] ((fun (r : Bool) => (.bool r : Value)) (rPrintable d)) := by
 refine gets_fin Try.func124 rfl rfl rfl (aQ (aL (ao 1 rfl rfl (st_box (v := .agg #[.int .i64 d.c, .int .i64 d.scale]) (cs := [.int .i64 d.c, .int .i64 d.scale]) rfl rfl rfl fun g0 => (aA 2 (.bool false) rfl rfl (aN (aQ (aL (aG 3 [.int .i64 d.c, .int .i64 d.scale] agg83 0 rfl rfl rfl rfl rfl (aC 4 (c_rPrintDec d) Try.func137 ⟨rfl, by decide⟩ rfl rfl (aB 5 (.bool (!(sEq (rPrintDec d) (⟨#[]⟩ : ByteArray)))) rfl rfl rfl (bi_sneq rfl) (aA 2 (.bool (!(sEq (rPrintDec d) (⟨#[]⟩ : ByteArray)))) rfl rfl (aN (ac_ret (fin_eq (v := .bool (!(sEq (rPrintDec d) (⟨#[]⟩ : ByteArray)))) rfl (fin_ret (res_tmp rfl rfl)))))))))))))))))
end Go.Proofs.Ythngkopcadlciaa
