import Derived.Test.YthngkopcadlciaaMNormalLess14
import Derived.Test.YthngkopcadlciaaMNormalLess9
import Derived.Test.YthngkopcadlciaaMNormalLess13
set_option linter.unusedVariables false
set_option linter.unusedSimpArgs false
namespace Go.Proofs.Ythngkopcadlciaa
open Go.RowKit
attribute [local irreducible] AC AR DWalk
set_option maxRecDepth 100000 in
set_option maxHeartbeats 8000000 in
theorem build_round (g11 g10 g9 g8 g6 g5 g3 gF g M cF cap m ca : Nat) (nm : ByteArray) (bk : Dec) (at_ ix op wave : Iv) (ra rg rest : List Value) (x0 x1 : Glass) (hrg : rg = x0.cells ++ x1.cells ++ rest) (aa : Option Addr) (NA : List Box) (k : Nat) (f : Face) {xs : List Value} {Q : Exit → Env → List Box → Prop} {E : Env} {c : Code} {j : Nat} (hc : Try.f77.body.bind loopOf = some c) (hkM : k < M) (hm : m ≤ 5) (hs : (ra.drop (0 + k * 14)).take 14 = f.cells) (hR : Row 41 23 m xs (.slice aa m ca) NA) (q1 : E 1 = .slice (some ⟨g, 0, none⟩) 2 cap) (q3 : E 3 = .pointer (some ⟨g3, 0, none⟩)) (q5 : E 5 = .pointer (some ⟨g5, 0, none⟩)) (q6 : E 6 = .pointer (some ⟨g6, 0, none⟩)) (q7 : E 7 = .int .i64 0) (q8 : E 8 = .pointer (some ⟨g8, 0, none⟩)) (q9 : E 9 = .pointer (some ⟨g9, 0, none⟩)) (q10 : E 10 = .pointer (some ⟨g10, 0, none⟩)) (q11 : E 11 = .pointer (some ⟨g11, 0, none⟩)) (q12 : E 12 = .int .i64 (k : Int))
  (Knext : ∀ (y : Surf) (at' ix' : Iv), (CurveOk y.curve f.radius ∧ y.a4 = rDecIv f.a4 ∧ y.a6 = rDecIv f.a6) → ∀ (E' : Env) (ca' : Nat) (aa' : Option Addr) (NA' : List Box), Row 41 23 (m + 1) (xs ++ surfC y) (.slice aa' (m + 1) ca') NA' → E' 1 = .slice (some ⟨g, 0, none⟩) 2 cap → E' 3 = .pointer (some ⟨g3, 0, none⟩) → E' 5 = .pointer (some ⟨g5, 0, none⟩) → E' 6 = .pointer (some ⟨g6, 0, none⟩) → E' 7 = .int .i64 0 → E' 8 = .pointer (some ⟨g8, 0, none⟩) → E' 9 = .pointer (some ⟨g9, 0, none⟩) → E' 10 = .pointer (some ⟨g10, 0, none⟩) → E' 11 = .pointer (some ⟨g11, 0, none⟩) → E' 12 = .int .i64 (w64 ((k : Int) + 1)) → ARounds Try.prog 126 c Q j E' ([⟨g11, [.int .i64 ix'.lo, .int .i64 ix'.hi, .bool ix'.no], 26, false⟩, ⟨g10, [.int .i64 at'.lo, .int .i64 at'.hi, .bool at'.no], 26, false⟩, ⟨g9, [.slice aa' (m + 1) ca', .int .i64 op.lo, .int .i64 op.hi, .bool op.no], 48, false⟩, ⟨g8, [.int .i64 ((rPoint 65536).lo), .int .i64 ((rPoint 65536).hi), .bool ((rPoint 65536).no)], 26, false⟩, ⟨g6, [.slice none 0 0, .int .i64 0, .int .i64 0, .bool false], 48, false⟩, ⟨g5, [.int .i64 wave.lo, .int .i64 wave.hi, .bool wave.no], 26, false⟩, ⟨g3, [.string nm, .int .i64 bk.c, .int .i64 bk.scale, .slice (some ⟨gF, 0, none⟩) M cF], 108, false⟩, ⟨gF, ra, 127, true⟩, ⟨g, rg, 122, true⟩] ++ NA')) :
  ARounds Try.prog 126 c Q (j + 1) E ([⟨g11, [.int .i64 ix.lo, .int .i64 ix.hi, .bool ix.no], 26, false⟩, ⟨g10, [.int .i64 at_.lo, .int .i64 at_.hi, .bool at_.no], 26, false⟩, ⟨g9, [.slice aa m ca, .int .i64 op.lo, .int .i64 op.hi, .bool op.no], 48, false⟩, ⟨g8, [.int .i64 ((rPoint 65536).lo), .int .i64 ((rPoint 65536).hi), .bool ((rPoint 65536).no)], 26, false⟩, ⟨g6, [.slice none 0 0, .int .i64 0, .int .i64 0, .bool false], 48, false⟩, ⟨g5, [.int .i64 wave.lo, .int .i64 wave.hi, .bool wave.no], 26, false⟩, ⟨g3, [.string nm, .int .i64 bk.c, .int .i64 bk.scale, .slice (some ⟨gF, 0, none⟩) M cF], 108, false⟩, ⟨gF, ra, 127, true⟩, ⟨g, rg, 122, true⟩] ++ NA) := by
 rw [show Try.f77.body.bind loopOf = some _ from rfl] at hc
 cases hc
 obtain ⟨E0, rfl⟩ : ∃ E0 : Env, E = ((((((((((E0.put (some 1) (.slice (some ⟨g, 0, none⟩) 2 cap)).put (some 3) (.pointer (some ⟨g3, 0, none⟩))).put (some 5) (.pointer (some ⟨g5, 0, none⟩))).put (some 6) (.pointer (some ⟨g6, 0, none⟩))).put (some 7) (.int .i64 0)).put (some 8) (.pointer (some ⟨g8, 0, none⟩))).put (some 9) (.pointer (some ⟨g9, 0, none⟩))).put (some 10) (.pointer (some ⟨g10, 0, none⟩))).put (some 11) (.pointer (some ⟨g11, 0, none⟩))).put (some 12) (.int .i64 (k : Int))) := ⟨E, by rw [put_self q1, put_self q3, put_self q5, put_self q6, put_self q7, put_self q8, put_self q9, put_self q10, put_self q11, put_self q12]⟩
 refine ar_round (aQ (aQ (aL (aM 35 (.int .i64 (k : Int)) rfl rfl (aF 36 fa108_2 rfl rfl (aD 37 (.slice (some ⟨gF, 0, none⟩) M cF) cell106 6 rfl rfl rfl rfl (ao 38 rfl rfl (st_ln (a := some ⟨gF, 0, none⟩) (m := M) (c := cF) rfl Try.underlying106 rfl (aB 39 (.bool (decide ((k : Int) < (M : Int)))) rfl rfl rfl (bi_lss rfl) (aN (ac_then' (b := decide ((k : Int) < (M : Int))) (decide_eq_true (show ((k : Int) < (M : Int)) by omega)) rfl (ac_skip (aQ (ac_block (aQ (aL (aF 42 fa108_2 rfl rfl (aD 43 (.slice (some ⟨gF, 0, none⟩) M cF) cell106 6 rfl rfl rfl rfl (aM 44 (.int .i64 (k : Int)) rfl rfl ?_)))))))))))))))))))
 refine ao 45 rfl rfl (st_sa (g := gF) (off := 0) (m := M) (c := cF) (s := 14) (i := k) rfl Try.underlying106 (by kernel_rfl) rfl rfl hkM (aG 46 [.bool f.stop, .int .i64 f.radius.c, .int .i64 f.radius.scale, .int .i64 f.aperture.c, .int .i64 f.aperture.scale, .int .i64 f.thick.c, .int .i64 f.thick.scale, .int .i64 f.conic.c, .int .i64 f.conic.scale, .int .i64 f.a4.c, .int .i64 f.a4.scale, .int .i64 f.a6.c, .int .i64 f.a6.scale, .string f.glass] agg127 7 rfl rfl rfl rfl hs (ao 13 rfl rfl (st_new zero127 rfl fun g0 => ?_))))
 refine aS [.bool f.stop, .int .i64 f.radius.c, .int .i64 f.radius.scale, .int .i64 f.aperture.c, .int .i64 f.aperture.scale, .int .i64 f.thick.c, .int .i64 f.thick.scale, .int .i64 f.conic.c, .int .i64 f.conic.scale, .int .i64 f.a4.c, .int .i64 f.a4.scale, .int .i64 f.a6.c, .int .i64 f.a6.scale, .string f.glass] agg127 0 rfl rfl rfl rfl rfl rfl (aN (aQ ?_))
 refine ac_draw1 (id := 11) [0, 1, 2, 3, 4, 5, 6, 7, 8, 9, 10, 11, 12, 13, 14, 15, 16, 17, 18, 19, 20, 21, 22, 23, 24, 25, 26, 27, 28, 29, 30] [32] 31 14 41 _ _ (by kernel_rfl) follows rfl zero41 ⟨_, rfl, rfl, rfl, rfl⟩ (dw_op (d := some 47) _ rfl rfl rfl (st_fa rfl fa127_0 rfl ⟨rfl, rfl⟩) (dw_op (d := some 48) _ rfl rfl rfl (st_ldc (v := .bool f.stop) cell4 0 rfl rfl rfl rfl rfl ⟨rfl, rfl⟩) (dw_op (d := some 49) _ rfl rfl rfl (st_fa rfl fa127_5 rfl ⟨rfl, rfl⟩) (dw_op (d := some 50) _ rfl rfl rfl (st_lda (vs := [.int .i64 f.a4.c, .int .i64 f.a4.scale]) agg83 0 rfl rfl rfl rfl rfl rfl ⟨rfl, rfl⟩) ?_))))
 refine dw_op (d := some 51) _ rfl rfl rfl (st_cf (c_rZero f.a4) Try.func107 rfl (by decide) rfl rfl rfl ⟨rfl, rfl⟩) (dw_op (d := some 52) _ rfl rfl rfl (st_un (v := .bool (!(rZero f.a4))) rfl rfl (un_not rfl) ⟨rfl, rfl⟩) (dw_op (d := some 53) _ rfl rfl rfl (st_move (v := .bool (!(rZero f.a4))) rfl rfl ⟨rfl, rfl⟩) ?_))
 refine bool_split (rZero f.a4) (fun h1 => ?_) (fun h1 => ?_)
 ·refine dw_gd (d := (some 54)) (.pointer (some ⟨g0, 11, none⟩)) rfl (by show ((!(rZero f.a4)) == false) = true; rw [h1]; rfl) rfl (st_fa rfl fa127_6 rfl ⟨rfl, rfl⟩) (dw_gd (d := (some 55)) (.agg #[.int .i64 f.a6.c, .int .i64 f.a6.scale]) rfl (by show ((!(rZero f.a4)) == false) = true; rw [h1]; rfl) rfl (st_lda (vs := [.int .i64 f.a6.c, .int .i64 f.a6.scale]) agg83 0 rfl rfl rfl rfl rfl rfl ⟨rfl, rfl⟩) (dw_gd (d := (some 56)) (.bool (rZero f.a6)) rfl (by show ((!(rZero f.a4)) == false) = true; rw [h1]; rfl) rfl (st_cf (c_rZero f.a6) Try.func107 rfl (by decide) rfl rfl rfl ⟨rfl, rfl⟩) ?_))
  refine dw_gd (d := (some 57)) (.bool (!(rZero f.a6))) rfl (by show ((!(rZero f.a4)) == false) = true; rw [h1]; rfl) rfl (st_un (v := .bool (!(rZero f.a6))) rfl rfl (un_not rfl) ⟨rfl, rfl⟩) (dw_op (d := some 58) _ rfl rfl rfl (st_pkf' (b := !(rZero f.a4)) (v := .bool (!(rZero f.a6))) (by rw [h1]; rfl) rfl rfl rfl ⟨rfl, rfl⟩) (dw_op (d := some 59) _ rfl rfl rfl (st_cf (c_rPoint 0) Try.func80 rfl (by decide) rfl rfl rfl ⟨rfl, rfl⟩) (dw_op (d := some 60) _ rfl rfl rfl (st_lda (vs := [.int .i64 ((rPoint 65536).lo), .int .i64 ((rPoint 65536).hi), .bool ((rPoint 65536).no)]) agg26 4 rfl rfl rfl rfl rfl rfl ⟨rfl, rfl⟩) ?_)))
  refine dw_op (d := some 61) _ rfl rfl rfl (st_fa rfl fa127_4 rfl ⟨rfl, rfl⟩) (dw_op (d := some 62) _ rfl rfl rfl (st_lda (vs := [.int .i64 f.conic.c, .int .i64 f.conic.scale]) agg83 0 rfl rfl rfl rfl rfl rfl ⟨rfl, rfl⟩) (dw_op (d := some 63) _ rfl rfl rfl (st_cf (c_rDecIv f.conic) Try.func106 rfl (by decide) rfl rfl rfl ⟨rfl, rfl⟩) (dw_op (d := some 64) _ rfl rfl rfl (st_cf (c_rAdd (rPoint 65536) (rDecIv f.conic)) Try.func86 rfl (by decide) rfl rfl rfl ⟨rfl, rfl⟩) (dw_op (d := some 65) _ rfl rfl rfl (st_fa rfl fa127_5 rfl ⟨rfl, rfl⟩) (dw_op (d := some 66) _ rfl rfl rfl (st_lda (vs := [.int .i64 f.a4.c, .int .i64 f.a4.scale]) agg83 0 rfl rfl rfl rfl rfl rfl ⟨rfl, rfl⟩) ?_)))))
  refine dw_op (d := some 67) _ rfl rfl rfl (st_cf (c_rDecIv f.a4) Try.func106 rfl (by decide) rfl rfl rfl ⟨rfl, rfl⟩) (dw_op (d := some 68) _ rfl rfl rfl (st_fa rfl fa127_6 rfl ⟨rfl, rfl⟩) (dw_op (d := some 69) _ rfl rfl rfl (st_lda (vs := [.int .i64 f.a6.c, .int .i64 f.a6.scale]) agg83 0 rfl rfl rfl rfl rfl rfl ⟨rfl, rfl⟩) (dw_op (d := some 70) _ rfl rfl rfl (st_cf (c_rDecIv f.a6) Try.func106 rfl (by decide) rfl rfl rfl ⟨rfl, rfl⟩) (dw_op (d := some 71) _ rfl rfl rfl (st_lda (vs := [.int .i64 at_.lo, .int .i64 at_.hi, .bool at_.no]) agg26 2 rfl rfl rfl rfl rfl rfl ⟨rfl, rfl⟩) (dw_op (d := some 72) _ rfl rfl rfl (st_fa rfl fa127_2 rfl ⟨rfl, rfl⟩) ?_)))))
  refine dw_op (d := some 73) _ rfl rfl rfl (st_lda (vs := [.int .i64 f.aperture.c, .int .i64 f.aperture.scale]) agg83 0 rfl rfl rfl rfl rfl rfl ⟨rfl, rfl⟩) (dw_op (d := some 74) _ rfl rfl rfl (st_cf (c_rDecIv f.aperture) Try.func106 rfl (by decide) rfl rfl rfl ⟨rfl, rfl⟩) (dw_op (d := some 75) _ rfl rfl rfl (st_cf (c_rSqr (rDecIv f.aperture)) Try.func84 rfl (by decide) rfl rfl rfl ⟨rfl, rfl⟩) (dw_op (d := some 76) _ rfl rfl rfl (st_lda (vs := [.int .i64 ((rPoint 65536).lo), .int .i64 ((rPoint 65536).hi), .bool ((rPoint 65536).no)]) agg26 4 rfl rfl rfl rfl rfl rfl ⟨rfl, rfl⟩) ?_)))
  refine dw_op (d := some 77) _ rfl rfl rfl (st_bd (us := [(0, .bool f.stop), (1, .bool (!(rZero f.a6))), (2, .agg #[.int .i64 ((rPoint 0).lo), .int .i64 ((rPoint 0).hi), .bool ((rPoint 0).no)]), (3, .agg #[.int .i64 ((rAdd (rPoint 65536) (rDecIv f.conic)).lo), .int .i64 ((rAdd (rPoint 65536) (rDecIv f.conic)).hi), .bool ((rAdd (rPoint 65536) (rDecIv f.conic)).no)]), (4, .agg #[.int .i64 ((rDecIv f.a4).lo), .int .i64 ((rDecIv f.a4).hi), .bool ((rDecIv f.a4).no)]), (5, .agg #[.int .i64 ((rDecIv f.a6).lo), .int .i64 ((rDecIv f.a6).hi), .bool ((rDecIv f.a6).no)]), (6, .agg #[.int .i64 at_.lo, .int .i64 at_.hi, .bool at_.no]), (7, .agg #[.int .i64 ((rSqr (rDecIv f.aperture)).lo), .int .i64 ((rSqr (rDecIv f.aperture)).hi), .bool ((rSqr (rDecIv f.aperture)).no)]), (8, .agg #[.int .i64 ((rPoint 65536).lo), .int .i64 ((rPoint 65536).hi), .bool ((rPoint 65536).no)])]) (v := .agg #[.bool f.stop, .bool (!(rZero f.a6)), .int .i64 ((rPoint 0).lo), .int .i64 ((rPoint 0).hi), .bool ((rPoint 0).no), .int .i64 ((rAdd (rPoint 65536) (rDecIv f.conic)).lo), .int .i64 ((rAdd (rPoint 65536) (rDecIv f.conic)).hi), .bool ((rAdd (rPoint 65536) (rDecIv f.conic)).no), .int .i64 ((rDecIv f.a4).lo), .int .i64 ((rDecIv f.a4).hi), .bool ((rDecIv f.a4).no), .int .i64 ((rDecIv f.a6).lo), .int .i64 ((rDecIv f.a6).hi), .bool ((rDecIv f.a6).no), .int .i64 at_.lo, .int .i64 at_.hi, .bool at_.no, .int .i64 ((rSqr (rDecIv f.aperture)).lo), .int .i64 ((rSqr (rDecIv f.aperture)).hi), .bool ((rSqr (rDecIv f.aperture)).no), .int .i64 ((rPoint 65536).lo), .int .i64 ((rPoint 65536).hi), .bool ((rPoint 65536).no)]) rfl rfl (bd41_0_1_2a_3a_4a_5a_6a_7a_8a _ _ _ _ _ _ _ _ _ _ _ _ _ _ _ _ _ _ _ _ _ _ _) ⟨rfl, rfl⟩) ?_
  refine dw_nil ?_
  intro g1
  refine aS [.bool f.stop, .bool (!(rZero f.a6)), .int .i64 ((rPoint 0).lo), .int .i64 ((rPoint 0).hi), .bool ((rPoint 0).no), .int .i64 ((rAdd (rPoint 65536) (rDecIv f.conic)).lo), .int .i64 ((rAdd (rPoint 65536) (rDecIv f.conic)).hi), .bool ((rAdd (rPoint 65536) (rDecIv f.conic)).no), .int .i64 ((rDecIv f.a4).lo), .int .i64 ((rDecIv f.a4).hi), .bool ((rDecIv f.a4).no), .int .i64 ((rDecIv f.a6).lo), .int .i64 ((rDecIv f.a6).hi), .bool ((rDecIv f.a6).no), .int .i64 at_.lo, .int .i64 at_.hi, .bool at_.no, .int .i64 ((rSqr (rDecIv f.aperture)).lo), .int .i64 ((rSqr (rDecIv f.aperture)).hi), .bool ((rSqr (rDecIv f.aperture)).no), .int .i64 ((rPoint 65536).lo), .int .i64 ((rPoint 65536).hi), .bool ((rPoint 65536).no)] agg41 0 rfl rfl rfl rfl rfl rfl ?_
  refine aN (aQ (aQ (aL (aF 78 fa127_1 rfl rfl (aF 79 fa83_0 rfl rfl (aD 80 (.int .i64 f.radius.c) cell3 1 rfl rfl rfl rfl (aB 81 (.bool (f.radius.c != 0)) rfl rfl rfl (bi_neq rfl) (aN ?_))))))))
  refine build_curve g11 g10 g9 g8 g6 g5 g3 gF g M cF cap m ca nm bk at_ ix op wave ra rg rest x0 x1 hrg aa NA g0 g1 k f (⟨f.stop, !(rZero f.a6), (rPoint 0), (rAdd (rPoint 65536) (rDecIv f.conic)), (rDecIv f.a4), (rDecIv f.a6), at_, (rSqr (rDecIv f.aperture)), (rPoint 65536)⟩ : Surf) rfl rfl rfl rfl rfl rfl rfl rfl rfl rfl rfl rfl rfl rfl (fun T1 y1 i1 e1 E1 f1_1 f1_3 f1_5 f1_6 f1_7 f1_8 f1_9 f1_10 f1_11 f1_12 f1_13 f1_14 => ?_)
  refine ac_drop (List.sublist_append_right T1 _) ?_
  obtain ⟨E0, rfl⟩ : ∃ E0 : Env, E1 = ((((((((((((E0.put (some 1) (.slice (some ⟨g, 0, none⟩) 2 cap)).put (some 3) (.pointer (some ⟨g3, 0, none⟩))).put (some 5) (.pointer (some ⟨g5, 0, none⟩))).put (some 6) (.pointer (some ⟨g6, 0, none⟩))).put (some 7) (.int .i64 0)).put (some 8) (.pointer (some ⟨g8, 0, none⟩))).put (some 9) (.pointer (some ⟨g9, 0, none⟩))).put (some 10) (.pointer (some ⟨g10, 0, none⟩))).put (some 11) (.pointer (some ⟨g11, 0, none⟩))).put (some 12) (.int .i64 (k : Int))).put (some 13) (.pointer (some ⟨g0, 0, none⟩))).put (some 14) (.pointer (some ⟨g1, 0, none⟩))) := ⟨E1, by rw [put_self f1_1, put_self f1_3, put_self f1_5, put_self f1_6, put_self f1_7, put_self f1_8, put_self f1_9, put_self f1_10, put_self f1_11, put_self f1_12, put_self f1_13, put_self f1_14]⟩
  refine aQ (aQ (aL (aF 88 fa127_0 rfl rfl (aD 89 (.bool f.stop) cell4 1 rfl rfl rfl rfl (ao 90 rfl rfl (st_un (v := .bool (!f.stop)) rfl rfl (un_not rfl) (aN ?_)))))))
  refine build_ratio g11 g10 g9 g8 g6 g5 g3 gF g M cF cap m ca nm bk at_ i1 op wave ra rg rest x0 x1 hrg aa NA g0 g1 k f y1 rfl rfl rfl rfl rfl rfl rfl rfl rfl rfl rfl rfl rfl rfl (fun T2 y2 i2 e2 E2 f2_1 f2_3 f2_5 f2_6 f2_7 f2_8 f2_9 f2_10 f2_11 f2_12 f2_13 f2_14 => ?_)
  refine ac_drop (List.sublist_append_right T2 _) ?_
  obtain ⟨E0, rfl⟩ : ∃ E0 : Env, E2 = ((((((((((((E0.put (some 1) (.slice (some ⟨g, 0, none⟩) 2 cap)).put (some 3) (.pointer (some ⟨g3, 0, none⟩))).put (some 5) (.pointer (some ⟨g5, 0, none⟩))).put (some 6) (.pointer (some ⟨g6, 0, none⟩))).put (some 7) (.int .i64 0)).put (some 8) (.pointer (some ⟨g8, 0, none⟩))).put (some 9) (.pointer (some ⟨g9, 0, none⟩))).put (some 10) (.pointer (some ⟨g10, 0, none⟩))).put (some 11) (.pointer (some ⟨g11, 0, none⟩))).put (some 12) (.int .i64 (k : Int))).put (some 13) (.pointer (some ⟨g0, 0, none⟩))).put (some 14) (.pointer (some ⟨g1, 0, none⟩))) := ⟨E2, by rw [put_self f2_1, put_self f2_3, put_self f2_5, put_self f2_6, put_self f2_7, put_self f2_8, put_self f2_9, put_self f2_10, put_self f2_11, put_self f2_12, put_self f2_13, put_self f2_14]⟩
  refine aQ ?_
  refine ac_draw0 (id := 21) [0, 1, 2, 3, 4] [5] _ (by kernel_rfl) follows rfl  (dw_op (d := some 110) _ rfl rfl rfl (st_lda (vs := [.int .i64 at_.lo, .int .i64 at_.hi, .bool at_.no]) agg26 3 rfl rfl rfl rfl rfl rfl ⟨rfl, rfl⟩) (dw_op (d := some 111) _ rfl rfl rfl (st_fa rfl fa127_3 rfl ⟨rfl, rfl⟩) (dw_op (d := some 112) _ rfl rfl rfl (st_lda (vs := [.int .i64 f.thick.c, .int .i64 f.thick.scale]) agg83 1 rfl rfl rfl rfl rfl rfl ⟨rfl, rfl⟩) (dw_op (d := some 113) _ rfl rfl rfl (st_cf (c_rDecIv f.thick) Try.func106 rfl (by decide) rfl rfl rfl ⟨rfl, rfl⟩) ?_))))
  refine dw_op (d := some 114) _ rfl rfl rfl (st_cf (c_rAdd at_ (rDecIv f.thick)) Try.func86 rfl (by decide) rfl rfl rfl ⟨rfl, rfl⟩) (dw_nil (aS [.int .i64 ((rAdd at_ (rDecIv f.thick)).lo), .int .i64 ((rAdd at_ (rDecIv f.thick)).hi), .bool ((rAdd at_ (rDecIv f.thick)).no)] agg26 3 rfl rfl rfl rfl rfl rfl (aN (aL (aF 115 fa48_0 rfl rfl (aD 116 (.slice aa m ca) cell46 4 rfl rfl rfl rfl ?_))))))
  refine aG 117 [.bool y2.stop, .bool y2.bent, .int .i64 y2.curve.lo, .int .i64 y2.curve.hi, .bool y2.curve.no, .int .i64 y2.conic.lo, .int .i64 y2.conic.hi, .bool y2.conic.no, .int .i64 y2.a4.lo, .int .i64 y2.a4.hi, .bool y2.a4.no, .int .i64 y2.a6.lo, .int .i64 y2.a6.hi, .bool y2.a6.no, .int .i64 y2.at_.lo, .int .i64 y2.at_.hi, .bool y2.at_.no, .int .i64 y2.open2.lo, .int .i64 y2.open2.hi, .bool y2.open2.no, .int .i64 y2.ratio.lo, .int .i64 y2.ratio.hi, .bool y2.ratio.no] agg41 0 rfl rfl rfl rfl rfl ?_
  refine ao 118 rfl rfl (st_bs (us := [(0, .agg #[.bool y2.stop, .bool y2.bent, .int .i64 y2.curve.lo, .int .i64 y2.curve.hi, .bool y2.curve.no, .int .i64 y2.conic.lo, .int .i64 y2.conic.hi, .bool y2.conic.no, .int .i64 y2.a4.lo, .int .i64 y2.a4.hi, .bool y2.a4.no, .int .i64 y2.a6.lo, .int .i64 y2.a6.hi, .bool y2.a6.no, .int .i64 y2.at_.lo, .int .i64 y2.at_.hi, .bool y2.at_.no, .int .i64 y2.open2.lo, .int .i64 y2.open2.hi, .bool y2.open2.no, .int .i64 y2.ratio.lo, .int .i64 y2.ratio.hi, .bool y2.ratio.no])]) (cs := [.bool y2.stop, .bool y2.bent, .int .i64 y2.curve.lo, .int .i64 y2.curve.hi, .bool y2.curve.no, .int .i64 y2.conic.lo, .int .i64 y2.conic.hi, .bool y2.conic.no, .int .i64 y2.a4.lo, .int .i64 y2.a4.hi, .bool y2.a4.no, .int .i64 y2.a6.lo, .int .i64 y2.a6.hi, .bool y2.a6.no, .int .i64 y2.at_.lo, .int .i64 y2.at_.hi, .bool y2.at_.no, .int .i64 y2.open2.lo, .int .i64 y2.open2.hi, .bool y2.open2.no, .int .i64 y2.ratio.lo, .int .i64 y2.ratio.hi, .bool y2.ratio.no]) rfl rfl (bs46_1_0a _ _ _ _ _ _ _ _ _ _ _ _ _ _ _ _ _ _ _ _ _ _ _) fun g2 => ?_)
  refine ao 119 rfl rfl (st_appZ (A := [⟨g2, [.bool y2.stop, .bool y2.bent, .int .i64 y2.curve.lo, .int .i64 y2.curve.hi, .bool y2.curve.no, .int .i64 y2.conic.lo, .int .i64 y2.conic.hi, .bool y2.conic.no, .int .i64 y2.a4.lo, .int .i64 y2.a4.hi, .bool y2.a4.no, .int .i64 y2.a6.lo, .int .i64 y2.a6.hi, .bool y2.a6.no, .int .i64 y2.at_.lo, .int .i64 y2.at_.hi, .bool y2.at_.no, .int .i64 y2.open2.lo, .int .i64 y2.open2.hi, .bool y2.open2.no, .int .i64 y2.ratio.lo, .int .i64 y2.ratio.hi, .bool y2.ratio.no], 41, false⟩, ⟨g1, [.bool y2.stop, .bool y2.bent, .int .i64 y2.curve.lo, .int .i64 y2.curve.hi, .bool y2.curve.no, .int .i64 y2.conic.lo, .int .i64 y2.conic.hi, .bool y2.conic.no, .int .i64 y2.a4.lo, .int .i64 y2.a4.hi, .bool y2.a4.no, .int .i64 y2.a6.lo, .int .i64 y2.a6.hi, .bool y2.a6.no, .int .i64 y2.at_.lo, .int .i64 y2.at_.hi, .bool y2.at_.no, .int .i64 y2.open2.lo, .int .i64 y2.open2.hi, .bool y2.open2.no, .int .i64 y2.ratio.lo, .int .i64 y2.ratio.hi, .bool y2.ratio.no], 41, false⟩, ⟨g0, [.bool f.stop, .int .i64 f.radius.c, .int .i64 f.radius.scale, .int .i64 f.aperture.c, .int .i64 f.aperture.scale, .int .i64 f.thick.c, .int .i64 f.thick.scale, .int .i64 f.conic.c, .int .i64 f.conic.scale, .int .i64 f.a4.c, .int .i64 f.a4.scale, .int .i64 f.a6.c, .int .i64 f.a6.scale, .string f.glass], 127, false⟩, ⟨g11, [.int .i64 i2.lo, .int .i64 i2.hi, .bool i2.no], 26, false⟩, ⟨g10, [.int .i64 ((rAdd at_ (rDecIv f.thick)).lo), .int .i64 ((rAdd at_ (rDecIv f.thick)).hi), .bool ((rAdd at_ (rDecIv f.thick)).no)], 26, false⟩, ⟨g9, [.slice aa m ca, .int .i64 op.lo, .int .i64 op.hi, .bool op.no], 48, false⟩, ⟨g8, [.int .i64 ((rPoint 65536).lo), .int .i64 ((rPoint 65536).hi), .bool ((rPoint 65536).no)], 26, false⟩, ⟨g6, [.slice none 0 0, .int .i64 0, .int .i64 0, .bool false], 48, false⟩, ⟨g5, [.int .i64 wave.lo, .int .i64 wave.hi, .bool wave.no], 26, false⟩, ⟨g3, [.string nm, .int .i64 bk.c, .int .i64 bk.scale, .slice (some ⟨gF, 0, none⟩) M cF], 108, false⟩, ⟨gF, ra, 127, true⟩, ⟨g, rg, 122, true⟩]) (N := NA) (xs := xs) (news := [.bool y2.stop, .bool y2.bent, .int .i64 y2.curve.lo, .int .i64 y2.curve.hi, .bool y2.curve.no, .int .i64 y2.conic.lo, .int .i64 y2.conic.hi, .bool y2.conic.no, .int .i64 y2.a4.lo, .int .i64 y2.a4.hi, .bool y2.a4.no, .int .i64 y2.a6.lo, .int .i64 y2.a6.hi, .bool y2.a6.no, .int .i64 y2.at_.lo, .int .i64 y2.at_.hi, .bool y2.at_.no, .int .i64 y2.open2.lo, .int .i64 y2.open2.hi, .bool y2.open2.no, .int .i64 y2.ratio.lo, .int .i64 y2.ratio.hi, .bool y2.ratio.no]) (r := []) slT46 rfl rfl rfl hR rfl (List.mem_of_getElem? (i := 0) rfl) rfl rfl rfl rfl (by decide) (by simp only [maxLen]; omega) (by omega) (fun v H H' hp h => ar_perm hp h) fun v9 Nu1 Ru1 => ?_)
  obtain ⟨au1, cu1, rfl⟩ := Ru1.form
  refine aF 120 fa48_0 rfl rfl (ar_op (d := none) rfl rfl (st_stc (cs := [.slice au1 (m + 1) cu1, .int .i64 op.lo, .int .i64 op.hi, .bool op.no]) cell46 5 rfl rfl rfl rfl rfl rfl rfl rfl rfl (aN (aL (aM 40 (.int .i64 (k : Int)) rfl rfl (aB 41 (.int .i64 (w64 ((k : Int) + 1))) rfl rfl rfl (bi_add rfl) (aA 12 (.int .i64 (w64 ((k : Int) + 1))) rfl rfl (aN ?_))))))))
  exact ar_dropR (List.Sublist.cons _ (List.Sublist.cons _ (List.Sublist.cons _ (List.Sublist.refl _)))) (Knext y2 (rAdd at_ (rDecIv f.thick)) i2 ⟨by rw [e2.1]; exact e1.1 rfl, e2.2.1.trans e1.2.1, e2.2.2.trans e1.2.2⟩ _ cu1 au1 Nu1 Ru1 rfl rfl rfl rfl rfl rfl rfl rfl rfl rfl)
 ·refine dw_sk (d := (some 54)) rfl (by show ((!(rZero f.a4)) == false) = false; rw [h1]; rfl) rfl (dw_sk (d := (some 55)) rfl (by show ((!(rZero f.a4)) == false) = false; rw [h1]; rfl) rfl (dw_sk (d := (some 56)) rfl (by show ((!(rZero f.a4)) == false) = false; rw [h1]; rfl) rfl (dw_sk (d := (some 57)) rfl (by show ((!(rZero f.a4)) == false) = false; rw [h1]; rfl) rfl (dw_op (d := some 58) _ rfl rfl rfl (st_pkt' (b := !(rZero f.a4)) (v := .bool true) (by rw [h1]; rfl) rfl rfl rfl ⟨rfl, rfl⟩) (dw_op (d := some 59) _ rfl rfl rfl (st_cf (c_rPoint 0) Try.func80 rfl (by decide) rfl rfl rfl ⟨rfl, rfl⟩) ?_)))))
  refine dw_op (d := some 60) _ rfl rfl rfl (st_lda (vs := [.int .i64 ((rPoint 65536).lo), .int .i64 ((rPoint 65536).hi), .bool ((rPoint 65536).no)]) agg26 4 rfl rfl rfl rfl rfl rfl ⟨rfl, rfl⟩) (dw_op (d := some 61) _ rfl rfl rfl (st_fa rfl fa127_4 rfl ⟨rfl, rfl⟩) (dw_op (d := some 62) _ rfl rfl rfl (st_lda (vs := [.int .i64 f.conic.c, .int .i64 f.conic.scale]) agg83 0 rfl rfl rfl rfl rfl rfl ⟨rfl, rfl⟩) (dw_op (d := some 63) _ rfl rfl rfl (st_cf (c_rDecIv f.conic) Try.func106 rfl (by decide) rfl rfl rfl ⟨rfl, rfl⟩) (dw_op (d := some 64) _ rfl rfl rfl (st_cf (c_rAdd (rPoint 65536) (rDecIv f.conic)) Try.func86 rfl (by decide) rfl rfl rfl ⟨rfl, rfl⟩) ?_))))
  refine dw_op (d := some 65) _ rfl rfl rfl (st_fa rfl fa127_5 rfl ⟨rfl, rfl⟩) (dw_op (d := some 66) _ rfl rfl rfl (st_lda (vs := [.int .i64 f.a4.c, .int .i64 f.a4.scale]) agg83 0 rfl rfl rfl rfl rfl rfl ⟨rfl, rfl⟩) (dw_op (d := some 67) _ rfl rfl rfl (st_cf (c_rDecIv f.a4) Try.func106 rfl (by decide) rfl rfl rfl ⟨rfl, rfl⟩) (dw_op (d := some 68) _ rfl rfl rfl (st_fa rfl fa127_6 rfl ⟨rfl, rfl⟩) (dw_op (d := some 69) _ rfl rfl rfl (st_lda (vs := [.int .i64 f.a6.c, .int .i64 f.a6.scale]) agg83 0 rfl rfl rfl rfl rfl rfl ⟨rfl, rfl⟩) (dw_op (d := some 70) _ rfl rfl rfl (st_cf (c_rDecIv f.a6) Try.func106 rfl (by decide) rfl rfl rfl ⟨rfl, rfl⟩) ?_)))))
  refine dw_op (d := some 71) _ rfl rfl rfl (st_lda (vs := [.int .i64 at_.lo, .int .i64 at_.hi, .bool at_.no]) agg26 2 rfl rfl rfl rfl rfl rfl ⟨rfl, rfl⟩) (dw_op (d := some 72) _ rfl rfl rfl (st_fa rfl fa127_2 rfl ⟨rfl, rfl⟩) (dw_op (d := some 73) _ rfl rfl rfl (st_lda (vs := [.int .i64 f.aperture.c, .int .i64 f.aperture.scale]) agg83 0 rfl rfl rfl rfl rfl rfl ⟨rfl, rfl⟩) (dw_op (d := some 74) _ rfl rfl rfl (st_cf (c_rDecIv f.aperture) Try.func106 rfl (by decide) rfl rfl rfl ⟨rfl, rfl⟩) (dw_op (d := some 75) _ rfl rfl rfl (st_cf (c_rSqr (rDecIv f.aperture)) Try.func84 rfl (by decide) rfl rfl rfl ⟨rfl, rfl⟩) ?_))))
  refine dw_op (d := some 76) _ rfl rfl rfl (st_lda (vs := [.int .i64 ((rPoint 65536).lo), .int .i64 ((rPoint 65536).hi), .bool ((rPoint 65536).no)]) agg26 4 rfl rfl rfl rfl rfl rfl ⟨rfl, rfl⟩) ?_
  refine dw_op (d := some 77) _ rfl rfl rfl (st_bd (us := [(0, .bool f.stop), (1, .bool true), (2, .agg #[.int .i64 ((rPoint 0).lo), .int .i64 ((rPoint 0).hi), .bool ((rPoint 0).no)]), (3, .agg #[.int .i64 ((rAdd (rPoint 65536) (rDecIv f.conic)).lo), .int .i64 ((rAdd (rPoint 65536) (rDecIv f.conic)).hi), .bool ((rAdd (rPoint 65536) (rDecIv f.conic)).no)]), (4, .agg #[.int .i64 ((rDecIv f.a4).lo), .int .i64 ((rDecIv f.a4).hi), .bool ((rDecIv f.a4).no)]), (5, .agg #[.int .i64 ((rDecIv f.a6).lo), .int .i64 ((rDecIv f.a6).hi), .bool ((rDecIv f.a6).no)]), (6, .agg #[.int .i64 at_.lo, .int .i64 at_.hi, .bool at_.no]), (7, .agg #[.int .i64 ((rSqr (rDecIv f.aperture)).lo), .int .i64 ((rSqr (rDecIv f.aperture)).hi), .bool ((rSqr (rDecIv f.aperture)).no)]), (8, .agg #[.int .i64 ((rPoint 65536).lo), .int .i64 ((rPoint 65536).hi), .bool ((rPoint 65536).no)])]) (v := .agg #[.bool f.stop, .bool true, .int .i64 ((rPoint 0).lo), .int .i64 ((rPoint 0).hi), .bool ((rPoint 0).no), .int .i64 ((rAdd (rPoint 65536) (rDecIv f.conic)).lo), .int .i64 ((rAdd (rPoint 65536) (rDecIv f.conic)).hi), .bool ((rAdd (rPoint 65536) (rDecIv f.conic)).no), .int .i64 ((rDecIv f.a4).lo), .int .i64 ((rDecIv f.a4).hi), .bool ((rDecIv f.a4).no), .int .i64 ((rDecIv f.a6).lo), .int .i64 ((rDecIv f.a6).hi), .bool ((rDecIv f.a6).no), .int .i64 at_.lo, .int .i64 at_.hi, .bool at_.no, .int .i64 ((rSqr (rDecIv f.aperture)).lo), .int .i64 ((rSqr (rDecIv f.aperture)).hi), .bool ((rSqr (rDecIv f.aperture)).no), .int .i64 ((rPoint 65536).lo), .int .i64 ((rPoint 65536).hi), .bool ((rPoint 65536).no)]) rfl rfl (bd41_0_1_2a_3a_4a_5a_6a_7a_8a _ _ _ _ _ _ _ _ _ _ _ _ _ _ _ _ _ _ _ _ _ _ _) ⟨rfl, rfl⟩) ?_
  refine dw_nil ?_
  intro g1
  refine aS [.bool f.stop, .bool true, .int .i64 ((rPoint 0).lo), .int .i64 ((rPoint 0).hi), .bool ((rPoint 0).no), .int .i64 ((rAdd (rPoint 65536) (rDecIv f.conic)).lo), .int .i64 ((rAdd (rPoint 65536) (rDecIv f.conic)).hi), .bool ((rAdd (rPoint 65536) (rDecIv f.conic)).no), .int .i64 ((rDecIv f.a4).lo), .int .i64 ((rDecIv f.a4).hi), .bool ((rDecIv f.a4).no), .int .i64 ((rDecIv f.a6).lo), .int .i64 ((rDecIv f.a6).hi), .bool ((rDecIv f.a6).no), .int .i64 at_.lo, .int .i64 at_.hi, .bool at_.no, .int .i64 ((rSqr (rDecIv f.aperture)).lo), .int .i64 ((rSqr (rDecIv f.aperture)).hi), .bool ((rSqr (rDecIv f.aperture)).no), .int .i64 ((rPoint 65536).lo), .int .i64 ((rPoint 65536).hi), .bool ((rPoint 65536).no)] agg41 0 rfl rfl rfl rfl rfl rfl ?_
  refine aN (aQ (aQ (aL (aF 78 fa127_1 rfl rfl (aF 79 fa83_0 rfl rfl (aD 80 (.int .i64 f.radius.c) cell3 1 rfl rfl rfl rfl (aB 81 (.bool (f.radius.c != 0)) rfl rfl rfl (bi_neq rfl) (aN ?_))))))))
  refine build_curve g11 g10 g9 g8 g6 g5 g3 gF g M cF cap m ca nm bk at_ ix op wave ra rg rest x0 x1 hrg aa NA g0 g1 k f (⟨f.stop, true, (rPoint 0), (rAdd (rPoint 65536) (rDecIv f.conic)), (rDecIv f.a4), (rDecIv f.a6), at_, (rSqr (rDecIv f.aperture)), (rPoint 65536)⟩ : Surf) rfl rfl rfl rfl rfl rfl rfl rfl rfl rfl rfl rfl rfl rfl (fun T1 y1 i1 e1 E1 f1_1 f1_3 f1_5 f1_6 f1_7 f1_8 f1_9 f1_10 f1_11 f1_12 f1_13 f1_14 => ?_)
  refine ac_drop (List.sublist_append_right T1 _) ?_
  obtain ⟨E0, rfl⟩ : ∃ E0 : Env, E1 = ((((((((((((E0.put (some 1) (.slice (some ⟨g, 0, none⟩) 2 cap)).put (some 3) (.pointer (some ⟨g3, 0, none⟩))).put (some 5) (.pointer (some ⟨g5, 0, none⟩))).put (some 6) (.pointer (some ⟨g6, 0, none⟩))).put (some 7) (.int .i64 0)).put (some 8) (.pointer (some ⟨g8, 0, none⟩))).put (some 9) (.pointer (some ⟨g9, 0, none⟩))).put (some 10) (.pointer (some ⟨g10, 0, none⟩))).put (some 11) (.pointer (some ⟨g11, 0, none⟩))).put (some 12) (.int .i64 (k : Int))).put (some 13) (.pointer (some ⟨g0, 0, none⟩))).put (some 14) (.pointer (some ⟨g1, 0, none⟩))) := ⟨E1, by rw [put_self f1_1, put_self f1_3, put_self f1_5, put_self f1_6, put_self f1_7, put_self f1_8, put_self f1_9, put_self f1_10, put_self f1_11, put_self f1_12, put_self f1_13, put_self f1_14]⟩
  refine aQ (aQ (aL (aF 88 fa127_0 rfl rfl (aD 89 (.bool f.stop) cell4 1 rfl rfl rfl rfl (ao 90 rfl rfl (st_un (v := .bool (!f.stop)) rfl rfl (un_not rfl) (aN ?_)))))))
  refine build_ratio g11 g10 g9 g8 g6 g5 g3 gF g M cF cap m ca nm bk at_ i1 op wave ra rg rest x0 x1 hrg aa NA g0 g1 k f y1 rfl rfl rfl rfl rfl rfl rfl rfl rfl rfl rfl rfl rfl rfl (fun T2 y2 i2 e2 E2 f2_1 f2_3 f2_5 f2_6 f2_7 f2_8 f2_9 f2_10 f2_11 f2_12 f2_13 f2_14 => ?_)
  refine ac_drop (List.sublist_append_right T2 _) ?_
  obtain ⟨E0, rfl⟩ : ∃ E0 : Env, E2 = ((((((((((((E0.put (some 1) (.slice (some ⟨g, 0, none⟩) 2 cap)).put (some 3) (.pointer (some ⟨g3, 0, none⟩))).put (some 5) (.pointer (some ⟨g5, 0, none⟩))).put (some 6) (.pointer (some ⟨g6, 0, none⟩))).put (some 7) (.int .i64 0)).put (some 8) (.pointer (some ⟨g8, 0, none⟩))).put (some 9) (.pointer (some ⟨g9, 0, none⟩))).put (some 10) (.pointer (some ⟨g10, 0, none⟩))).put (some 11) (.pointer (some ⟨g11, 0, none⟩))).put (some 12) (.int .i64 (k : Int))).put (some 13) (.pointer (some ⟨g0, 0, none⟩))).put (some 14) (.pointer (some ⟨g1, 0, none⟩))) := ⟨E2, by rw [put_self f2_1, put_self f2_3, put_self f2_5, put_self f2_6, put_self f2_7, put_self f2_8, put_self f2_9, put_self f2_10, put_self f2_11, put_self f2_12, put_self f2_13, put_self f2_14]⟩
  refine aQ ?_
  refine ac_draw0 (id := 21) [0, 1, 2, 3, 4] [5] _ (by kernel_rfl) follows rfl  (dw_op (d := some 110) _ rfl rfl rfl (st_lda (vs := [.int .i64 at_.lo, .int .i64 at_.hi, .bool at_.no]) agg26 3 rfl rfl rfl rfl rfl rfl ⟨rfl, rfl⟩) (dw_op (d := some 111) _ rfl rfl rfl (st_fa rfl fa127_3 rfl ⟨rfl, rfl⟩) (dw_op (d := some 112) _ rfl rfl rfl (st_lda (vs := [.int .i64 f.thick.c, .int .i64 f.thick.scale]) agg83 1 rfl rfl rfl rfl rfl rfl ⟨rfl, rfl⟩) (dw_op (d := some 113) _ rfl rfl rfl (st_cf (c_rDecIv f.thick) Try.func106 rfl (by decide) rfl rfl rfl ⟨rfl, rfl⟩) ?_))))
  refine dw_op (d := some 114) _ rfl rfl rfl (st_cf (c_rAdd at_ (rDecIv f.thick)) Try.func86 rfl (by decide) rfl rfl rfl ⟨rfl, rfl⟩) (dw_nil (aS [.int .i64 ((rAdd at_ (rDecIv f.thick)).lo), .int .i64 ((rAdd at_ (rDecIv f.thick)).hi), .bool ((rAdd at_ (rDecIv f.thick)).no)] agg26 3 rfl rfl rfl rfl rfl rfl (aN (aL (aF 115 fa48_0 rfl rfl (aD 116 (.slice aa m ca) cell46 4 rfl rfl rfl rfl ?_))))))
  refine aG 117 [.bool y2.stop, .bool y2.bent, .int .i64 y2.curve.lo, .int .i64 y2.curve.hi, .bool y2.curve.no, .int .i64 y2.conic.lo, .int .i64 y2.conic.hi, .bool y2.conic.no, .int .i64 y2.a4.lo, .int .i64 y2.a4.hi, .bool y2.a4.no, .int .i64 y2.a6.lo, .int .i64 y2.a6.hi, .bool y2.a6.no, .int .i64 y2.at_.lo, .int .i64 y2.at_.hi, .bool y2.at_.no, .int .i64 y2.open2.lo, .int .i64 y2.open2.hi, .bool y2.open2.no, .int .i64 y2.ratio.lo, .int .i64 y2.ratio.hi, .bool y2.ratio.no] agg41 0 rfl rfl rfl rfl rfl ?_
  refine ao 118 rfl rfl (st_bs (us := [(0, .agg #[.bool y2.stop, .bool y2.bent, .int .i64 y2.curve.lo, .int .i64 y2.curve.hi, .bool y2.curve.no, .int .i64 y2.conic.lo, .int .i64 y2.conic.hi, .bool y2.conic.no, .int .i64 y2.a4.lo, .int .i64 y2.a4.hi, .bool y2.a4.no, .int .i64 y2.a6.lo, .int .i64 y2.a6.hi, .bool y2.a6.no, .int .i64 y2.at_.lo, .int .i64 y2.at_.hi, .bool y2.at_.no, .int .i64 y2.open2.lo, .int .i64 y2.open2.hi, .bool y2.open2.no, .int .i64 y2.ratio.lo, .int .i64 y2.ratio.hi, .bool y2.ratio.no])]) (cs := [.bool y2.stop, .bool y2.bent, .int .i64 y2.curve.lo, .int .i64 y2.curve.hi, .bool y2.curve.no, .int .i64 y2.conic.lo, .int .i64 y2.conic.hi, .bool y2.conic.no, .int .i64 y2.a4.lo, .int .i64 y2.a4.hi, .bool y2.a4.no, .int .i64 y2.a6.lo, .int .i64 y2.a6.hi, .bool y2.a6.no, .int .i64 y2.at_.lo, .int .i64 y2.at_.hi, .bool y2.at_.no, .int .i64 y2.open2.lo, .int .i64 y2.open2.hi, .bool y2.open2.no, .int .i64 y2.ratio.lo, .int .i64 y2.ratio.hi, .bool y2.ratio.no]) rfl rfl (bs46_1_0a _ _ _ _ _ _ _ _ _ _ _ _ _ _ _ _ _ _ _ _ _ _ _) fun g2 => ?_)
  refine ao 119 rfl rfl (st_appZ (A := [⟨g2, [.bool y2.stop, .bool y2.bent, .int .i64 y2.curve.lo, .int .i64 y2.curve.hi, .bool y2.curve.no, .int .i64 y2.conic.lo, .int .i64 y2.conic.hi, .bool y2.conic.no, .int .i64 y2.a4.lo, .int .i64 y2.a4.hi, .bool y2.a4.no, .int .i64 y2.a6.lo, .int .i64 y2.a6.hi, .bool y2.a6.no, .int .i64 y2.at_.lo, .int .i64 y2.at_.hi, .bool y2.at_.no, .int .i64 y2.open2.lo, .int .i64 y2.open2.hi, .bool y2.open2.no, .int .i64 y2.ratio.lo, .int .i64 y2.ratio.hi, .bool y2.ratio.no], 41, false⟩, ⟨g1, [.bool y2.stop, .bool y2.bent, .int .i64 y2.curve.lo, .int .i64 y2.curve.hi, .bool y2.curve.no, .int .i64 y2.conic.lo, .int .i64 y2.conic.hi, .bool y2.conic.no, .int .i64 y2.a4.lo, .int .i64 y2.a4.hi, .bool y2.a4.no, .int .i64 y2.a6.lo, .int .i64 y2.a6.hi, .bool y2.a6.no, .int .i64 y2.at_.lo, .int .i64 y2.at_.hi, .bool y2.at_.no, .int .i64 y2.open2.lo, .int .i64 y2.open2.hi, .bool y2.open2.no, .int .i64 y2.ratio.lo, .int .i64 y2.ratio.hi, .bool y2.ratio.no], 41, false⟩, ⟨g0, [.bool f.stop, .int .i64 f.radius.c, .int .i64 f.radius.scale, .int .i64 f.aperture.c, .int .i64 f.aperture.scale, .int .i64 f.thick.c, .int .i64 f.thick.scale, .int .i64 f.conic.c, .int .i64 f.conic.scale, .int .i64 f.a4.c, .int .i64 f.a4.scale, .int .i64 f.a6.c, .int .i64 f.a6.scale, .string f.glass], 127, false⟩, ⟨g11, [.int .i64 i2.lo, .int .i64 i2.hi, .bool i2.no], 26, false⟩, ⟨g10, [.int .i64 ((rAdd at_ (rDecIv f.thick)).lo), .int .i64 ((rAdd at_ (rDecIv f.thick)).hi), .bool ((rAdd at_ (rDecIv f.thick)).no)], 26, false⟩, ⟨g9, [.slice aa m ca, .int .i64 op.lo, .int .i64 op.hi, .bool op.no], 48, false⟩, ⟨g8, [.int .i64 ((rPoint 65536).lo), .int .i64 ((rPoint 65536).hi), .bool ((rPoint 65536).no)], 26, false⟩, ⟨g6, [.slice none 0 0, .int .i64 0, .int .i64 0, .bool false], 48, false⟩, ⟨g5, [.int .i64 wave.lo, .int .i64 wave.hi, .bool wave.no], 26, false⟩, ⟨g3, [.string nm, .int .i64 bk.c, .int .i64 bk.scale, .slice (some ⟨gF, 0, none⟩) M cF], 108, false⟩, ⟨gF, ra, 127, true⟩, ⟨g, rg, 122, true⟩]) (N := NA) (xs := xs) (news := [.bool y2.stop, .bool y2.bent, .int .i64 y2.curve.lo, .int .i64 y2.curve.hi, .bool y2.curve.no, .int .i64 y2.conic.lo, .int .i64 y2.conic.hi, .bool y2.conic.no, .int .i64 y2.a4.lo, .int .i64 y2.a4.hi, .bool y2.a4.no, .int .i64 y2.a6.lo, .int .i64 y2.a6.hi, .bool y2.a6.no, .int .i64 y2.at_.lo, .int .i64 y2.at_.hi, .bool y2.at_.no, .int .i64 y2.open2.lo, .int .i64 y2.open2.hi, .bool y2.open2.no, .int .i64 y2.ratio.lo, .int .i64 y2.ratio.hi, .bool y2.ratio.no]) (r := []) slT46 rfl rfl rfl hR rfl (List.mem_of_getElem? (i := 0) rfl) rfl rfl rfl rfl (by decide) (by simp only [maxLen]; omega) (by omega) (fun v H H' hp h => ar_perm hp h) fun v9 Nu1 Ru1 => ?_)
  obtain ⟨au1, cu1, rfl⟩ := Ru1.form
  refine aF 120 fa48_0 rfl rfl (ar_op (d := none) rfl rfl (st_stc (cs := [.slice au1 (m + 1) cu1, .int .i64 op.lo, .int .i64 op.hi, .bool op.no]) cell46 5 rfl rfl rfl rfl rfl rfl rfl rfl rfl (aN (aL (aM 40 (.int .i64 (k : Int)) rfl rfl (aB 41 (.int .i64 (w64 ((k : Int) + 1))) rfl rfl rfl (bi_add rfl) (aA 12 (.int .i64 (w64 ((k : Int) + 1))) rfl rfl (aN ?_))))))))
  exact ar_dropR (List.Sublist.cons _ (List.Sublist.cons _ (List.Sublist.cons _ (List.Sublist.refl _)))) (Knext y2 (rAdd at_ (rDecIv f.thick)) i2 ⟨by rw [e2.1]; exact e1.1 rfl, e2.2.1.trans e1.2.1, e2.2.2.trans e1.2.2⟩ _ cu1 au1 Nu1 Ru1 rfl rfl rfl rfl rfl rfl rfl rfl rfl rfl)
set_option maxRecDepth 100000 in
theorem build_leave (g11 g10 g9 g8 g6 g5 g3 gF g M cF cap m ca : Nat) (nm : ByteArray) (bk : Dec) (at_ ix op wave : Iv) (ra rg rest : List Value) (x0 x1 : Glass) (hrg : rg = x0.cells ++ x1.cells ++ rest) (aa : Option Addr) (NA : List Box) {Q : Exit → Env → List Box → Prop} {E : Env} {c : Code} {j : Nat} (hc : Try.f77.body.bind loopOf = some c) (q1 : E 1 = .slice (some ⟨g, 0, none⟩) 2 cap) (q3 : E 3 = .pointer (some ⟨g3, 0, none⟩)) (q5 : E 5 = .pointer (some ⟨g5, 0, none⟩)) (q6 : E 6 = .pointer (some ⟨g6, 0, none⟩)) (q7 : E 7 = .int .i64 0) (q8 : E 8 = .pointer (some ⟨g8, 0, none⟩)) (q9 : E 9 = .pointer (some ⟨g9, 0, none⟩)) (q10 : E 10 = .pointer (some ⟨g10, 0, none⟩)) (q11 : E 11 = .pointer (some ⟨g11, 0, none⟩)) (q12 : E 12 = .int .i64 (M : Int)) (K : ∀ E' : Env, E' 6 = .pointer (some ⟨g6, 0, none⟩) → E' 7 = .int .i64 0 → E' 9 = .pointer (some ⟨g9, 0, none⟩) → Q (.exit 0) E' ([⟨g11, [.int .i64 ix.lo, .int .i64 ix.hi, .bool ix.no], 26, false⟩, ⟨g10, [.int .i64 at_.lo, .int .i64 at_.hi, .bool at_.no], 26, false⟩, ⟨g9, [.slice aa m ca, .int .i64 op.lo, .int .i64 op.hi, .bool op.no], 48, false⟩, ⟨g8, [.int .i64 ((rPoint 65536).lo), .int .i64 ((rPoint 65536).hi), .bool ((rPoint 65536).no)], 26, false⟩, ⟨g6, [.slice none 0 0, .int .i64 0, .int .i64 0, .bool false], 48, false⟩, ⟨g5, [.int .i64 wave.lo, .int .i64 wave.hi, .bool wave.no], 26, false⟩, ⟨g3, [.string nm, .int .i64 bk.c, .int .i64 bk.scale, .slice (some ⟨gF, 0, none⟩) M cF], 108, false⟩, ⟨gF, ra, 127, true⟩, ⟨g, rg, 122, true⟩] ++ NA)) : ARounds Try.prog 126 c Q (j + 1) E ([⟨g11, [.int .i64 ix.lo, .int .i64 ix.hi, .bool ix.no], 26, false⟩, ⟨g10, [.int .i64 at_.lo, .int .i64 at_.hi, .bool at_.no], 26, false⟩, ⟨g9, [.slice aa m ca, .int .i64 op.lo, .int .i64 op.hi, .bool op.no], 48, false⟩, ⟨g8, [.int .i64 ((rPoint 65536).lo), .int .i64 ((rPoint 65536).hi), .bool ((rPoint 65536).no)], 26, false⟩, ⟨g6, [.slice none 0 0, .int .i64 0, .int .i64 0, .bool false], 48, false⟩, ⟨g5, [.int .i64 wave.lo, .int .i64 wave.hi, .bool wave.no], 26, false⟩, ⟨g3, [.string nm, .int .i64 bk.c, .int .i64 bk.scale, .slice (some ⟨gF, 0, none⟩) M cF], 108, false⟩, ⟨gF, ra, 127, true⟩, ⟨g, rg, 122, true⟩] ++ NA) := by
 rw [show Try.f77.body.bind loopOf = some _ from rfl] at hc
 cases hc
 obtain ⟨E0, rfl⟩ : ∃ E0 : Env, E = ((((((((((E0.put (some 1) (.slice (some ⟨g, 0, none⟩) 2 cap)).put (some 3) (.pointer (some ⟨g3, 0, none⟩))).put (some 5) (.pointer (some ⟨g5, 0, none⟩))).put (some 6) (.pointer (some ⟨g6, 0, none⟩))).put (some 7) (.int .i64 0)).put (some 8) (.pointer (some ⟨g8, 0, none⟩))).put (some 9) (.pointer (some ⟨g9, 0, none⟩))).put (some 10) (.pointer (some ⟨g10, 0, none⟩))).put (some 11) (.pointer (some ⟨g11, 0, none⟩))).put (some 12) (.int .i64 (M : Int))) := ⟨E, by rw [put_self q1, put_self q3, put_self q5, put_self q6, put_self q7, put_self q8, put_self q9, put_self q10, put_self q11, put_self q12]⟩
 refine ar_round (aQ (aQ (aL (aM 35 (.int .i64 (M : Int)) rfl rfl (aF 36 fa108_2 rfl rfl (aD 37 (.slice (some ⟨gF, 0, none⟩) M cF) cell106 6 rfl rfl rfl rfl (ao 38 rfl rfl (st_ln (a := some ⟨gF, 0, none⟩) (m := M) (c := cF) rfl Try.underlying106 rfl (aB 39 (.bool (decide ((M : Int) < (M : Int)))) rfl rfl rfl (bi_lss rfl) (aN (ac_else' (b := decide ((M : Int) < (M : Int))) (decide_eq_false (show ¬ ((M : Int) < (M : Int)) by omega)) rfl (ac_exit ?_))))))))))))
 exact K _ rfl rfl rfl
theorem build_loop (g11 g10 g9 g8 g6 g5 g3 gF g M cF cap : Nat) (nm : ByteArray) (bk : Dec) (op wave : Iv) (ra rg rest : List Value) (x0 x1 : Glass) (hrg : rg = x0.cells ++ x1.cells ++ rest) {Q : Exit → Env → List Box → Prop} {c : Code} (hc : Try.f77.body.bind loopOf = some c) (hM : M ≤ 5)
  (K : ∀ (S : List Surf) (at_ ix : Iv) (m ca : Nat) (aa : Option Addr) (NA : List Box) (xs : List Value) (E' : Env), m = S.length → xs = flatU S → m ≤ 5 → Row 41 23 m xs (.slice aa m ca) NA → (∀ y ∈ S, SurfOf y) → E' 6 = .pointer (some ⟨g6, 0, none⟩) → E' 7 = .int .i64 0 → E' 9 = .pointer (some ⟨g9, 0, none⟩) → Q (.exit 0) E' ([⟨g11, [.int .i64 ix.lo, .int .i64 ix.hi, .bool ix.no], 26, false⟩, ⟨g10, [.int .i64 at_.lo, .int .i64 at_.hi, .bool at_.no], 26, false⟩, ⟨g9, [.slice aa m ca, .int .i64 op.lo, .int .i64 op.hi, .bool op.no], 48, false⟩, ⟨g8, [.int .i64 ((rPoint 65536).lo), .int .i64 ((rPoint 65536).hi), .bool ((rPoint 65536).no)], 26, false⟩, ⟨g6, [.slice none 0 0, .int .i64 0, .int .i64 0, .bool false], 48, false⟩, ⟨g5, [.int .i64 wave.lo, .int .i64 wave.hi, .bool wave.no], 26, false⟩, ⟨g3, [.string nm, .int .i64 bk.c, .int .i64 bk.scale, .slice (some ⟨gF, 0, none⟩) M cF], 108, false⟩, ⟨gF, ra, 127, true⟩, ⟨g, rg, 122, true⟩] ++ NA)) :
  ∀ (l : List Face) (k : Nat) (S : List Surf) (at_ ix : Iv) (m ca : Nat) (aa : Option Addr) (NA : List Box) (xs : List Value) (E : Env), k + l.length = M → m = k → (∀ j s, l[j]? = some s → (ra.drop (0 + (k + j) * 14)).take 14 = Face.cells s) → (∀ y ∈ l, FaceOk y) → m = S.length → xs = flatU S → Row 41 23 m xs (.slice aa m ca) NA → (∀ y ∈ S, SurfOf y) → E 1 = .slice (some ⟨g, 0, none⟩) 2 cap → E 3 = .pointer (some ⟨g3, 0, none⟩) → E 5 = .pointer (some ⟨g5, 0, none⟩) → E 6 = .pointer (some ⟨g6, 0, none⟩) → E 7 = .int .i64 0 → E 8 = .pointer (some ⟨g8, 0, none⟩) → E 9 = .pointer (some ⟨g9, 0, none⟩) → E 10 = .pointer (some ⟨g10, 0, none⟩) → E 11 = .pointer (some ⟨g11, 0, none⟩) → E 12 = .int .i64 (k : Int) → ARounds Try.prog 126 c Q (l.length + 1) E ([⟨g11, [.int .i64 ix.lo, .int .i64 ix.hi, .bool ix.no], 26, false⟩, ⟨g10, [.int .i64 at_.lo, .int .i64 at_.hi, .bool at_.no], 26, false⟩, ⟨g9, [.slice aa m ca, .int .i64 op.lo, .int .i64 op.hi, .bool op.no], 48, false⟩, ⟨g8, [.int .i64 ((rPoint 65536).lo), .int .i64 ((rPoint 65536).hi), .bool ((rPoint 65536).no)], 26, false⟩, ⟨g6, [.slice none 0 0, .int .i64 0, .int .i64 0, .bool false], 48, false⟩, ⟨g5, [.int .i64 wave.lo, .int .i64 wave.hi, .bool wave.no], 26, false⟩, ⟨g3, [.string nm, .int .i64 bk.c, .int .i64 bk.scale, .slice (some ⟨gF, 0, none⟩) M cF], 108, false⟩, ⟨gF, ra, 127, true⟩, ⟨g, rg, 122, true⟩] ++ NA) := by
 intro l
 induction l with
 | nil =>
  intro k S at_ ix m ca aa NA xs E hk hmk hra hl hm hxs hR hS q1 q3 q5 q6 q7 q8 q9 q10 q11 q12
  obtain rfl : k = M := by simpa using hk
  exact build_leave g11 g10 g9 g8 g6 g5 g3 gF g k cF cap m ca nm bk at_ ix op wave ra rg rest x0 x1 hrg aa NA hc q1 q3 q5 q6 q7 q8 q9 q10 q11 q12 (fun E' f6 f7 f9 => K S at_ ix m ca aa NA xs E' hm hxs (by omega) hR hS f6 f7 f9)
 | cons f l ih =>
  intro k S at_ ix m ca aa NA xs E hk hmk hra hl hm hxs hR hS q1 q3 q5 q6 q7 q8 q9 q10 q11 q12
  have hkM : k < M := by simp only [List.length_cons] at hk; omega
  refine build_round g11 g10 g9 g8 g6 g5 g3 gF g M cF cap m ca nm bk at_ ix op wave ra rg rest x0 x1 hrg aa NA k f hc hkM (by omega) (by have := hra 0 f rfl; simpa using this) hR q1 q3 q5 q6 q7 q8 q9 q10 q11 q12 ?_
  intro y at' ix' hy E' ca' aa' NA' hR' f1 f3 f5 f6 f7 f8 f9 f10 f11 f12
  exact ih (k + 1) (S ++ [y]) at' ix' (m + 1) ca' aa' NA' _ E' (by simp only [List.length_cons] at hk; omega) (by omega) (fun j s hj => by have := hra (j + 1) s (by simpa using hj); rw [show k + 1 + j = k + (j + 1) from by omega]; exact this) (fun z hz => hl z (List.mem_cons_of_mem _ hz)) (by simp [hm]) (by rw [hxs, flatU_append]; simp [flatU]) hR' (fun z hz => by
   rcases List.mem_append.1 hz with hz | hz
   ·exact hS z hz
   ·obtain rfl := List.mem_singleton.1 hz
    exact ⟨_, hl f List.mem_cons_self, hy⟩) f1 f3 f5 f6 f7 f8 f9 f10 f11 (by rw [f12, w64_id (by omega)]; rfl)
end Go.Proofs.Ythngkopcadlciaa
namespace Go.Proofs.Ythngkopcadlciaa
open Go.RowKit
section
variable {p : Program} {n : Nat} {ops : Array Oper} {Q : Exit → Env → List Box → Prop} {l : List Oper} {E : Env} {H : List Box} {o : Oper} {ρ : Operand → Value} {K : Post}
theorem st_own {K : Post} (h : (H.map Box.g).Nodup → Step p ρ o H K) : Step p ρ o H K := fun F β w hO hB => h (by
  have := hO.apart
  rw [List.map_append, List.nodup_append] at this
  exact this.1) F β w hO hB
theorem nodup_two {b c : Box} (i j : Nat) (hi : (H[i]?).map Box.g = some b.g) (hj : (H[j]?).map Box.g = some c.g) (hij : i < j) (h : (H.map Box.g).Nodup) : ([b, c].map Box.g).Nodup := by
  have h1 : (H.map Box.g)[i]? = some b.g := by rw [List.getElem?_map, hi]
  have h2 : (H.map Box.g)[j]? = some c.g := by rw [List.getElem?_map, hj]
  obtain ⟨hi', e1⟩ := List.getElem?_eq_some_iff.1 h1
  obtain ⟨hj', e2⟩ := List.getElem?_eq_some_iff.1 h2
  have hne : b.g ≠ c.g := by
    rw [← e1, ← e2]
    exact List.pairwise_iff_getElem.1 h i j hi' hj' hij
  simp [hne]
theorem nodup_two' {b c : Box} (i j : Nat) (hi : (H[i]?).map Box.g = some b.g) (hj : (H[j]?).map Box.g = some c.g) (hij : j < i) (h : (H.map Box.g).Nodup) : ([b, c].map Box.g).Nodup := by
  have := nodup_two j i hj hi hij h
  simp only [List.map_cons, List.map_nil, List.nodup_cons, List.mem_cons, List.not_mem_nil, or_false, not_false_eq_true, List.nodup_nil, and_true] at this ⊢
  exact fun e => this e.symm
theorem st_gvZ {f : FuncId} {x : Operand} {args : List Operand} {ts : Array TypeId} {vs : List Value} {R : List Box} {K' : Post} {fn : Func} {c : Code} (h : Gives p f vs.toArray R K') (hfn : p.funcs[f]? = some fn) (hb : fn.body = some c) (hnm : (fn.name == "runtime.NumGoroutine") = false)
    (ho : o.op = .call { callee := .value x, args := args.toArray, argTypes := ts }) (hf : ρ x = .func (.func f) #[] #[]) (hv : args.map ρ = vs) (hR : Has H R) (hnd : (R.map Box.g).Nodup) (hK : ∀ v H H', H.Perm H' → K v H → K v H') (k : ∀ v N, K' v N → K v (H ++ N)) : Step p ρ o H K :=
  st_gv h hfn hb hnm ho hf hv hR hnd fun v N hk => hK _ _ _ List.perm_append_comm (k v N hk)
end
theorem Row.box {e s n c : Nat} {xs : List Value} {a : Option Addr} {N : List Box} (h : Row e s n xs (.slice a n c) N) (hn : 0 < n) : ∃ g rest, a = some ⟨g, 0, none⟩ ∧ N = [⟨g, xs ++ rest, e, false⟩] := by
  obtain ⟨g, cap, rest, h1, h2, _⟩ := h.pos hn
  simp only [Value.slice.injEq] at h1
  exact ⟨g, rest, h1.1, h2⟩
theorem sub_at {ra cs : List Value} {a m : Nat} (h : (ra.drop a).take m = cs) (i j : Nat) (hi : i + j ≤ m) : (ra.drop (a + i)).take j = (cs.drop i).take j := by
  rw [← h, List.drop_take, List.drop_drop, List.take_take, Nat.min_eq_left (by omega)]
def SurfOk (s : Surf) : Prop := SurfOf s ∧ surfRight s = true
def SurfRow (S : List Surf) (m ca : Nat) (aa : Option Addr) (xs : List Value) (N : List Box) : Prop := m = S.length ∧ xs = flatU S ∧ m ≤ 5 ∧ Row 41 23 m xs (.slice aa m ca) N ∧ ∀ s ∈ S, SurfOk s
def BuildPost (u : Value) (N : List Box) : Prop := ∃ (S : List Surf) (op : Iv) (m ca : Nat) (aa : Option Addr) (xs : List Value) (e : Int), u = .tuple #[.agg #[.slice aa m ca, .int .i64 op.lo, .int .i64 op.hi, .bool op.no], .int .i64 e] ∧ SurfRow S m ca aa xs N
def SystemPost (u : Value) (N : List Box) : Prop := ∃ (S : List Surf) (op : Iv) (m ca : Nat) (aa : Option Addr) (xs : List Value), u = .agg #[.slice aa m ca, .int .i64 op.lo, .int .i64 op.hi, .bool op.no] ∧ SurfRow S m ca aa xs N
theorem surfRow_nil : SurfRow [] 0 0 none [] [] := ⟨rfl, rfl, by decide, Row.nil _ _, by simp⟩
theorem surfRow_mk {S : List Surf} {m ca : Nat} {aa : Option Addr} {xs : List Value} {N : List Box} {op : Iv} (hm : m = S.length) (hxs : xs = flatU S) (h5 : m ≤ 5) (hR : Row 41 23 m xs (.slice aa m ca) N) (hS : ∀ y ∈ S, SurfOf y) (h : rSys S op = true) : SurfRow S m ca aa xs N :=
  ⟨hm, hxs, h5, hR, fun s hs => ⟨hS s hs, by
    unfold rSys at h
    cases ha : S.all surfRight
    · rw [ha] at h; cases h
    · exact List.all_eq_true.1 ha s hs⟩⟩
def GlassPost (u : Value) (N : List Box) : Prop := ∃ (g cap : Nat) (x0 x1 : Glass) (rest : List Value), u = .slice (some ⟨g, 0, none⟩) 2 cap ∧ N = [⟨g, x0.cells ++ x1.cells ++ rest, 122, false⟩]
end Go.Proofs.Ythngkopcadlciaa
namespace Go.Proofs.Ythngkopcadlciaa
def Bd (B : Int) (a : Iv) : Prop := R a ∧ -B ≤ a.lo ∧ a.hi ≤ B
def bdb (B : Int) (a : Iv) : Bool := ivRight a && decide (-B ≤ a.lo) && decide (a.hi ≤ B)
theorem bdb_iff (B : Int) (a : Iv) : bdb B a = true ↔ Bd B a := by
  unfold bdb Bd
  rw [Bool.and_eq_true, Bool.and_eq_true, ivRight_iff, decide_eq_true_iff, decide_eq_true_iff]
  constructor
  · rintro ⟨⟨a, b⟩, c⟩; exact ⟨a, b, c⟩
  · rintro ⟨a, b, c⟩; exact ⟨⟨a, b⟩, c⟩
def crv (n : Int) : Iv := rDivIv (rPoint 65536) (rDecIv (hDec1 n))
theorem crv_all : (List.range 951).all (fun i => bdb 4370 (crv (150 + (i : Int))) && bdb 4370 (crv (-1100 + (i : Int)))) = true := by decide +kernel
theorem crv_bd {n : Int} (h : 150 ≤ n ∧ n ≤ 1100 ∨ -1100 ≤ n ∧ n ≤ -150) : Bd 4370 (crv n) := by
  have k := List.all_eq_true.1 crv_all
  rcases h with h | h
  · have := k (n - 150).toNat (List.mem_range.2 (by omega))
    rw [Bool.and_eq_true] at this
    have e : (150 : Int) + ((n - 150).toNat : Int) = n := by omega
    rw [e] at this
    exact (bdb_iff _ _).1 this.1
  · have := k (n + 1100).toNat (List.mem_range.2 (by omega))
    rw [Bool.and_eq_true] at this
    have e : (-1100 : Int) + ((n + 1100).toNat : Int) = n := by omega
    rw [e] at this
    exact (bdb_iff _ _).1 this.2
theorem crv_0 : bdb 4370 (rDivIv (rPoint 65536) (rDecIv (hDec0 40))) = true := by decide +kernel
theorem crv_p : bdb 4370 (rPoint 0) = true := by decide +kernel
theorem curve_bd {c : Iv} {r : Dec} (hr : RadiusOk r) (hc : CurveOk c r) : Bd 4370 c := by
  rcases hc with rfl | ⟨h0, rfl⟩
  · exact (bdb_iff _ _).1 crv_p
  · rcases hr with rfl | rfl | ⟨n, hn, rfl⟩
    · cases h0
    · exact (bdb_iff _ _).1 crv_0
    · exact crv_bd hn
theorem t4_all : (List.range 401).all (fun i => bdb 1400000 (rDecIv (hDec2 (-200 + (i : Int)))) && bdb 1400000 (rDecIv (hDec1 (-200 + (i : Int))))) = true := by decide +kernel
theorem t_0 : bdb 1400000 (rDecIv ⟨0, 0⟩) = true := by decide +kernel
theorem term_bd {y : Face} (h : TermOk y) : Bd 1400000 (rDecIv y.a4) ∧ Bd 1400000 (rDecIv y.a6) := by
  have k := List.all_eq_true.1 t4_all
  constructor
  · rcases h.1 with e | ⟨n, h1, h2, e⟩
    · rw [e]; exact (bdb_iff _ _).1 t_0
    · have := k (n + 200).toNat (List.mem_range.2 (by omega))
      rw [Bool.and_eq_true] at this
      have q : (-200 : Int) + ((n + 200).toNat : Int) = n := by omega
      rw [q] at this
      rw [e]; exact (bdb_iff _ _).1 this.1
  · rcases h.2 with e | ⟨n, h1, h2, e⟩
    · rw [e]; exact (bdb_iff _ _).1 t_0
    · have := k (n + 200).toNat (List.mem_range.2 (by omega))
      rw [Bool.and_eq_true] at this
      have q : (-200 : Int) + ((n + 200).toNat : Int) = n := by omega
      rw [q] at this
      rw [e]; exact (bdb_iff _ _).1 this.2
structure SurfBd (s : Surf) : Prop where
  curve : Bd 4370 s.curve
  conic : R s.conic
  a4 : Bd 1400000 s.a4
  a6 : Bd 1400000 s.a6
theorem surf_bd {s : Surf} (h : SurfOk s) : SurfBd s := by
  obtain ⟨⟨f, ⟨hr, ht⟩, hc, e4, e6⟩, hR⟩ := h
  refine ⟨curve_bd hr hc, ?_, by rw [e4]; exact (term_bd ht).1, by rw [e6]; exact (term_bd ht).2⟩
  unfold surfRight at hR
  rw [rRight_eq, rRight_eq] at hR
  cases h1 : ivRight s.curve
  · rw [h1] at hR; cases hR
  · rw [h1, cond_true] at hR
    cases h2 : ivRight s.conic
    · rw [h2] at hR; cases hR
    · exact (ivRight_iff _).1 h2
def O0 : Iv := ⟨0, 0, false⟩
theorem p0 : ivPoint 0 = O0 := by decide +kernel
theorem R_O0 : R O0 := ⟨rfl, by decide, by decide, by decide⟩
theorem mul0r {a : Iv} (h : R a) : ivMul a O0 = O0 := by
  have h0 : R O0 := R_O0
  rw [ivMul_spec h h0]
  unfold mn mx min4 max4 dn upq O0
  simp only [Int.mul_zero]
  decide
theorem mul_bd {a b : Iv} {A B : Int} (hA : 0 ≤ A) (hB : 0 ≤ B) (ha : Bd A a) (hb : Bd B b) (hk : A * B ≤ 70368744177664) : R (ivMul a b) := by
  obtain ⟨ra, a1, a2⟩ := ha
  obtain ⟨rb, b1, b2⟩ := hb
  rw [ivMul_spec ra rb]
  have ha' := ra.2
  have hb' := rb.2
  have c : ∀ x y : Int, -A ≤ x → x ≤ A → -B ≤ y → y ≤ B → -(A * B) ≤ x * y ∧ x * y ≤ A * B := by
    intro x y h1 h2 h3 h4
    have k1 : (A - x) * (B + y) ≥ 0 := Int.mul_nonneg (by omega) (by omega)
    have k2 : (A + x) * (B - y) ≥ 0 := Int.mul_nonneg (by omega) (by omega)
    have k3 : (A - x) * (B - y) ≥ 0 := Int.mul_nonneg (by omega) (by omega)
    have k4 : (A + x) * (B + y) ≥ 0 := Int.mul_nonneg (by omega) (by omega)
    simp only [Int.sub_mul, Int.add_mul, Int.mul_sub, Int.mul_add] at k1 k2 k3 k4
    omega
  have c1 := c a.lo b.lo a1 (by omega) b1 (by omega)
  have c2 := c a.lo b.hi a1 (by omega) (by omega) b2
  have c3 := c a.hi b.lo (by omega) a2 b1 (by omega)
  have c4 := c a.hi b.hi (by omega) a2 (by omega) b2
  refine R_of.2 ?_
  unfold mn mx min4 max4 dn upq
  omega
theorem bd_of {a : Iv} (h : R a) : Bd 1073741824 a := ⟨h, h.2.1, h.2.2.2⟩
theorem sqr_bd {c : Iv} (h : Bd 4370 c) : Bd 292 (ivSqr c) := by
  obtain ⟨rc, h1, h2⟩ := h
  have hr := rc.2
  have hn : 0 ≤ near c ∧ near c ≤ far c ∧ far c ≤ 4370 := by
    have := near_far rc
    refine ⟨this.1, this.2.1, ?_⟩
    unfold far; omega
  have k1 : far c * far c ≤ 4370 * 4370 := sq_mono (by omega) hn.2.2
  have k2 : 0 ≤ near c * near c := Int.mul_nonneg hn.1 hn.1
  have k3 : near c * near c ≤ far c * far c := sq_mono hn.1 hn.2.1
  rw [ivSqr_spec rc]
  have e : -1073741824 ≤ dn (near c * near c) 65536 ∧ dn (near c * near c) 65536 ≤ upq (far c * far c) 65536 ∧ upq (far c * far c) 65536 ≤ 1073741824 := by
    unfold dn upq; omega
  rw [ivOf_in e]
  refine ⟨R_mk e.1 e.2.1 e.2.2, ?_, ?_⟩
  · show -292 ≤ dn (near c * near c) 65536
    unfold dn; omega
  · show upq (far c * far c) 65536 ≤ 292
    unfold upq; omega
theorem half_R {c : Iv} (h : Bd 4370 c) : R (ivDiv c ⟨131072, 131072, false⟩) := by
  obtain ⟨rc, h1, h2⟩ := h
  have hr := rc.2
  have rb : R (⟨131072, 131072, false⟩ : Iv) := ⟨rfl, by decide, by decide, by decide⟩
  rw [ivDiv_val rc rb (by decide)]
  refine R_of.2 ?_
  have t : ∀ x : Int, -4370 ≤ x → x ≤ 4370 → -10000 ≤ dq x 131072 false ∧ dq x 131072 false ≤ dq x 131072 true ∧ dq x 131072 true ≤ 10000 := by
    intro x h1 h2
    exact ⟨(le_dq (by decide)).2 (.inl ⟨by decide, by omega⟩), dq_le (by decide), (dq_le_iff (by decide)).2 (.inl ⟨by decide, by omega⟩)⟩
  have t1 := t c.lo h1 (by omega)
  have t2 := t c.hi (by omega) h2
  have q1 : qn c ⟨131072, 131072, false⟩ = min (min (dq c.lo 131072 false) (dq c.lo 131072 false)) (min (dq c.hi 131072 false) (dq c.hi 131072 false)) := rfl
  have q2 : qx c ⟨131072, 131072, false⟩ = max (max (dq c.lo 131072 true) (dq c.lo 131072 true)) (max (dq c.hi 131072 true) (dq c.hi 131072 true)) := rfl
  rw [q1, q2]
  generalize dq c.lo 131072 false = x1 at *
  generalize dq c.hi 131072 false = x2 at *
  generalize dq c.lo 131072 true = x3 at *
  generalize dq c.hi 131072 true = x4 at *
  omega
theorem axis_q {s : Surf} (h : SurfBd s) : ivRoot (sagRound_e0 s (ivPoint 0)) = ⟨65536, 65536, false⟩ := by
  have h1 : R (ivMul s.conic (ivSqr s.curve)) := mul_bd (by decide) (by decide) (bd_of h.conic) (sqr_bd h.curve) (by decide)
  unfold sagRound_e0
  rw [p0, mul0r h1]
  decide +kernel
theorem axis_round {s : Surf} (h : SurfBd s) : (sagRound s (ivPoint 0)).1 = O0 ∧ R (sagRound s (ivPoint 0)).2 := by
  unfold sagRound sagRound_e1
  rw [axis_q h]
  constructor
  · show ivDiv (ivMul s.curve (ivPoint 0)) _ = O0
    rw [p0, mul0r h.curve.1]
    decide +kernel
  · show R (ivDiv s.curve (ivTimes _ 2))
    rw [show ivTimes (⟨65536, 65536, false⟩ : Iv) 2 = ⟨131072, 131072, false⟩ from by decide +kernel]
    exact half_R h.curve
theorem add0l {a : Iv} (h : R a) : ivAdd O0 a = a := by
  have h0 : R O0 := R_O0
  rw [ivAdd_spec h0 h]
  show ivOf (0 + a.lo) (0 + a.hi) = a
  rw [Int.zero_add, Int.zero_add, ivOf_R h]
theorem add0r {a : Iv} (h : R a) : ivAdd a O0 = a := by rw [ivAdd_comm, add0l h]
theorem times_R {a : Iv} (k : Int) (hk : 1 ≤ k ∧ k ≤ 3) (h : Bd 1400000 a) : R (ivTimes a k) := by
  obtain ⟨ra, h1, h2⟩ := h
  have hr := ra.2
  rw [ivTimes_spec ra (by omega)]
  refine R_of.2 ?_
  rcases (by omega : k = 1 ∨ k = 2 ∨ k = 3) with rfl | rfl | rfl <;> omega
theorem hornerN_0 : ∀ (l : List Iv) (a : Iv), R a → (∀ b ∈ l, R b) → hornerN a l O0 = a
  | [], a, ha, _ => htop_R ha
  | b :: l, a, ha, hl => by
    show ivAdd (ivMul (hornerN b l O0) O0) a = a
    rw [hornerN_0 l b (hl b List.mem_cons_self) (fun c hc => hl c (List.mem_cons_of_mem _ hc)), mul0r (hl b List.mem_cons_self), add0l ha]
theorem axis_sag {s : Surf} (h : SurfBd s) : (sagOf s (ivPoint 0)).1 = ivPoint 0 ∧ R (sagOf s (ivPoint 0)).2 := by
  have hr := axis_round h
  have u : ivDiv (ivPoint 0) (ivWhole 1000) = O0 := by decide +kernel
  have e0 : sagOf_e0 s (ivPoint 0) = O0 := by
    unfold sagOf_e0
    rw [u, p0]
    refine hornerN_0 _ _ R_O0 ?_
    intro b hb
    simp only [List.mem_cons, List.not_mem_nil, or_false] at hb
    rcases hb with rfl | rfl | rfl
    · exact R_O0
    · exact h.a4.1
    · exact h.a6.1
  have e1 : sagOf_e1 s (ivPoint 0) = O0 := by
    unfold sagOf_e1
    rw [u, p0, show ivTimes O0 1 = O0 from by decide +kernel]
    refine hornerN_0 _ _ R_O0 ?_
    intro b hb
    simp only [List.mem_cons, List.not_mem_nil, or_false] at hb
    rcases hb with rfl | rfl
    · exact times_R 2 (by decide) h.a4
    · exact times_R 3 (by decide) h.a6
  have z : sagZ s (ivPoint 0) = O0 := by
    unfold sagZ
    rw [hr.1, e0]
    cases s.bent <;> decide +kernel
  have m : R (sagM s (ivPoint 0)) := by
    unfold sagM sagOf_e2
    rw [e1, show ivDiv O0 (ivWhole 1000) = O0 from by decide +kernel, add0r hr.2]
    cases s.bent <;> exact hr.2
  have hz : R (sagZ s (ivPoint 0)) := by rw [z]; exact R_O0
  rw [sagOf_yes hz m, z, p0]
  exact ⟨rfl, m⟩
end Go.Proofs.Ythngkopcadlciaa
namespace Go.Proofs.Ythngkopcadlciaa
theorem unit_part {a g : Iv} {p S : Int} (ra : R a) (h1 : a.lo ≤ p) (h2 : p ≤ a.hi) (hg : 0 ≤ g.lo) (hS : g.lo * g.lo ≤ S) (hS' : S ≤ g.hi * g.hi) (hd : R (ivDiv a g)) :
    near (ivDiv a g) * near (ivDiv a g) * S ≤ p * 65536 * (p * 65536) ∧ p * 65536 * (p * 65536) ≤ far (ivDiv a g) * far (ivDiv a g) * S := by
  obtain ⟨_, rg, h0⟩ := R_div hd
  have hgb := rg.2
  have e := ivDiv_val ra rg h0
  have hd' := hd
  rw [e] at hd'
  have b := R_of.1 hd'
  have ev : ivDiv a g = ⟨qn a g, qx a g, false⟩ := by rw [e, ivOf_in b]
  have i1 := div_hull (a := a) (b := g) (x := p) (y := g.lo) h0 h1 h2 (by omega) (by omega)
  have i2 := div_hull (a := a) (b := g) (x := p) (y := g.hi) h0 h1 h2 (by omega) (by omega)
  have j1 := (le_dq (by omega)).1 i1.1
  have j2 := (dq_le_iff (by omega)).1 i1.2
  have j3 := (le_dq (by omega)).1 i2.1
  have j4 := (dq_le_iff (by omega)).1 i2.2
  have n0 := near_far hd
  have hnear : near (ivDiv a g) = max (max (qn a g) (-(qx a g))) 0 := by rw [ev]; rfl
  have hfar : far (ivDiv a g) = max (-(qn a g)) (qx a g) := by rw [ev]; rfl
  generalize near (ivDiv a g) = n at *
  generalize far (ivDiv a g) = f at *
  generalize qn a g = lo at *
  generalize qx a g = hi at *
  have hS0 : 0 ≤ S := Int.le_trans (Int.mul_nonneg hg hg) hS
  have k1 : n * g.hi ≤ p * 65536 ∨ n * g.hi ≤ -(p * 65536) := by
    rcases (by omega : n = 0 ∨ n = lo ∨ n = -hi) with h | h | h
    · rw [h]; simp; omega
    · rw [h]; left; omega
    · rw [h, Int.neg_mul]; right; omega
  have k2 : p * 65536 ≤ f * g.lo ∧ -(p * 65536) ≤ f * g.lo := by
    have q1 : hi * g.lo ≤ f * g.lo := Int.mul_le_mul_of_nonneg_right (by omega) hg
    have q2 : -lo * g.lo ≤ f * g.lo := Int.mul_le_mul_of_nonneg_right (by omega) hg
    rw [Int.neg_mul] at q2
    omega
  have hn0 : 0 ≤ n * g.hi := Int.mul_nonneg n0.1 (by omega)
  have sq : ∀ {x y : Int}, 0 ≤ x → (x ≤ y ∨ x ≤ -y) → x * x ≤ y * y := by
    intro x y hx h
    rcases h with h | h
    · exact sq_mono hx h
    · rw [← Int.neg_mul_neg y y]; exact sq_mono hx h
  have s1 := sq hn0 k1
  have s2 : p * 65536 * (p * 65536) ≤ f * g.lo * (f * g.lo) := by
    by_cases hp : 0 ≤ p
    · exact sq_mono (by omega) k2.1
    · rw [← Int.neg_mul_neg (p * 65536) (p * 65536)]; exact sq_mono (by omega) k2.2
  have nn : 0 ≤ n * n := Int.mul_nonneg n0.1 n0.1
  have ff : 0 ≤ f * f := Int.mul_nonneg (by omega) (by omega)
  constructor
  · have := Int.mul_le_mul_of_nonneg_left hS' nn
    have e : n * n * (g.hi * g.hi) = n * g.hi * (n * g.hi) := by ac_rfl
    omega
  · have := Int.mul_le_mul_of_nonneg_left hS ff
    have e : f * f * (g.lo * g.lo) = f * g.lo * (f * g.lo) := by ac_rfl
    omega
theorem add_val {a b : Iv} (h : R (ivAdd a b)) : R a ∧ R b ∧ ivAdd a b = ⟨a.lo + b.lo, a.hi + b.hi, false⟩ := by
  obtain ⟨ra, rb⟩ := R_args2 ivAdd_out h
  refine ⟨ra, rb, ?_⟩
  rw [ivAdd_spec ra rb] at h ⊢
  exact ivOf_in (R_of.1 h)
theorem sqr_val {a : Iv} (h : R (ivSqr a)) : R a ∧ ivSqr a = ⟨dn (near a * near a) 65536, upq (far a * far a) 65536, false⟩ := by
  have ra := R_args1 ivSqr_out h
  refine ⟨ra, ?_⟩
  rw [ivSqr_spec ra] at h ⊢
  exact ivOf_in (R_of.1 h)
theorem len2_val {a : V} (h : R (vecLen2 a)) : RV a ∧ vecLen2 a = ⟨dn (near a.x * near a.x) 65536 + dn (near a.y * near a.y) 65536 + dn (near a.z * near a.z) 65536, upq (far a.x * far a.x) 65536 + upq (far a.y * far a.y) 65536 + upq (far a.z * far a.z) 65536, false⟩ := by
  unfold vecLen2 at h ⊢
  obtain ⟨h1, hz, e1⟩ := add_val h
  obtain ⟨hx, hy, e2⟩ := add_val h1
  obtain ⟨rx, ex⟩ := sqr_val hx
  obtain ⟨ry, ey⟩ := sqr_val hy
  obtain ⟨rz, ez⟩ := sqr_val hz
  refine ⟨⟨rx, ry, rz⟩, ?_⟩
  rw [e1, e2, ex, ey, ez]
theorem sq_between {a : Iv} {p : Int} (h1 : a.lo ≤ p) (h2 : p ≤ a.hi) : near a * near a ≤ p * p ∧ p * p ≤ far a * far a := by
  unfold near far
  constructor
  · by_cases hp : 0 ≤ p
    · exact sq_mono (by omega) (by omega)
    · rw [← Int.neg_mul_neg p p]; exact sq_mono (by omega) (by omega)
  · by_cases hp : 0 ≤ p
    · exact sq_mono hp (by omega)
    · rw [← Int.neg_mul_neg p p]; exact sq_mono (by omega) (by omega)
theorem unit_has_one {x : V} (hx : RV x) (hu : RV (vecUnit x)) (hs : R (vecLen2 (vecUnit x))) : ivHas (vecLen2 (vecUnit x)) 65536 = true := by
  have ux : (vecUnit x).x = ivDiv x.x (ivRoot (vecLen2 x)) := rfl
  have uy : (vecUnit x).y = ivDiv x.y (ivRoot (vecLen2 x)) := rfl
  have uz : (vecUnit x).z = ivDiv x.z (ivRoot (vecLen2 x)) := rfl
  obtain ⟨_, rg, hg0⟩ := R_div (ux ▸ hu.1)
  obtain ⟨rl, l0⟩ := R_root.1 rg
  obtain ⟨_, el⟩ := len2_val rl
  have eg := ivRoot_val rl l0
  have lb := rl.2
  have bx := hx.1.2
  have by' := hx.2.1.2
  have bz := hx.2.2.2
  have sx := sq_between (a := x.x) (p := x.x.lo) (by omega) (by omega)
  have sy := sq_between (a := x.y) (p := x.y.lo) (by omega) (by omega)
  have sz := sq_between (a := x.z) (p := x.z.lo) (by omega) (by omega)
  have d1 := dn_le (a := near x.x * near x.x) (b := 65536) (by omega)
  have d2 := dn_le (a := near x.y * near x.y) (b := 65536) (by omega)
  have d3 := dn_le (a := near x.z * near x.z) (b := 65536) (by omega)
  have d4 := upq_ge (a := far x.x * far x.x) (b := 65536) (by omega)
  have d5 := upq_ge (a := far x.y * far x.y) (b := 65536) (by omega)
  have d6 := upq_ge (a := far x.z * far x.z) (b := 65536) (by omega)
  have f1 := (rootf_is (a := (vecLen2 x).lo) l0 (by omega)).2.1
  have f2 := rootc_ge (a := (vecLen2 x).hi) (by omega) (by omega)
  have f3 := rootf_le (a := (vecLen2 x).lo) l0 (by omega)
  have lo_e : (vecLen2 x).lo = dn (near x.x * near x.x) 65536 + dn (near x.y * near x.y) 65536 + dn (near x.z * near x.z) 65536 := by rw [el]
  have hi_e : (vecLen2 x).hi = upq (far x.x * far x.x) 65536 + upq (far x.y * far x.y) 65536 + upq (far x.z * far x.z) 65536 := by rw [el]
  have glo : (ivRoot (vecLen2 x)).lo = rootf (vecLen2 x).lo := by rw [eg]
  have ghi : (ivRoot (vecLen2 x)).hi = rootc (vecLen2 x).hi := by rw [eg]
  have hgpos : 0 < (ivRoot (vecLen2 x)).lo := by
    have := rg.2
    omega
  have hS : (ivRoot (vecLen2 x)).lo * (ivRoot (vecLen2 x)).lo ≤ x.x.lo * x.x.lo + x.y.lo * x.y.lo + x.z.lo * x.z.lo := by rw [glo]; omega
  have hS' : x.x.lo * x.x.lo + x.y.lo * x.y.lo + x.z.lo * x.z.lo ≤ (ivRoot (vecLen2 x)).hi * (ivRoot (vecLen2 x)).hi := by rw [ghi]; omega
  have px := unit_part (p := x.x.lo) hx.1 (by omega) (by omega) (by omega) hS hS' (ux ▸ hu.1)
  have py := unit_part (p := x.y.lo) hx.2.1 (by omega) (by omega) (by omega) hS hS' (uy ▸ hu.2.1)
  have pz := unit_part (p := x.z.lo) hx.2.2 (by omega) (by omega) (by omega) hS hS' (uz ▸ hu.2.2)
  rw [← ux] at px
  rw [← uy] at py
  rw [← uz] at pz
  have hg2 : 0 < (ivRoot (vecLen2 x)).lo * (ivRoot (vecLen2 x)).lo := Int.mul_pos hgpos hgpos
  obtain ⟨_, eu⟩ := len2_val hs
  rw [ivHas_iff]
  refine ⟨hs, ?_⟩
  rw [eu]
  simp only
  generalize hSd : x.x.lo * x.x.lo + x.y.lo * x.y.lo + x.z.lo * x.z.lo = S at *
  have e1 : x.x.lo * 65536 * (x.x.lo * 65536) = x.x.lo * x.x.lo * 4294967296 := by
    rw [Int.mul_assoc, Int.mul_comm 65536, Int.mul_assoc, ← Int.mul_assoc]; rfl
  have e2 : x.y.lo * 65536 * (x.y.lo * 65536) = x.y.lo * x.y.lo * 4294967296 := by
    rw [Int.mul_assoc, Int.mul_comm 65536, Int.mul_assoc, ← Int.mul_assoc]; rfl
  have e3 : x.z.lo * 65536 * (x.z.lo * 65536) = x.z.lo * x.z.lo * 4294967296 := by
    rw [Int.mul_assoc, Int.mul_comm 65536, Int.mul_assoc, ← Int.mul_assoc]; rfl
  rw [e1] at px
  rw [e2] at py
  rw [e3] at pz
  generalize hnx : near (vecUnit x).x * near (vecUnit x).x = nx at *
  generalize hny : near (vecUnit x).y * near (vecUnit x).y = ny at *
  generalize hnz : near (vecUnit x).z * near (vecUnit x).z = nz at *
  generalize hfx : far (vecUnit x).x * far (vecUnit x).x = fx at *
  generalize hfy : far (vecUnit x).y * far (vecUnit x).y = fy at *
  generalize hfz : far (vecUnit x).z * far (vecUnit x).z = fz at *
  have hS0 : 0 < S := by omega
  have m1 : (nx + ny + nz) * S ≤ 4294967296 * S := by
    rw [Int.add_mul, Int.add_mul]
    omega
  have m2 : 4294967296 * S ≤ (fx + fy + fz) * S := by
    rw [Int.add_mul, Int.add_mul]
    omega
  have m1' := Int.le_of_mul_le_mul_right m1 hS0
  have m2' := Int.le_of_mul_le_mul_right m2 hS0
  have q1 := dn_le (a := nx) (b := 65536) (by omega)
  have q2 := dn_le (a := ny) (b := 65536) (by omega)
  have q3 := dn_le (a := nz) (b := 65536) (by omega)
  have q4 := upq_ge (a := fx) (b := 65536) (by omega)
  have q5 := upq_ge (a := fy) (b := 65536) (by omega)
  have q6 := upq_ge (a := fz) (b := 65536) (by omega)
  omega
end Go.Proofs.Ythngkopcadlciaa
namespace Go.Proofs.Ythngkopcadlciaa
open Go.RowKit
attribute [local irreducible] AC AR DWalk
set_option maxRecDepth 100000 in
set_option maxHeartbeats 4000000 in
theorem c_build (l : List Face) (nm : ByteArray) (bk : Dec) (gF cF g cap : Nat) (ra rg rest : List Value) (x0 x1 : Glass) (hrg : rg = x0.cells ++ x1.cells ++ rest) (h0 : 0 < l.length) (h5 : l.length ≤ 5) (hra : ∀ j s, l[j]? = some s → (ra.drop (0 + j * 14)).take 14 = Face.cells s) (hl : ∀ y ∈ l, FaceOk y) (wave : Iv) : Gives Try.prog 77 #[.agg #[.string nm, .int .i64 bk.c, .int .i64 bk.scale, .slice (some ⟨gF, 0, none⟩) l.length cF], .slice (some ⟨g, 0, none⟩) 2 cap, .agg #[.int .i64 wave.lo, .int .i64 wave.hi, .bool wave.no]] [⟨gF, ra, 127, true⟩, ⟨g, rg, 122, true⟩] BuildPost := by
 obtain ⟨f0, hf0⟩ : ∃ f0, l[0]? = some f0 := ⟨l[0], List.getElem?_eq_getElem h0⟩
 refine gives_fin Try.func77 rfl rfl rfl rfl (aQ (aL (ao 3 rfl rfl (st_box (v := .agg #[.string nm, .int .i64 bk.c, .int .i64 bk.scale, .slice (some ⟨gF, 0, none⟩) l.length cF]) (cs := [.string nm, .int .i64 bk.c, .int .i64 bk.scale, .slice (some ⟨gF, 0, none⟩) l.length cF]) rfl rfl rfl fun g0 => (ao 5 rfl rfl (st_box (v := .agg #[.int .i64 wave.lo, .int .i64 wave.hi, .bool wave.no]) (cs := [.int .i64 wave.lo, .int .i64 wave.hi, .bool wave.no]) rfl rfl rfl fun g1 => (ao 6 rfl rfl (st_new zero48 rfl fun g2 => (aA 7 (.int .i64 0) rfl rfl (aN (aQ (aQ (aL ?_)))))))))))))
 refine aG 18 [.string nm, .int .i64 bk.c, .int .i64 bk.scale, .slice (some ⟨gF, 0, none⟩) l.length cF] agg108 2 rfl rfl rfl rfl rfl (aM 19 (.slice (some ⟨g, 0, none⟩) 2 cap) rfl rfl (ao 20 rfl rfl (st_own fun hnd => st_gv (vs := [.agg #[.string nm, .int .i64 bk.c, .int .i64 bk.scale, .slice (some ⟨gF, 0, none⟩) l.length cF], .slice (some ⟨g, 0, none⟩) 2 cap]) (R := [⟨gF, ra, 127, true⟩, ⟨g, rg, 122, true⟩]) (c_rRightLens l nm bk gF cF g cap ra rg rest x0 x1 hrg (by omega) hra) Try.func105 rfl (by decide) rfl rfl rfl (has_cons 3 _ rfl rfl rfl rfl (has_cons 4 _ rfl rfl rfl rfl has_nil)) (nodup_two 3 4 rfl rfl (by decide) hnd) fun v9 N9 R9 => ?_)))
 obtain ⟨⟨bs, rfl⟩, rfl⟩ := R9
 refine ao 21 rfl rfl (st_un (v := .bool (!bs)) rfl rfl (un_not rfl) (aN ?_))
 refine bool_split (bs) (fun h1 => ?_) (fun h1 => ?_)
 ·refine ac_else' (b := !bs) (by rw [h1]; rfl) rfl (ac_skip (aQ (aL (aC 23 (c_rPoint 65536) Try.func80 ⟨rfl, by decide⟩ rfl rfl (ao 8 rfl rfl (st_new zero26 rfl fun g3 => (aS [.int .i64 ((rPoint 65536).lo), .int .i64 ((rPoint 65536).hi), .bool ((rPoint 65536).no)] agg26 0 rfl rfl rfl rfl rfl rfl (aN (aQ (aL (aF 24 fa108_2 rfl rfl (aD 25 (.slice (some ⟨gF, 0, none⟩) l.length cF) cell106 3 rfl rfl rfl rfl (ao 26 rfl rfl (st_sa (g := gF) (off := 0) (m := l.length) (c := cF) (s := 14) (i := 0) rfl Try.underlying106 (by kernel_rfl) rfl rfl (by omega) (aF 27 fa127_2 rfl rfl ?_)))))))))))))))
  refine aG 28 [.int .i64 f0.aperture.c, .int .i64 f0.aperture.scale] agg83 4 rfl rfl rfl rfl (sub_at (hra 0 f0 hf0) 3 2 (by decide)) (aC 29 (c_rDecIv f0.aperture) Try.func106 ⟨rfl, by decide⟩ rfl rfl (ao 30 rfl rfl (st_bd (us := [(1, .agg #[.int .i64 ((rDecIv f0.aperture).lo), .int .i64 ((rDecIv f0.aperture).hi), .bool ((rDecIv f0.aperture).no)])]) (v := .agg #[.slice none 0 0, .int .i64 ((rDecIv f0.aperture).lo), .int .i64 ((rDecIv f0.aperture).hi), .bool ((rDecIv f0.aperture).no)]) rfl rfl (bd48_1a _ _ _) (ao 9 rfl rfl (st_new zero48 rfl fun g4 => ?_)))))
  refine aS [.slice none 0 0, .int .i64 ((rDecIv f0.aperture).lo), .int .i64 ((rDecIv f0.aperture).hi), .bool ((rDecIv f0.aperture).no)] agg48 0 rfl rfl rfl rfl rfl rfl (aN (aQ (aL (aF 31 fa108_1 rfl rfl (aG 32 [.int .i64 bk.c, .int .i64 bk.scale] agg83 4 rfl rfl rfl rfl rfl (aC 33 (c_rDecIv bk) Try.func106 ⟨rfl, by decide⟩ rfl rfl (ao 10 rfl rfl (st_new zero26 rfl fun g5 => (aS [.int .i64 ((rDecIv bk).lo), .int .i64 ((rDecIv bk).hi), .bool ((rDecIv bk).no)] agg26 0 rfl rfl rfl rfl rfl rfl (aN (aQ (aL (aG 34 [.int .i64 ((rPoint 65536).lo), .int .i64 ((rPoint 65536).hi), .bool ((rPoint 65536).no)] agg26 2 rfl rfl rfl rfl rfl ?_)))))))))))))
  refine ao 11 rfl rfl (st_new zero26 rfl fun g6 => (aS [.int .i64 ((rPoint 65536).lo), .int .i64 ((rPoint 65536).hi), .bool ((rPoint 65536).no)] agg26 0 rfl rfl rfl rfl rfl rfl (aN (aQ (aQ (aL (aA 12 (.int .i64 0) rfl rfl (aN (ac_block ?_)))))))))
  refine ac_rounds (l.length + 1) ?_
  refine build_loop g6 g5 g4 g3 g2 g1 g0 gF g l.length cF cap nm bk (rDecIv f0.aperture) wave ra rg rest x0 x1 hrg rfl h5 ?_ l 0 [] (rDecIv bk) (rPoint 65536) 0 0 none [] [] _ (Nat.zero_add _) rfl (fun j s hj => by rw [Nat.zero_add j]; exact hra j s hj) hl rfl rfl (Row.nil _ _) (by simp) rfl rfl rfl rfl rfl rfl rfl rfl rfl rfl
  intro S at_ ix m ca aa NA xs E' hm hxs h5' hR hS f6 f7 f9
  obtain ⟨E0, rfl⟩ : ∃ E0 : Env, E' = (((E0.put (some 6) (.pointer (some ⟨g2, 0, none⟩))).put (some 7) (.int .i64 0)).put (some 9) (.pointer (some ⟨g4, 0, none⟩))) := ⟨E', by rw [put_self f6, put_self f7, put_self f9]⟩
  refine aQ (aQ (aL (aG 121 [.slice aa m ca, .int .i64 ((rDecIv f0.aperture).lo), .int .i64 ((rDecIv f0.aperture).hi), .bool ((rDecIv f0.aperture).no)] agg48 2 rfl rfl rfl rfl rfl (ao 122 rfl rfl (st_gr (R := NA) (r := .bool (rSys S (rDecIv f0.aperture))) (c_rSys (rDecIv f0.aperture) hm hxs h5' hR) Try.func110 rfl (by decide) rfl rfl rfl (has_tail _ _) (Row.nodup hR) (ao 123 rfl rfl (st_un (v := .bool (!(rSys S (rDecIv f0.aperture)))) rfl rfl (un_not rfl) (aN ?_))))))))
  refine bool_split (rSys S (rDecIv f0.aperture)) (fun h2 => ?_) (fun h2 => ?_)
  ·refine ac_else' (b := !(rSys S (rDecIv f0.aperture))) (by rw [h2]; rfl) rfl (ac_skip (aQ (aL (aG 125 [.slice aa m ca, .int .i64 ((rDecIv f0.aperture).lo), .int .i64 ((rDecIv f0.aperture).hi), .bool ((rDecIv f0.aperture).no)] agg48 2 rfl rfl rfl rfl rfl (aS [.slice aa m ca, .int .i64 ((rDecIv f0.aperture).lo), .int .i64 ((rDecIv f0.aperture).hi), .bool ((rDecIv f0.aperture).no)] agg48 4 rfl rfl rfl rfl rfl rfl (aA 7 (.int .i64 0) rfl rfl (aN (ac_ret ?_))))))))
   exact fing_ret (N := NA) ⟨S, (rDecIv f0.aperture), m, ca, aa, xs, _, rfl, surfRow_mk hm hxs h5' hR hS h2⟩ (List.sublist_append_right ([⟨g6, [.int .i64 ix.lo, .int .i64 ix.hi, .bool ix.no], 26, false⟩, ⟨g5, [.int .i64 at_.lo, .int .i64 at_.hi, .bool at_.no], 26, false⟩, ⟨g4, [.slice aa m ca, .int .i64 ((rDecIv f0.aperture).lo), .int .i64 ((rDecIv f0.aperture).hi), .bool ((rDecIv f0.aperture).no)], 48, false⟩, ⟨g3, [.int .i64 ((rPoint 65536).lo), .int .i64 ((rPoint 65536).hi), .bool ((rPoint 65536).no)], 26, false⟩, ⟨g2, [.slice aa m ca, .int .i64 ((rDecIv f0.aperture).lo), .int .i64 ((rDecIv f0.aperture).hi), .bool ((rDecIv f0.aperture).no)], 48, false⟩, ⟨g1, [.int .i64 wave.lo, .int .i64 wave.hi, .bool wave.no], 26, false⟩, ⟨g0, [.string nm, .int .i64 bk.c, .int .i64 bk.scale, .slice (some ⟨gF, 0, none⟩) l.length cF], 108, false⟩, ⟨gF, ra, 127, true⟩, ⟨g, rg, 122, true⟩] : List Box) NA) (Row.free hR) (res_ct (vs := [.slice aa m ca, .int .i64 ((rDecIv f0.aperture).lo), .int .i64 ((rDecIv f0.aperture).hi), .bool ((rDecIv f0.aperture).no)]) agg48 4 rfl rfl rfl rfl rfl rfl rfl)
  ·refine ac_then' (b := !(rSys S (rDecIv f0.aperture))) (by rw [h2]; rfl) rfl (aQ (aL (ao 124 rfl rfl (st_bd (us := []) (v := .agg #[.slice none 0 0, .int .i64 0, .int .i64 0, .bool false]) rfl rfl (bd48_ ) (aS [.slice none 0 0, .int .i64 0, .int .i64 0, .bool false] agg48 4 rfl rfl rfl rfl rfl rfl (aA 7 (.int .i64 6) rfl rfl (aN (ac_ret ?_))))))))
   exact fing_ret (N := []) ⟨[], (⟨0, 0, false⟩ : Iv), 0, 0, none, [], _, rfl, surfRow_nil⟩ (List.nil_sublist _) rfl (res_ct (vs := [.slice none 0 0, .int .i64 0, .int .i64 0, .bool false]) agg48 4 rfl rfl rfl rfl rfl rfl rfl)
 ·refine ac_then' (b := !bs) (by rw [h1]; rfl) rfl (aQ (aL (ao 22 rfl rfl (st_bd (us := []) (v := .agg #[.slice none 0 0, .int .i64 0, .int .i64 0, .bool false]) rfl rfl (bd48_ ) (aS [.slice none 0 0, .int .i64 0, .int .i64 0, .bool false] agg48 0 rfl rfl rfl rfl rfl rfl (aA 7 (.int .i64 1) rfl rfl (aN (ac_ret ?_))))))))
  exact fing_ret (N := []) ⟨[], (⟨0, 0, false⟩ : Iv), 0, 0, none, [], _, rfl, surfRow_nil⟩ (List.nil_sublist _) rfl (res_ct (vs := [.slice none 0 0, .int .i64 0, .int .i64 0, .bool false]) agg48 0 rfl rfl rfl rfl rfl rfl rfl)
end Go.Proofs.Ythngkopcadlciaa
namespace Go.Proofs.Ythngkopcadlciaa
open Go.RowKit
attribute [local irreducible] AC AR DWalk
set_option maxRecDepth 100000 in
theorem c_glasses  : Gives Try.prog 74 #[.slice none 0 0] [] (GlassPost) := by
 refine gives_fin Try.func74 rfl rfl rfl rfl (aQ (aL (aA 2 (.slice none 0 0) rfl rfl (aN (aQ (aL (aC 5 (c_hDec5 103961) Try.func97 ⟨rfl, by decide⟩ rfl rfl (aC 6 (c_hDec5 23179) Try.func97 ⟨rfl, by decide⟩ rfl rfl (aC 7 (c_hDec5 101047) Try.func97 ⟨rfl, by decide⟩ rfl rfl ?_)))))))))
 refine ao 8 rfl rfl (st_bd (us := [(0, .agg #[.int .i64 ((hDec5 103961).c), .int .i64 ((hDec5 103961).scale)]), (1, .agg #[.int .i64 ((hDec5 23179).c), .int .i64 ((hDec5 23179).scale)]), (2, .agg #[.int .i64 ((hDec5 101047).c), .int .i64 ((hDec5 101047).scale)])]) (v := .agg #[.int .i64 ((hDec5 103961).c), .int .i64 ((hDec5 103961).scale), .int .i64 ((hDec5 23179).c), .int .i64 ((hDec5 23179).scale), .int .i64 ((hDec5 101047).c), .int .i64 ((hDec5 101047).scale)]) rfl rfl (bd120_0a_1a_2a _ _ _ _ _ _) (aC 9 (c_hDec5 600) Try.func97 ⟨rfl, by decide⟩ rfl rfl (aC 10 (c_hDec5 2002) Try.func97 ⟨rfl, by decide⟩ rfl rfl (aC 11 (c_hDec4 1035607) Try.func97 ⟨rfl, by decide⟩ rfl rfl ?_))))
 refine ao 12 rfl rfl (st_bd (us := [(0, .agg #[.int .i64 ((hDec5 600).c), .int .i64 ((hDec5 600).scale)]), (1, .agg #[.int .i64 ((hDec5 2002).c), .int .i64 ((hDec5 2002).scale)]), (2, .agg #[.int .i64 ((hDec4 1035607).c), .int .i64 ((hDec4 1035607).scale)])]) (v := .agg #[.int .i64 ((hDec5 600).c), .int .i64 ((hDec5 600).scale), .int .i64 ((hDec5 2002).c), .int .i64 ((hDec5 2002).scale), .int .i64 ((hDec4 1035607).c), .int .i64 ((hDec4 1035607).scale)]) rfl rfl (bd120_0a_1a_2a _ _ _ _ _ _) ?_)
 refine ao 13 rfl rfl (st_bd (us := [(0, .string (⟨#[99, 114, 111, 119, 110]⟩ : ByteArray)), (1, .agg #[.int .i64 ((hDec5 103961).c), .int .i64 ((hDec5 103961).scale), .int .i64 ((hDec5 23179).c), .int .i64 ((hDec5 23179).scale), .int .i64 ((hDec5 101047).c), .int .i64 ((hDec5 101047).scale)]), (2, .agg #[.int .i64 ((hDec5 600).c), .int .i64 ((hDec5 600).scale), .int .i64 ((hDec5 2002).c), .int .i64 ((hDec5 2002).scale), .int .i64 ((hDec4 1035607).c), .int .i64 ((hDec4 1035607).scale)])]) (v := .agg #[.string (⟨#[99, 114, 111, 119, 110]⟩ : ByteArray), .int .i64 ((hDec5 103961).c), .int .i64 ((hDec5 103961).scale), .int .i64 ((hDec5 23179).c), .int .i64 ((hDec5 23179).scale), .int .i64 ((hDec5 101047).c), .int .i64 ((hDec5 101047).scale), .int .i64 ((hDec5 600).c), .int .i64 ((hDec5 600).scale), .int .i64 ((hDec5 2002).c), .int .i64 ((hDec5 2002).scale), .int .i64 ((hDec4 1035607).c), .int .i64 ((hDec4 1035607).scale)]) rfl rfl (bd122_0_1a_2a _ _ _ _ _ _ _ _ _ _ _ _ _) ?_)
 refine aC 14 (c_hDec5 173760) Try.func97 ⟨rfl, by decide⟩ rfl rfl (aC 15 (c_hDec5 31375) Try.func97 ⟨rfl, by decide⟩ rfl rfl (aC 16 (c_hDec5 189878) Try.func97 ⟨rfl, by decide⟩ rfl rfl ?_))
 refine ao 17 rfl rfl (st_bd (us := [(0, .agg #[.int .i64 ((hDec5 173760).c), .int .i64 ((hDec5 173760).scale)]), (1, .agg #[.int .i64 ((hDec5 31375).c), .int .i64 ((hDec5 31375).scale)]), (2, .agg #[.int .i64 ((hDec5 189878).c), .int .i64 ((hDec5 189878).scale)])]) (v := .agg #[.int .i64 ((hDec5 173760).c), .int .i64 ((hDec5 173760).scale), .int .i64 ((hDec5 31375).c), .int .i64 ((hDec5 31375).scale), .int .i64 ((hDec5 189878).c), .int .i64 ((hDec5 189878).scale)]) rfl rfl (bd120_0a_1a_2a _ _ _ _ _ _) (aC 18 (c_hDec5 1319) Try.func97 ⟨rfl, by decide⟩ rfl rfl (aC 19 (c_hDec5 6231) Try.func97 ⟨rfl, by decide⟩ rfl rfl ?_)))
 refine aC 20 (c_hDec4 1552363) Try.func97 ⟨rfl, by decide⟩ rfl rfl (ao 21 rfl rfl (st_bd (us := [(0, .agg #[.int .i64 ((hDec5 1319).c), .int .i64 ((hDec5 1319).scale)]), (1, .agg #[.int .i64 ((hDec5 6231).c), .int .i64 ((hDec5 6231).scale)]), (2, .agg #[.int .i64 ((hDec4 1552363).c), .int .i64 ((hDec4 1552363).scale)])]) (v := .agg #[.int .i64 ((hDec5 1319).c), .int .i64 ((hDec5 1319).scale), .int .i64 ((hDec5 6231).c), .int .i64 ((hDec5 6231).scale), .int .i64 ((hDec4 1552363).c), .int .i64 ((hDec4 1552363).scale)]) rfl rfl (bd120_0a_1a_2a _ _ _ _ _ _) ?_))
 refine ao 22 rfl rfl (st_bd (us := [(0, .string (⟨#[102, 108, 105, 110, 116]⟩ : ByteArray)), (1, .agg #[.int .i64 ((hDec5 173760).c), .int .i64 ((hDec5 173760).scale), .int .i64 ((hDec5 31375).c), .int .i64 ((hDec5 31375).scale), .int .i64 ((hDec5 189878).c), .int .i64 ((hDec5 189878).scale)]), (2, .agg #[.int .i64 ((hDec5 1319).c), .int .i64 ((hDec5 1319).scale), .int .i64 ((hDec5 6231).c), .int .i64 ((hDec5 6231).scale), .int .i64 ((hDec4 1552363).c), .int .i64 ((hDec4 1552363).scale)])]) (v := .agg #[.string (⟨#[102, 108, 105, 110, 116]⟩ : ByteArray), .int .i64 ((hDec5 173760).c), .int .i64 ((hDec5 173760).scale), .int .i64 ((hDec5 31375).c), .int .i64 ((hDec5 31375).scale), .int .i64 ((hDec5 189878).c), .int .i64 ((hDec5 189878).scale), .int .i64 ((hDec5 1319).c), .int .i64 ((hDec5 1319).scale), .int .i64 ((hDec5 6231).c), .int .i64 ((hDec5 6231).scale), .int .i64 ((hDec4 1552363).c), .int .i64 ((hDec4 1552363).scale)]) rfl rfl (bd122_0_1a_2a _ _ _ _ _ _ _ _ _ _ _ _ _) ?_)
 refine ao 23 rfl rfl (st_bs (us := [(0, .agg #[.string (⟨#[99, 114, 111, 119, 110]⟩ : ByteArray), .int .i64 ((hDec5 103961).c), .int .i64 ((hDec5 103961).scale), .int .i64 ((hDec5 23179).c), .int .i64 ((hDec5 23179).scale), .int .i64 ((hDec5 101047).c), .int .i64 ((hDec5 101047).scale), .int .i64 ((hDec5 600).c), .int .i64 ((hDec5 600).scale), .int .i64 ((hDec5 2002).c), .int .i64 ((hDec5 2002).scale), .int .i64 ((hDec4 1035607).c), .int .i64 ((hDec4 1035607).scale)]), (1, .agg #[.string (⟨#[102, 108, 105, 110, 116]⟩ : ByteArray), .int .i64 ((hDec5 173760).c), .int .i64 ((hDec5 173760).scale), .int .i64 ((hDec5 31375).c), .int .i64 ((hDec5 31375).scale), .int .i64 ((hDec5 189878).c), .int .i64 ((hDec5 189878).scale), .int .i64 ((hDec5 1319).c), .int .i64 ((hDec5 1319).scale), .int .i64 ((hDec5 6231).c), .int .i64 ((hDec5 6231).scale), .int .i64 ((hDec4 1552363).c), .int .i64 ((hDec4 1552363).scale)])]) (cs := [.string (⟨#[99, 114, 111, 119, 110]⟩ : ByteArray), .int .i64 ((hDec5 103961).c), .int .i64 ((hDec5 103961).scale), .int .i64 ((hDec5 23179).c), .int .i64 ((hDec5 23179).scale), .int .i64 ((hDec5 101047).c), .int .i64 ((hDec5 101047).scale), .int .i64 ((hDec5 600).c), .int .i64 ((hDec5 600).scale), .int .i64 ((hDec5 2002).c), .int .i64 ((hDec5 2002).scale), .int .i64 ((hDec4 1035607).c), .int .i64 ((hDec4 1035607).scale), .string (⟨#[102, 108, 105, 110, 116]⟩ : ByteArray), .int .i64 ((hDec5 173760).c), .int .i64 ((hDec5 173760).scale), .int .i64 ((hDec5 31375).c), .int .i64 ((hDec5 31375).scale), .int .i64 ((hDec5 189878).c), .int .i64 ((hDec5 189878).scale), .int .i64 ((hDec5 1319).c), .int .i64 ((hDec5 1319).scale), .int .i64 ((hDec5 6231).c), .int .i64 ((hDec5 6231).scale), .int .i64 ((hDec4 1552363).c), .int .i64 ((hDec4 1552363).scale)]) rfl rfl (bs104_2_0a_1a _ _ _ _ _ _ _ _ _ _ _ _ _ _ _ _ _ _ _ _ _ _ _ _ _ _) fun g0 => ?_)
 refine aA 3 (.slice (some ⟨g0, 0, none⟩) 2 2) rfl rfl (aN (aQ (aQ (aL (aA 4 (.int .i64 0) rfl rfl (aN (ac_block ?_)))))))
 refine ac_rounds 61 (ar_round (aQ (aQ (aL (aM 24 (.int .i64 0) rfl rfl (aM 25 (.slice none 0 0) rfl rfl (ao 26 rfl rfl (st_ln (a := none) (m := 0) (c := 0) rfl Try.underlying22 rfl (aB 27 (.bool false) rfl rfl rfl (bi_lss (by decide)) (aM 28 (.bool false) rfl rfl (aK 29 rfl rfl (aK 30 rfl rfl (ao 31 rfl rfl (st_pkf (v := .bool false) rfl rfl rfl (aN (ac_else rfl (ac_exit (aQ (aL (aM 79 (.slice (some ⟨g0, 0, none⟩) 2 2) rfl rfl (aA 2 (.slice (some ⟨g0, 0, none⟩) 2 2) rfl rfl (aN (ac_ret ?_)))))))))))))))))))))))
 exact fing_ret (N := [⟨g0, [.string (⟨#[99, 114, 111, 119, 110]⟩ : ByteArray), .int .i64 ((hDec5 103961).c), .int .i64 ((hDec5 103961).scale), .int .i64 ((hDec5 23179).c), .int .i64 ((hDec5 23179).scale), .int .i64 ((hDec5 101047).c), .int .i64 ((hDec5 101047).scale), .int .i64 ((hDec5 600).c), .int .i64 ((hDec5 600).scale), .int .i64 ((hDec5 2002).c), .int .i64 ((hDec5 2002).scale), .int .i64 ((hDec4 1035607).c), .int .i64 ((hDec4 1035607).scale), .string (⟨#[102, 108, 105, 110, 116]⟩ : ByteArray), .int .i64 ((hDec5 173760).c), .int .i64 ((hDec5 173760).scale), .int .i64 ((hDec5 31375).c), .int .i64 ((hDec5 31375).scale), .int .i64 ((hDec5 189878).c), .int .i64 ((hDec5 189878).scale), .int .i64 ((hDec5 1319).c), .int .i64 ((hDec5 1319).scale), .int .i64 ((hDec5 6231).c), .int .i64 ((hDec5 6231).scale), .int .i64 ((hDec4 1552363).c), .int .i64 ((hDec4 1552363).scale)], 122, false⟩]) ⟨_, _, (⟨(⟨#[99, 114, 111, 119, 110]⟩ : ByteArray), (⟨(hDec5 103961), (hDec5 23179), (hDec5 101047)⟩ : D3), (⟨(hDec5 600), (hDec5 2002), (hDec4 1035607)⟩ : D3)⟩ : Glass), (⟨(⟨#[102, 108, 105, 110, 116]⟩ : ByteArray), (⟨(hDec5 173760), (hDec5 31375), (hDec5 189878)⟩ : D3), (⟨(hDec5 1319), (hDec5 6231), (hDec4 1552363)⟩ : D3)⟩ : Glass), [], rfl, rfl⟩ (List.Sublist.cons_cons _ (List.nil_sublist _)) rfl (res_tmp rfl rfl)
end Go.Proofs.Ythngkopcadlciaa
