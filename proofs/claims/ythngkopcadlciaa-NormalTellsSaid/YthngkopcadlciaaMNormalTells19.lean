import Derived.Test.YthngkopcadlciaaMNormalTells18
import Derived.Test.YthngkopcadlciaaMNormalTells10
import Derived.Test.YthngkopcadlciaaMNormalTells11
import Derived.Test.YthngkopcadlciaaMNormalTells1
import Derived.WalkKit
import Derived.ProofKit
import Derived.OpenShut
import Derived.ShutString
import Derived.ChangeOld
import Derived.Below
import Derived.SizedLaws
import Derived.ChangeSlices
import Derived.Deep.Slices
import Derived.DataShut
set_option linter.unusedVariables false
set_option linter.unusedSimpArgs false
namespace Go.Proofs.Ythngkopcadlciaa
open Go.RowKit
attribute [local irreducible] AC AR DWalk
def norTellsR (pv : V) (s : Surf) : Bool := (bif decide ((normalOf s pv) = (rNormal s pv)) then true else false)
set_option maxRecDepth 100000 in
set_option maxHeartbeats 4000000 in
theorem c_norTellsR (gP : Nat) (pv : V) (gS M cS k : Nat) (ra : List Value) (s : Surf) (hk : k < M) (hs : (ra.drop (0 + k * 23)).take 23 = surfC s) {Q : Exit → Env → List Box → Prop} {E : Env} {c : Code} {j : Nat} (hc : Try.f12.body.bind loopOf = some c)  (q16 : E 16 = .bool false) (q18 : E 18 = .pointer (some ⟨gP, 0, none⟩)) (q33 : E 33 = .slice (some ⟨gS, 0, none⟩) M cS) (q34 : E 34 = .int .i64 (M : Int)) (q35 : E 35 = .int .i64 (k : Int)) (HG : (norTellsR pv s) = true) (K : ∀ E' : Env, E' 16 = .bool false → E' 18 = .pointer (some ⟨gP, 0, none⟩) → E' 33 = .slice (some ⟨gS, 0, none⟩) M cS → E' 34 = .int .i64 (M : Int) → E' 35 = .int .i64 (w64 ((k : Int) + 1)) → ARounds Try.prog 48 c Q j E' [⟨gP, [.int .i64 pv.x.lo, .int .i64 pv.x.hi, .bool pv.x.no, .int .i64 pv.y.lo, .int .i64 pv.y.hi, .bool pv.y.no, .int .i64 pv.z.lo, .int .i64 pv.z.hi, .bool pv.z.no], 57, false⟩, ⟨gS, ra, 41, false⟩]) : ARounds Try.prog 48 c Q (j + 1) E [⟨gP, [.int .i64 pv.x.lo, .int .i64 pv.x.hi, .bool pv.x.no, .int .i64 pv.y.lo, .int .i64 pv.y.hi, .bool pv.y.no, .int .i64 pv.z.lo, .int .i64 pv.z.hi, .bool pv.z.no], 57, false⟩, ⟨gS, ra, 41, false⟩] := by
 rw [show Try.f12.body.bind loopOf = some _ from rfl] at hc
 cases hc
 obtain ⟨E0, rfl⟩ : ∃ E0 : Env, E = (((((E0.put (some 16) (.bool false)).put (some 18) (.pointer (some ⟨gP, 0, none⟩))).put (some 33) (.slice (some ⟨gS, 0, none⟩) M cS)).put (some 34) (.int .i64 (M : Int))).put (some 35) (.int .i64 (k : Int))) := ⟨E, by rw [put_self q16, put_self q18, put_self q33, put_self q34, put_self q35]⟩
 refine ar_round (aQ (aL (aB 36 (.bool (decide ((k : Int) < (M : Int)))) rfl rfl rfl (bi_lss rfl) (aN (aQ (ac_then' (b := decide ((k : Int) < (M : Int))) (decide_eq_true (show ((k : Int) < (M : Int)) by omega)) rfl (ac_skip (aQ (ac_block (aQ (aL (ao 37 rfl rfl (st_sa (g := gS) (off := 0) (m := M) (c := cS) (s := 23) (i := k) rfl Try.underlying46 (by kernel_rfl) rfl rfl hk ?_)))))))))))))
 refine aG 38 [.bool s.stop, .bool s.bent, .int .i64 s.curve.lo, .int .i64 s.curve.hi, .bool s.curve.no, .int .i64 s.conic.lo, .int .i64 s.conic.hi, .bool s.conic.no, .int .i64 s.a4.lo, .int .i64 s.a4.hi, .bool s.a4.no, .int .i64 s.a6.lo, .int .i64 s.a6.hi, .bool s.a6.no, .int .i64 s.at_.lo, .int .i64 s.at_.hi, .bool s.at_.no, .int .i64 s.open2.lo, .int .i64 s.open2.hi, .bool s.open2.no, .int .i64 s.ratio.lo, .int .i64 s.ratio.hi, .bool s.ratio.no] agg41 1 rfl rfl rfl rfl hs (ao 20 rfl rfl (st_new zero41 rfl fun g0 => ?_))
 refine aS [.bool s.stop, .bool s.bent, .int .i64 s.curve.lo, .int .i64 s.curve.hi, .bool s.curve.no, .int .i64 s.conic.lo, .int .i64 s.conic.hi, .bool s.conic.no, .int .i64 s.a4.lo, .int .i64 s.a4.hi, .bool s.a4.no, .int .i64 s.a6.lo, .int .i64 s.a6.hi, .bool s.a6.no, .int .i64 s.at_.lo, .int .i64 s.at_.hi, .bool s.at_.no, .int .i64 s.open2.lo, .int .i64 s.open2.hi, .bool s.open2.no, .int .i64 s.ratio.lo, .int .i64 s.ratio.hi, .bool s.ratio.no] agg41 0 rfl rfl rfl rfl rfl rfl (aN (aQ ?_))
 refine ac_draw0 (id := 8) [0, 1, 2, 3, 4, 5, 6] [] _ (by kernel_rfl) follows rfl  (dw_op (d := some 39) _ rfl rfl rfl (st_lda (vs := [.bool s.stop, .bool s.bent, .int .i64 s.curve.lo, .int .i64 s.curve.hi, .bool s.curve.no, .int .i64 s.conic.lo, .int .i64 s.conic.hi, .bool s.conic.no, .int .i64 s.a4.lo, .int .i64 s.a4.hi, .bool s.a4.no, .int .i64 s.a6.lo, .int .i64 s.a6.hi, .bool s.a6.no, .int .i64 s.at_.lo, .int .i64 s.at_.hi, .bool s.at_.no, .int .i64 s.open2.lo, .int .i64 s.open2.hi, .bool s.open2.no, .int .i64 s.ratio.lo, .int .i64 s.ratio.hi, .bool s.ratio.no]) agg41 0 rfl rfl rfl rfl rfl rfl ⟨rfl, rfl⟩) ?_)
 refine dw_op (d := some 40) _ rfl rfl rfl (st_lda (vs := [.int .i64 pv.x.lo, .int .i64 pv.x.hi, .bool pv.x.no, .int .i64 pv.y.lo, .int .i64 pv.y.hi, .bool pv.y.no, .int .i64 pv.z.lo, .int .i64 pv.z.hi, .bool pv.z.no]) agg57 1 rfl rfl rfl rfl rfl rfl ⟨rfl, rfl⟩) (dw_op (d := some 41) _ rfl rfl rfl (st_cf (c_normalOf s pv) Try.func43 rfl (by decide) rfl rfl rfl ⟨rfl, rfl⟩) ?_)
 refine dw_op (d := some 42) _ rfl rfl rfl (st_lda (vs := [.bool s.stop, .bool s.bent, .int .i64 s.curve.lo, .int .i64 s.curve.hi, .bool s.curve.no, .int .i64 s.conic.lo, .int .i64 s.conic.hi, .bool s.conic.no, .int .i64 s.a4.lo, .int .i64 s.a4.hi, .bool s.a4.no, .int .i64 s.a6.lo, .int .i64 s.a6.hi, .bool s.a6.no, .int .i64 s.at_.lo, .int .i64 s.at_.hi, .bool s.at_.no, .int .i64 s.open2.lo, .int .i64 s.open2.hi, .bool s.open2.no, .int .i64 s.ratio.lo, .int .i64 s.ratio.hi, .bool s.ratio.no]) agg41 0 rfl rfl rfl rfl rfl rfl ⟨rfl, rfl⟩) ?_
 refine dw_op (d := some 43) _ rfl rfl rfl (st_lda (vs := [.int .i64 pv.x.lo, .int .i64 pv.x.hi, .bool pv.x.no, .int .i64 pv.y.lo, .int .i64 pv.y.hi, .bool pv.y.no, .int .i64 pv.z.lo, .int .i64 pv.z.hi, .bool pv.z.no]) agg57 1 rfl rfl rfl rfl rfl rfl ⟨rfl, rfl⟩) (dw_op (d := some 44) _ rfl rfl rfl (st_cf (c_rNormal s pv) Try.func48 rfl (by decide) rfl rfl rfl ⟨rfl, rfl⟩) (dw_op (d := some 45) _ rfl rfl rfl (st_bi (r := .bool (!(decide ((normalOf s pv) = (rNormal s pv))))) rfl rfl rfl (bneq_57 (normalOf s pv) (rNormal s pv) rfl) ⟨rfl, rfl⟩) (dw_nil (aN ?_))))
 refine bool_split (decide ((normalOf s pv) = (rNormal s pv))) (fun h1 => ?_) (fun h1 => nomatch (show false = true from (show (norTellsR pv s) = _ from (eF h1 rfl)).symm.trans HG))
 refine ac_else' (b := !(decide ((normalOf s pv) = (rNormal s pv)))) (by rw [h1]; rfl) rfl (ac_skip (aL (aB 46 (.int .i64 (w64 ((k : Int) + 1))) rfl rfl rfl (bi_add rfl) (aM 35 (.int .i64 (w64 ((k : Int) + 1))) rfl rfl (aN ?_)))))
 exact ar_dropR (List.Sublist.cons _ (List.Sublist.refl _)) (K _ rfl rfl rfl rfl rfl)
set_option maxRecDepth 100000 in
theorem norTellsR_leave (gP : Nat) (pv : V) (M cS : Nat) (aa : Option Addr) (NA : List Box) {Q : Exit → Env → List Box → Prop} {E : Env} {c : Code} {j : Nat} (hc : Try.f12.body.bind loopOf = some c) (q16 : E 16 = .bool false) (q18 : E 18 = .pointer (some ⟨gP, 0, none⟩)) (q33 : E 33 = .slice aa M cS) (q34 : E 34 = .int .i64 (M : Int)) (q35 : E 35 = .int .i64 (M : Int)) (K : ∀ E' : Env, Q (.exit 0) E' ([⟨gP, [.int .i64 pv.x.lo, .int .i64 pv.x.hi, .bool pv.x.no, .int .i64 pv.y.lo, .int .i64 pv.y.hi, .bool pv.y.no, .int .i64 pv.z.lo, .int .i64 pv.z.hi, .bool pv.z.no], 57, false⟩] ++ NA)) : ARounds Try.prog 48 c Q (j + 1) E ([⟨gP, [.int .i64 pv.x.lo, .int .i64 pv.x.hi, .bool pv.x.no, .int .i64 pv.y.lo, .int .i64 pv.y.hi, .bool pv.y.no, .int .i64 pv.z.lo, .int .i64 pv.z.hi, .bool pv.z.no], 57, false⟩] ++ NA) := by
 rw [show Try.f12.body.bind loopOf = some _ from rfl] at hc
 cases hc
 obtain ⟨E0, rfl⟩ : ∃ E0 : Env, E = (((((E0.put (some 16) (.bool false)).put (some 18) (.pointer (some ⟨gP, 0, none⟩))).put (some 33) (.slice aa M cS)).put (some 34) (.int .i64 (M : Int))).put (some 35) (.int .i64 (M : Int))) := ⟨E, by rw [put_self q16, put_self q18, put_self q33, put_self q34, put_self q35]⟩
 refine ar_round (aQ (aL (aB 36 (.bool (decide ((M : Int) < (M : Int)))) rfl rfl rfl (bi_lss rfl) (aN (aQ (ac_else' (b := decide ((M : Int) < (M : Int))) (decide_eq_false (show ¬ ((M : Int) < (M : Int)) by omega)) rfl (ac_exit ?_)))))))
 exact K _
theorem norTellsR_loop (gP : Nat) (pv : V) (gS M cS : Nat) (ra : List Value) {Q : Exit → Env → List Box → Prop} {c : Code} (hc : Try.f12.body.bind loopOf = some c) (hM : M ≤ 1000000) (K : ∀ E' : Env, Q (.exit 0) E' [⟨gP, [.int .i64 pv.x.lo, .int .i64 pv.x.hi, .bool pv.x.no, .int .i64 pv.y.lo, .int .i64 pv.y.hi, .bool pv.y.no, .int .i64 pv.z.lo, .int .i64 pv.z.hi, .bool pv.z.no], 57, false⟩, ⟨gS, ra, 41, false⟩]) :
  ∀ (l : List Surf) (k : Nat) (E : Env), k + l.length = M → (∀ j s, l[j]? = some s → (ra.drop (0 + (k + j) * 23)).take 23 = surfC s) → l.all (norTellsR pv) = true → E 16 = .bool false → E 18 = .pointer (some ⟨gP, 0, none⟩) → E 33 = .slice (some ⟨gS, 0, none⟩) M cS → E 34 = .int .i64 (M : Int) → E 35 = .int .i64 (k : Int) → ARounds Try.prog 48 c Q (l.length + 1) E [⟨gP, [.int .i64 pv.x.lo, .int .i64 pv.x.hi, .bool pv.x.no, .int .i64 pv.y.lo, .int .i64 pv.y.hi, .bool pv.y.no, .int .i64 pv.z.lo, .int .i64 pv.z.hi, .bool pv.z.no], 57, false⟩, ⟨gS, ra, 41, false⟩] := by
 intro l
 induction l with
 | nil =>
  intro k E hk hra hall q16 q18 q33 q34 q35
  obtain rfl : k = M := by simpa using hk
  exact norTellsR_leave gP pv k cS (some ⟨gS, 0, none⟩) [⟨gS, ra, 41, false⟩] hc q16 q18 q33 q34 q35 K
 | cons s l ih =>
  intro k E hk hra hall q16 q18 q33 q34 q35
  simp only [List.all_cons, Bool.and_eq_true] at hall
  have hkM : k < M := by simp only [List.length_cons] at hk; omega
  refine c_norTellsR gP pv gS M cS k ra s hkM (by have := hra 0 s rfl; simpa using this) hc q16 q18 q33 q34 q35 hall.1 ?_
  intro E' f16 f18 f33 f34 f35
  exact ih (k + 1) E' (by simp only [List.length_cons] at hk; omega) (fun j s hj => by have := hra (j + 1) s (by simpa using hj); rw [show k + 1 + j = k + (j + 1) from by omega]; exact this) hall.2 f16 f18 f33 f34 (by rw [f35, w64_id (by omega)]; rfl)
theorem norTellsR_rows (gP : Nat) (pv : V) (M cS : Nat) (aa : Option Addr) (NA : List Box) (S : List Surf) (xs : List Value) {Q : Exit → Env → List Box → Prop} {c : Code} (hc : Try.f12.body.bind loopOf = some c) (K : ∀ E' : Env, Q (.exit 0) E' ([⟨gP, [.int .i64 pv.x.lo, .int .i64 pv.x.hi, .bool pv.x.no, .int .i64 pv.y.lo, .int .i64 pv.y.hi, .bool pv.y.no, .int .i64 pv.z.lo, .int .i64 pv.z.hi, .bool pv.z.no], 57, false⟩] ++ NA)) (E : Env) (hS : SurfRow S M cS aa xs NA) (hall : S.all (norTellsR pv) = true) : E 16 = .bool false → E 18 = .pointer (some ⟨gP, 0, none⟩) → E 33 = .slice aa M cS → E 34 = .int .i64 (M : Int) → E 35 = .int .i64 0 → ARounds Try.prog 48 c Q (S.length + 1) E ([⟨gP, [.int .i64 pv.x.lo, .int .i64 pv.x.hi, .bool pv.x.no, .int .i64 pv.y.lo, .int .i64 pv.y.hi, .bool pv.y.no, .int .i64 pv.z.lo, .int .i64 pv.z.hi, .bool pv.z.no], 57, false⟩] ++ NA) := by
 intro q16 q18 q33 q34 q35
 obtain ⟨hm, hxs, h5, hR, _⟩ := hS
 rcases hR with ⟨rfl, _, hv, rfl⟩ | ⟨g, cap, rest, hv, rfl, _⟩
 ·exact norTellsR_leave gP pv 0 cS aa [] hc q16 q18 q33 q34 q35 K
 ·simp only [Value.slice.injEq] at hv
  obtain ⟨rfl, _, rfl⟩ := hv
  subst hm
  exact norTellsR_loop gP pv g S.length cS (xs ++ rest) hc (by omega) K S 0 E (Nat.zero_add _) (fun j s hj => by rw [Nat.zero_add j, hxs]; exact flatU_at S rest j s hj) hall q16 q18 q33 q34 q35
set_option maxRecDepth 100000 in
set_option maxHeartbeats 4000000 in
theorem c_lawNormalTells (back : Int) (x_ : Int) (y_ : Int) (z_ : Int) (w_ : Int) (raw : A6) (odd : Bool) (l : List RawFace) (gl off ty cl : Nat) (cs : List Value) (hra : ∀ j s, l[j]? = some s → (cs.drop (off + j * 6)).take 6 = RawFace.cells s) (hk : known16 = true) (hall0 : ∀ S : List Surf, (∀ s ∈ S, SurfOk s) → S.all (norTellsR (hV raw)) = true) (hall1 : ∀ S : List Surf, (∀ s ∈ S, SurfOk s) → S.all (norTellsR (place16 x_ y_ z_ w_)) = true) : Gives Try.prog 12 #[.int .i64 back, .slice (some ⟨gl, off, none⟩) l.length cl, .int .i64 x_, .int .i64 y_, .int .i64 z_, .int .i64 w_, .agg #[.int .i64 raw.a0, .int .i64 raw.a1, .int .i64 raw.a2, .int .i64 raw.a3, .int .i64 raw.a4, .int .i64 raw.a5], .bool odd] [⟨gl, cs, ty, true⟩] (fun u N => u = .bool true ∧ N = []) := by
 refine gives_fin Try.func12 rfl rfl rfl rfl (aQ (aL (ao 14 rfl rfl (st_box (v := .agg #[.int .i64 raw.a0, .int .i64 raw.a1, .int .i64 raw.a2, .int .i64 raw.a3, .int .i64 raw.a4, .int .i64 raw.a5]) (cs := [.int .i64 raw.a0, .int .i64 raw.a1, .int .i64 raw.a2, .int .i64 raw.a3, .int .i64 raw.a4, .int .i64 raw.a5]) rfl rfl rfl fun g0 => (aA 16 (.bool false) rfl rfl (aN (aQ (aL (aM 21 (.int .i64 back) rfl rfl (aM 22 (.slice (some ⟨gl, off, none⟩) l.length cl) rfl rfl ?_))))))))))
 refine ao 23 rfl rfl (st_gvZ (vs := [.int .i64 back, .slice (some ⟨gl, off, none⟩) l.length cl, .slice none 0 0, .int .i64 4, .bool false]) (R := [⟨gl, cs, ty, true⟩]) (c_system back l gl off ty cl cs hra) Try.func36 rfl (by decide) rfl rfl rfl (has_cons 1 _ rfl rfl rfl rfl has_nil) (by simp) (fun v H H' hp h => ar_perm hp h) fun v9 Nu9 R9 => ?_)
 obtain ⟨SB, opB, mB, cu9, au9, xB, rfl, Ru9⟩ := R9
 refine ao 17 rfl rfl (st_new zero48 rfl fun g1 => (aS [.slice au9 mB cu9, .int .i64 opB.lo, .int .i64 opB.hi, .bool opB.no] agg48 0 rfl rfl rfl rfl rfl rfl (aN (aQ (aL (aM 24 (.int .i64 x_) rfl rfl (aM 25 (.int .i64 y_) rfl rfl (aM 26 (.int .i64 z_) rfl rfl (aM 27 (.int .i64 w_) rfl rfl (aC 28 (c_place16 x_ y_ z_ w_) Try.func46 ⟨rfl, by decide⟩ rfl rfl (ao 18 rfl rfl (st_new zero57 rfl fun g2 => ?_))))))))))))
 refine aS [.int .i64 (((place16 x_ y_ z_ w_).x).lo), .int .i64 (((place16 x_ y_ z_ w_).x).hi), .bool (((place16 x_ y_ z_ w_).x).no), .int .i64 (((place16 x_ y_ z_ w_).y).lo), .int .i64 (((place16 x_ y_ z_ w_).y).hi), .bool (((place16 x_ y_ z_ w_).y).no), .int .i64 (((place16 x_ y_ z_ w_).z).lo), .int .i64 (((place16 x_ y_ z_ w_).z).hi), .bool (((place16 x_ y_ z_ w_).z).no)] agg57 0 rfl rfl rfl rfl rfl rfl (aN (aQ (aQ (aL (aM 29 (.bool odd) rfl rfl (aN ?_))))))
 refine bool_split (odd) (fun h1 => ?_) (fun h1 => ?_)
 ·refine ac_then' (b := odd) h1 rfl (aL (aG 30 [.int .i64 raw.a0, .int .i64 raw.a1, .int .i64 raw.a2, .int .i64 raw.a3, .int .i64 raw.a4, .int .i64 raw.a5] agg60 2 rfl rfl rfl rfl rfl (aC 31 (c_hV raw) Try.func47 ⟨rfl, by decide⟩ rfl rfl (aS [.int .i64 (((hV raw).x).lo), .int .i64 (((hV raw).x).hi), .bool (((hV raw).x).no), .int .i64 (((hV raw).y).lo), .int .i64 (((hV raw).y).hi), .bool (((hV raw).y).no), .int .i64 (((hV raw).z).lo), .int .i64 (((hV raw).z).hi), .bool (((hV raw).z).no)] agg57 0 rfl rfl rfl rfl rfl rfl (aN (aQ (aQ (aL (aF 32 fa48_0 rfl rfl (aD 33 (.slice au9 mB cu9) cell46 1 rfl rfl rfl rfl ?_))))))))))
  refine ao 34 rfl rfl (st_ln (a := au9) (m := mB) (c := cu9) rfl Try.underlying46 rfl (aM 35 (.int .i64 0) rfl rfl (aN (ac_block ?_))))
  refine ac_drop (H := [⟨g2, [.int .i64 (((hV raw).x).lo), .int .i64 (((hV raw).x).hi), .bool (((hV raw).x).no), .int .i64 (((hV raw).y).lo), .int .i64 (((hV raw).y).hi), .bool (((hV raw).y).no), .int .i64 (((hV raw).z).lo), .int .i64 (((hV raw).z).hi), .bool (((hV raw).z).no)], 57, false⟩] ++ Nu9) (List.Sublist.cons_cons _ (List.Sublist.cons _ (List.Sublist.cons _ (List.Sublist.cons _ (List.Sublist.refl _))))) ?_
  refine ac_rounds (SB.length + 1) ?_
  refine norTellsR_rows g2 (hV raw) mB cu9 au9 Nu9 SB xB rfl ?_ _ Ru9 (hall0 SB Ru9.2.2.2.2) rfl rfl rfl rfl rfl
  intro E'
  refine aQ (aL (aC 47 c_known16 Try.func45 ⟨rfl, by decide⟩ rfl rfl (aA 16 (.bool known16) rfl rfl (aN (ac_ret ?_)))))
  exact fing_v (fin_ret (res_tmp rfl rfl)) (congrArg Value.bool hk)
 ·refine ac_else' (b := odd) h1 rfl (ac_skip (aQ (aQ (aL (aF 32 fa48_0 rfl rfl (aD 33 (.slice au9 mB cu9) cell46 1 rfl rfl rfl rfl (ao 34 rfl rfl (st_ln (a := au9) (m := mB) (c := cu9) rfl Try.underlying46 rfl (aM 35 (.int .i64 0) rfl rfl (aN (ac_block ?_)))))))))))
  refine ac_drop (H := [⟨g2, [.int .i64 (((place16 x_ y_ z_ w_).x).lo), .int .i64 (((place16 x_ y_ z_ w_).x).hi), .bool (((place16 x_ y_ z_ w_).x).no), .int .i64 (((place16 x_ y_ z_ w_).y).lo), .int .i64 (((place16 x_ y_ z_ w_).y).hi), .bool (((place16 x_ y_ z_ w_).y).no), .int .i64 (((place16 x_ y_ z_ w_).z).lo), .int .i64 (((place16 x_ y_ z_ w_).z).hi), .bool (((place16 x_ y_ z_ w_).z).no)], 57, false⟩] ++ Nu9) (List.Sublist.cons_cons _ (List.Sublist.cons _ (List.Sublist.cons _ (List.Sublist.cons _ (List.Sublist.refl _))))) ?_
  refine ac_rounds (SB.length + 1) ?_
  refine norTellsR_rows g2 (place16 x_ y_ z_ w_) mB cu9 au9 Nu9 SB xB rfl ?_ _ Ru9 (hall1 SB Ru9.2.2.2.2) rfl rfl rfl rfl rfl
  intro E'
  refine aQ (aL (aC 47 c_known16 Try.func45 ⟨rfl, by decide⟩ rfl rfl (aA 16 (.bool known16) rfl rfl (aN (ac_ret ?_)))))
  exact fing_v (fin_ret (res_tmp rfl rfl)) (congrArg Value.bool hk)
set_option maxRecDepth 100000 in
set_option maxHeartbeats 4000000 in
theorem c_lawNormalTells0 (back : Int) (x_ : Int) (y_ : Int) (z_ : Int) (w_ : Int) (raw : A6) (odd : Bool) (a : Option Addr) (cl : Nat) (hk : known16 = true) (hall0 : ∀ S : List Surf, (∀ s ∈ S, SurfOk s) → S.all (norTellsR (hV raw)) = true) (hall1 : ∀ S : List Surf, (∀ s ∈ S, SurfOk s) → S.all (norTellsR (place16 x_ y_ z_ w_)) = true) : Gives Try.prog 12 #[.int .i64 back, .slice a 0 cl, .int .i64 x_, .int .i64 y_, .int .i64 z_, .int .i64 w_, .agg #[.int .i64 raw.a0, .int .i64 raw.a1, .int .i64 raw.a2, .int .i64 raw.a3, .int .i64 raw.a4, .int .i64 raw.a5], .bool odd] [] (fun u N => u = .bool true ∧ N = []) := by
 refine gives_fin Try.func12 rfl rfl rfl rfl (aQ (aL (ao 14 rfl rfl (st_box (v := .agg #[.int .i64 raw.a0, .int .i64 raw.a1, .int .i64 raw.a2, .int .i64 raw.a3, .int .i64 raw.a4, .int .i64 raw.a5]) (cs := [.int .i64 raw.a0, .int .i64 raw.a1, .int .i64 raw.a2, .int .i64 raw.a3, .int .i64 raw.a4, .int .i64 raw.a5]) rfl rfl rfl fun g0 => (aA 16 (.bool false) rfl rfl (aN (aQ (aL (aM 21 (.int .i64 back) rfl rfl (aM 22 (.slice a 0 cl) rfl rfl ?_))))))))))
 refine ao 23 rfl rfl (st_gvZ (vs := [.int .i64 back, .slice a 0 cl, .slice none 0 0, .int .i64 4, .bool false]) (R := []) (c_system0 back a cl) Try.func36 rfl (by decide) rfl rfl rfl has_nil (by simp) (fun v H H' hp h => ar_perm hp h) fun v9 Nu9 R9 => ?_)
 obtain ⟨SB, opB, mB, cu9, au9, xB, rfl, Ru9⟩ := R9
 refine ao 17 rfl rfl (st_new zero48 rfl fun g1 => (aS [.slice au9 mB cu9, .int .i64 opB.lo, .int .i64 opB.hi, .bool opB.no] agg48 0 rfl rfl rfl rfl rfl rfl (aN (aQ (aL (aM 24 (.int .i64 x_) rfl rfl (aM 25 (.int .i64 y_) rfl rfl (aM 26 (.int .i64 z_) rfl rfl (aM 27 (.int .i64 w_) rfl rfl (aC 28 (c_place16 x_ y_ z_ w_) Try.func46 ⟨rfl, by decide⟩ rfl rfl (ao 18 rfl rfl (st_new zero57 rfl fun g2 => ?_))))))))))))
 refine aS [.int .i64 (((place16 x_ y_ z_ w_).x).lo), .int .i64 (((place16 x_ y_ z_ w_).x).hi), .bool (((place16 x_ y_ z_ w_).x).no), .int .i64 (((place16 x_ y_ z_ w_).y).lo), .int .i64 (((place16 x_ y_ z_ w_).y).hi), .bool (((place16 x_ y_ z_ w_).y).no), .int .i64 (((place16 x_ y_ z_ w_).z).lo), .int .i64 (((place16 x_ y_ z_ w_).z).hi), .bool (((place16 x_ y_ z_ w_).z).no)] agg57 0 rfl rfl rfl rfl rfl rfl (aN (aQ (aQ (aL (aM 29 (.bool odd) rfl rfl (aN ?_))))))
 refine bool_split (odd) (fun h1 => ?_) (fun h1 => ?_)
 ·refine ac_then' (b := odd) h1 rfl (aL (aG 30 [.int .i64 raw.a0, .int .i64 raw.a1, .int .i64 raw.a2, .int .i64 raw.a3, .int .i64 raw.a4, .int .i64 raw.a5] agg60 2 rfl rfl rfl rfl rfl (aC 31 (c_hV raw) Try.func47 ⟨rfl, by decide⟩ rfl rfl (aS [.int .i64 (((hV raw).x).lo), .int .i64 (((hV raw).x).hi), .bool (((hV raw).x).no), .int .i64 (((hV raw).y).lo), .int .i64 (((hV raw).y).hi), .bool (((hV raw).y).no), .int .i64 (((hV raw).z).lo), .int .i64 (((hV raw).z).hi), .bool (((hV raw).z).no)] agg57 0 rfl rfl rfl rfl rfl rfl (aN (aQ (aQ (aL (aF 32 fa48_0 rfl rfl (aD 33 (.slice au9 mB cu9) cell46 1 rfl rfl rfl rfl ?_))))))))))
  refine ao 34 rfl rfl (st_ln (a := au9) (m := mB) (c := cu9) rfl Try.underlying46 rfl (aM 35 (.int .i64 0) rfl rfl (aN (ac_block ?_))))
  refine ac_drop (H := [⟨g2, [.int .i64 (((hV raw).x).lo), .int .i64 (((hV raw).x).hi), .bool (((hV raw).x).no), .int .i64 (((hV raw).y).lo), .int .i64 (((hV raw).y).hi), .bool (((hV raw).y).no), .int .i64 (((hV raw).z).lo), .int .i64 (((hV raw).z).hi), .bool (((hV raw).z).no)], 57, false⟩] ++ Nu9) (List.Sublist.cons_cons _ (List.Sublist.cons _ (List.Sublist.cons _ (List.Sublist.refl _)))) ?_
  refine ac_rounds (SB.length + 1) ?_
  refine norTellsR_rows g2 (hV raw) mB cu9 au9 Nu9 SB xB rfl ?_ _ Ru9 (hall0 SB Ru9.2.2.2.2) rfl rfl rfl rfl rfl
  intro E'
  refine aQ (aL (aC 47 c_known16 Try.func45 ⟨rfl, by decide⟩ rfl rfl (aA 16 (.bool known16) rfl rfl (aN (ac_ret ?_)))))
  exact fing_v (fin_ret (res_tmp rfl rfl)) (congrArg Value.bool hk)
 ·refine ac_else' (b := odd) h1 rfl (ac_skip (aQ (aQ (aL (aF 32 fa48_0 rfl rfl (aD 33 (.slice au9 mB cu9) cell46 1 rfl rfl rfl rfl (ao 34 rfl rfl (st_ln (a := au9) (m := mB) (c := cu9) rfl Try.underlying46 rfl (aM 35 (.int .i64 0) rfl rfl (aN (ac_block ?_)))))))))))
  refine ac_drop (H := [⟨g2, [.int .i64 (((place16 x_ y_ z_ w_).x).lo), .int .i64 (((place16 x_ y_ z_ w_).x).hi), .bool (((place16 x_ y_ z_ w_).x).no), .int .i64 (((place16 x_ y_ z_ w_).y).lo), .int .i64 (((place16 x_ y_ z_ w_).y).hi), .bool (((place16 x_ y_ z_ w_).y).no), .int .i64 (((place16 x_ y_ z_ w_).z).lo), .int .i64 (((place16 x_ y_ z_ w_).z).hi), .bool (((place16 x_ y_ z_ w_).z).no)], 57, false⟩] ++ Nu9) (List.Sublist.cons_cons _ (List.Sublist.cons _ (List.Sublist.cons _ (List.Sublist.refl _)))) ?_
  refine ac_rounds (SB.length + 1) ?_
  refine norTellsR_rows g2 (place16 x_ y_ z_ w_) mB cu9 au9 Nu9 SB xB rfl ?_ _ Ru9 (hall1 SB Ru9.2.2.2.2) rfl rfl rfl rfl rfl
  intro E'
  refine aQ (aL (aC 47 c_known16 Try.func45 ⟨rfl, by decide⟩ rfl rfl (aA 16 (.bool known16) rfl rfl (aN (ac_ret ?_)))))
  exact fing_v (fin_ret (res_tmp rfl rfl)) (congrArg Value.bool hk)
end Go.Proofs.Ythngkopcadlciaa
namespace Go.Proofs.Ythngkopcadlciaa
theorem known16_true : known16 = true := by decide +kernel
theorem rNormal_eq (s : Surf) (p : V) : rNormal s p = normalOf s p := by
  unfold rNormal rNormal_e2 rNormal_e3 rNormal_e0 rNormal_e1 normalOf normalOf_e2 normalOf_e3 normalOf_e0 normalOf_e1 vecOf
  simp only [sag_eq, rVecUnit_eq, rAdd_eq, rSub_eq, rNeg_eq, rTimes_eq, rSqr_eq, rMulIv_eq, rPoint_eq]
theorem norTellsR_true (p : V) (s : Surf) : norTellsR p s = true := by
  unfold norTellsR
  rw [rNormal_eq, decide_eq_true rfl]
  rfl
end Go.Proofs.Ythngkopcadlciaa
namespace Go.Proofs.Ythngkopcadlciaa
open Go.ChangeShapes Go.WideShapes Go.ChangeAt Go.RowKit
theorem heap_of_cell {w : World} {b o : Nat} {v : Value} (h : w.cell? ⟨b, o, none⟩ = some v) : ∃ (cs : List Value) (ty : TypeId) (fr : Nat × Nat), w.heap[b]? = some (.cells cs.toArray ty fr) ∧ cs[o]? = some v := by
  unfold World.cell? at h
  cases hb : w.heap[b]? with
  | none => simp [hb] at h
  | some x =>
    cases x <;> simp [hb] at h
    case cells c t fr => exact ⟨c.toList, t, fr, by simp, by simpa using h⟩
end Go.Proofs.Ythngkopcadlciaa
namespace Go.Proofs.Ythngkopcadlciaa
open Go.ChangeShapes Go.WideShapes Go.ChangeAt Go.RowKit Go.Deep
def Raws (W : World) (a : Option Addr) (len : Nat) : Prop := len = 0 ∨ ∃ b off, a = some ⟨b, off, none⟩ ∧ ∃ (cs : List Value) (ty : TypeId) (fr : Nat × Nat), W.heap[b]? = some (.cells cs.toArray ty fr) ∧ ∃ zs : Nat → RawFace, ∀ j, j < len → (cs.drop (off + j * 6)).take 6 = (zs j).cells
section
variable {H : Type} {enc : TypeId × Value → H} {base : Nat} {held : Bool}
theorem rf_cells : Try.prog.cellsOf 125 = 6 := by kernel_rfl
theorem rf_int : Try.prog.cellsOf 3 = 1 := by kernel_rfl
set_option maxRecDepth 100000 in
theorem rf_down {w : World} {spare : Nat → Bool} {n : Nat} {cs : List Value} {x : DataW H × List MemPlace} (hf : DataW.trod enc Try.prog w base spare held n 125 cs = some x) :
    ∃ l : RawFace, cs = l.cells ∧ x = (.agg [.lit (.int .i64 l.kind), .lit (.int .i64 l.r), .lit (.int .i64 l.a), .lit (.int .i64 l.t), .lit (.int .i64 l.g), .lit (.int .i64 l.k)], []) ∧
      (Lit.int .i64 l.kind).wf = true ∧ (Lit.int .i64 l.r).wf = true ∧ (Lit.int .i64 l.a).wf = true ∧ (Lit.int .i64 l.t).wf = true ∧ (Lit.int .i64 l.g).wf = true ∧ (Lit.int .i64 l.k).wf = true := by
  obtain ⟨xs, m, _, hx, hcl, hlen, hg⟩ := DataW.trod_struct Try.underlying125 hf
  match cs, hcl.trans rf_cells with
  | [c0, c1, c2, c3, c4, c5], _ =>
    match xs, hlen with
    | [y0, y1, y2, y3, y4, y5], _ =>
      have k : ∀ (c : Value) (y : DataW H × List MemPlace), DataW.trod enc Try.prog w base spare held m 3 [c] = some y → ∃ n, c = .int .i64 n ∧ y = (.lit (.int .i64 n), []) ∧ (Lit.int .i64 n).wf = true := by
        intro c y hy
        obtain ⟨n, h1, h2, h3⟩ := DataW.trod_int Try.underlying3 hy
        simp at h1
        exact ⟨n, h1, h2, h3⟩
      obtain ⟨n0, rfl, rfl, w0⟩ := k c0 y0 (by simpa [Value.cells, rf_int] using hg 0 _ rfl)
      obtain ⟨n1, rfl, rfl, w1⟩ := k c1 y1 (by simpa [Value.cells, rf_int] using hg 1 _ rfl)
      obtain ⟨n2, rfl, rfl, w2⟩ := k c2 y2 (by simpa [Value.cells, rf_int] using hg 2 _ rfl)
      obtain ⟨n3, rfl, rfl, w3⟩ := k c3 y3 (by simpa [Value.cells, rf_int] using hg 3 _ rfl)
      obtain ⟨n4, rfl, rfl, w4⟩ := k c4 y4 (by simpa [Value.cells, rf_int] using hg 4 _ rfl)
      obtain ⟨n5, rfl, rfl, w5⟩ := k c5 y5 (by simpa [Value.cells, rf_int] using hg 5 _ rfl)
      exact ⟨⟨n0, n1, n2, n3, n4, n5⟩, rfl, by rw [hx]; rfl, w0, w1, w2, w3, w4, w5⟩
set_option maxRecDepth 100000 in
theorem rf_up {w : World} {spare : Nat → Bool} (l : RawFace) (w0 : (Lit.int .i64 l.kind).wf = true) (w1 : (Lit.int .i64 l.r).wf = true) (w2 : (Lit.int .i64 l.a).wf = true) (w3 : (Lit.int .i64 l.t).wf = true) (w4 : (Lit.int .i64 l.g).wf = true) (w5 : (Lit.int .i64 l.k).wf = true) :
    DataW.trod enc Try.prog w base spare held 2 125 l.cells = some (.agg [.lit (.int .i64 l.kind), .lit (.int .i64 l.r), .lit (.int .i64 l.a), .lit (.int .i64 l.t), .lit (.int .i64 l.g), .lit (.int .i64 l.k)], []) := by
  simp [DataW.trod, RawFace.cells, Try.underlying125, Try.underlying3, rf_int, rf_cells, w0, w1, w2, w3, w4, w5]
set_option maxRecDepth 100000 in
theorem open_rf {W : World} {b0 : Nat} {r : Reach} {v : Value} {d : DataW H} {ps : List MemPlace}
    (hval : Value.okWide Try.prog W r b0 45 v) (h : DataW.Trod enc Try.prog W base (fun _ => true) held 45 v d ps) :
    ∃ a len cap, v = .slice a len cap ∧ Raws W a len ∧ ∀ W', Below W.heap.size W W' → DataW.Trod enc Try.prog W' base (fun b => decide (b < W.heap.size)) held 45 v d ps := by
  obtain ⟨a0, len, cap, rfl⟩ := okWide_slice Try.underlying45 hval
  obtain ⟨fuel, hf⟩ := h
  refine ⟨a0, len, cap, rfl, ?_⟩
  rcases open_slice Try.underlying45 hf with ⟨hcs, hx⟩ | ⟨a, len', cap', m, n, D, Pl, hcs, hb, hl, hm, hmm, hx, hel⟩
  · simp [Value.cells] at hcs
    obtain ⟨rfl, rfl, rfl⟩ := hcs
    simp only [Prod.mk.injEq] at hx
    obtain ⟨rfl, rfl⟩ := hx
    exact ⟨.inl rfl, fun W' _ => shut_slice_nil Try.underlying45⟩
  · simp [Value.cells] at hcs
    obtain ⟨rfl, rfl, rfl⟩ := hcs
    simp only [Prod.mk.injEq] at hx
    obtain ⟨rfl, rfl⟩ := hx
    simp only [if_true] at hmm
    replace hmm := hmm.symm
    subst hmm
    rw [rf_cells] at hel
    refine ⟨?_, fun W' bel => ?_⟩
    · by_cases h0 : len = 0
      · exact .inl h0
      · right
        obtain ⟨b, off, spot⟩ := a
        have hspot : spot = none := by
          obtain ⟨cs', hc, ht⟩ := hel 0 (by omega)
          obtain ⟨l, rfl, _⟩ := rf_down ht
          have := (World.cells?_some hc).2.2 0 (by decide)
          have h2 : W.cell? (((⟨b, off, spot⟩ : Addr).add (0 * 6)).add 0) = some (.int .i64 l.kind) := this
          simpa [Addr.add] using World.cell?_spot h2
        subst hspot
        have key : ∀ j, j < len → ∃ l : RawFace, ∀ (i : Nat) (u : Value), l.cells[i]? = some u → W.cell? ⟨b, off + j * 6 + i, none⟩ = some u := by
          intro j hj
          obtain ⟨cs', hc, ht⟩ := hel j (by omega)
          obtain ⟨l, rfl, _⟩ := rf_down ht
          refine ⟨l, fun i u hi => ?_⟩
          have hlt : i < 6 := (List.getElem?_eq_some_iff.1 hi).1
          have := (World.cells?_some hc).2.2 i hlt
          rw [← hi, ← this, Go.WideShapes.add_plain, Go.WideShapes.add_plain]
        obtain ⟨zs, hzs⟩ : ∃ zs : Nat → RawFace, ∀ j, j < len → ∀ (i : Nat) (u : Value), (zs j).cells[i]? = some u → W.cell? ⟨b, off + j * 6 + i, none⟩ = some u := by
          classical
          exact ⟨fun j => if hj : j < len then Classical.choose (key j hj) else ⟨0, 0, 0, 0, 0, 0⟩, fun j hj => by
            simp only [dif_pos hj]
            exact Classical.choose_spec (key j hj)⟩
        obtain ⟨cs, ty, fr, hh, _⟩ := heap_of_cell (hzs 0 (by omega) 0 _ rfl)
        refine ⟨b, off, rfl, cs, ty, fr, hh, zs, fun j hj => ?_⟩
        have hc : ∀ (i : Nat) (u : Value), (zs j).cells[i]? = some u → cs[off + j * 6 + i]? = some u := by
          intro i u hi
          obtain ⟨cs', ty', fr', hh', hv⟩ := heap_of_cell (hzs j hj i u hi)
          rw [hh] at hh'
          simp only [Option.some.injEq, Obj.cells.injEq] at hh'
          have : cs = cs' := by
            have := congrArg Array.toList hh'.1
            simpa using this
          rw [this]
          exact hv
        apply List.ext_getElem?
        intro i
        by_cases hi : i < 6
        · rw [List.getElem?_take, if_pos hi, List.getElem?_drop]
          have h6 : ∃ u, (zs j).cells[i]? = some u := ⟨_, List.getElem?_eq_getElem (show i < (zs j).cells.length from hi)⟩
          obtain ⟨u, hu⟩ := h6
          rw [hu, hc i u hu]
        · rw [List.getElem?_take, if_neg hi, List.getElem?_eq_none (show (zs j).cells.length ≤ i by show 6 ≤ i; omega)]
    · have each : ∀ i, i < cap → ∃ cs n, W'.cells? base (a.add (i * Try.prog.cellsOf 125)) (Try.prog.cellsOf 125) = some cs ∧ DataW.trod enc Try.prog W' base (fun b => decide (b < W.heap.size)) held n 125 cs = some (D i, Pl i) := by
        intro i hi
        rw [rf_cells]
        obtain ⟨cs', hc, ht⟩ := hel i hi
        obtain ⟨l, rfl, hx, w0, w1, w2, w3, w4, w5⟩ := rf_down ht
        refine ⟨_, 2, ?_, by rw [hx]; exact rf_up l w0 w1 w2 w3 w4 w5⟩
        have hlt := World.cells?_block hc (by decide)
        obtain ⟨h1, h2, h3⟩ := World.cells?_some hc
        refine World.cells?_of_each h1 h2 fun j hj => ?_
        rw [← h3 j hj]
        have hbl : ((a.add (i * 6)).add j).block = (a.add (i * 6)).block := by
          simp only [Addr.add]
          split <;> rfl
        exact bel.cell (by rw [hbl]; exact hlt)
      have hsz : 0 < cap → a.block < W.heap.size := by
        intro h0
        obtain ⟨cs', hc, _⟩ := hel 0 h0
        have := World.cells?_block hc (by decide)
        simpa [Addr.add] using this
      by_cases h0 : 0 < cap
      · exact shut_slice_whole Try.underlying45 hb hl hm (decide_eq_true (hsz h0)) D Pl each
      · obtain rfl : cap = 0 := by omega
        by_cases hs : a.block < W.heap.size
        · exact shut_slice_whole Try.underlying45 hb hl hm (decide_eq_true hs) D Pl each
        · obtain rfl : len = 0 := by omega
          have := shut_slice (enc := enc) (P := Try.prog) (w := W') (base := base) (spare := fun b => decide (b < W.heap.size)) (held := held) (a := a) (len := 0) (cap := 0) Try.underlying45 hb hl hm (decide_eq_false hs) D Pl (fun i hi => absurd hi (Nat.not_lt_zero _))
          simpa using this
end
end Go.Proofs.Ythngkopcadlciaa
namespace Go.Proofs.Ythngkopcadlciaa
open Go.RowKit
theorem normalTells_calls (W : World) (back : Int) (a : Option Addr) (len cap : Nat) (x_ y_ z_ w_ : Int) (raw : A6) (odd : Bool) (h : Raws W a len) : Calls Try.prog 12 #[.int .i64 back, .slice a len cap, .int .i64 x_, .int .i64 y_, .int .i64 z_, .int .i64 w_, .agg #[.int .i64 raw.a0, .int .i64 raw.a1, .int .i64 raw.a2, .int .i64 raw.a3, .int .i64 raw.a4, .int .i64 raw.a5], .bool odd] W fun e W' => e = .returned (.bool true) ∧ Below W.heap.size W W' := by
  rcases h with rfl | ⟨b, off, rfl, cs, ty, fr, hh, zs, hz⟩
  · refine (c_lawNormalTells0 back x_ y_ z_ w_ raw odd a cap known16_true (fun S _ => List.all_eq_true.2 fun s _ => norTellsR_true _ s) (fun S _ => List.all_eq_true.2 fun s _ => norTellsR_true _ s) W (by simp [At]) (by simp)).mono ?_
    rintro e w' ⟨v', N, he, ⟨rfl, _⟩, _, _, hb⟩
    exact ⟨he, hb⟩
  · have hl : ((List.range len).map zs).length = len := by simp
    have hA : At [⟨b, cs, ty, true⟩] W := by
      intro c hc
      obtain rfl := List.mem_singleton.1 hc
      exact ⟨fr, hh⟩
    have hg := c_lawNormalTells back x_ y_ z_ w_ raw odd ((List.range len).map zs) b off ty cap cs (fun j z hj => by
      have hlt : j < len := by
        have := (List.getElem?_eq_some_iff.1 hj).1
        rw [hl] at this
        exact this
      have := hz j hlt
      rw [this]
      simp only [List.getElem?_map, List.getElem?_range hlt, Option.map_some, Option.some.injEq] at hj
      rw [hj]) known16_true (fun S _ => List.all_eq_true.2 fun s _ => norTellsR_true _ s) (fun S _ => List.all_eq_true.2 fun s _ => norTellsR_true _ s)
    rw [hl] at hg
    refine (hg W hA (by simp)).mono ?_
    rintro e w' ⟨v', N, he, ⟨rfl, _⟩, _, _, hb⟩
    exact ⟨he, hb⟩
end Go.Proofs.Ythngkopcadlciaa
namespace Go.Proofs.Ythngkopcadlciaa
open Go.ChangeShapes Go.WideShapes Go.ChangeAt Go.RowKit
@[reducible] def A6.v (l : A6) : Value := .agg #[.int .i64 l.a0, .int .i64 l.a1, .int .i64 l.a2, .int .i64 l.a3, .int .i64 l.a4, .int .i64 l.a5]
section
variable {H : Type} {enc : TypeId × Value → H} {P : Program} {w : World} {base : Nat} {spare : Nat → Bool} {held : Bool}
theorem open_a6 {r : Reach} {b0 : Nat} {t e : TypeId} {v : Value} {d : DataW H} {p : List MemPlace} (ht : P.underlying t = some (.array 6 e)) (he : P.underlying e = some (.int .i64)) (hc : P.cellsOf e = 1) (hC : P.cellsOf t = 6)
    (hv : Value.okWide P w r b0 t v) (h : DataW.Trod enc P w base spare held t v d p) :
    ∃ l : A6, v = l.v ∧ d = .agg [.lit (.int .i64 l.a0), .lit (.int .i64 l.a1), .lit (.int .i64 l.a2), .lit (.int .i64 l.a3), .lit (.int .i64 l.a4), .lit (.int .i64 l.a5)] ∧ p = [] ∧
      (Lit.int .i64 l.a0).wf = true ∧ (Lit.int .i64 l.a1).wf = true ∧ (Lit.int .i64 l.a2).wf = true ∧ (Lit.int .i64 l.a3).wf = true ∧ (Lit.int .i64 l.a4).wf = true ∧ (Lit.int .i64 l.a5).wf = true := by
  simp only [Value.okWide, ht] at hv
  obtain ⟨cs, rfl, hsz, _⟩ := hv
  obtain ⟨l⟩ := cs
  match l, hsz.trans hC with
  | [c0, c1, c2, c3, c4, c5], _ =>
    obtain ⟨fuel, hf⟩ := h
    obtain ⟨xs, m, _, hx, _, hlen, hg⟩ := DataW.trod_array ht hf
    match xs, hlen with
    | [y0, y1, y2, y3, y4, y5], _ =>
      have k : ∀ (i : Nat) (c : Value) (y : DataW H × List MemPlace), DataW.trod enc P w base spare held m e [c] = some y → ∃ n, c = .int .i64 n ∧ y = (.lit (.int .i64 n), []) ∧ (Lit.int .i64 n).wf = true := by
        intro i c y hy
        obtain ⟨n, h1, h2, h3⟩ := DataW.trod_int he hy
        simp at h1
        exact ⟨n, h1, h2, h3⟩
      obtain ⟨n0, rfl, rfl, w0⟩ := k 0 c0 y0 (by simpa [Value.cells, hc] using hg 0 (by omega))
      obtain ⟨n1, rfl, rfl, w1⟩ := k 1 c1 y1 (by simpa [Value.cells, hc] using hg 1 (by omega))
      obtain ⟨n2, rfl, rfl, w2⟩ := k 2 c2 y2 (by simpa [Value.cells, hc] using hg 2 (by omega))
      obtain ⟨n3, rfl, rfl, w3⟩ := k 3 c3 y3 (by simpa [Value.cells, hc] using hg 3 (by omega))
      obtain ⟨n4, rfl, rfl, w4⟩ := k 4 c4 y4 (by simpa [Value.cells, hc] using hg 4 (by omega))
      obtain ⟨n5, rfl, rfl, w5⟩ := k 5 c5 y5 (by simpa [Value.cells, hc] using hg 5 (by omega))
      simp only [Prod.mk.injEq] at hx
      exact ⟨⟨n0, n1, n2, n3, n4, n5⟩, rfl, by simpa using hx.1, by simpa using hx.2, w0, w1, w2, w3, w4, w5⟩
theorem shut_a6 {t e : TypeId} (ht : P.underlying t = some (.array 6 e)) (he : P.underlying e = some (.int .i64)) (hc : P.cellsOf e = 1) (hC : P.cellsOf t = 6) (l : A6)
    (w0 : (Lit.int .i64 l.a0).wf = true) (w1 : (Lit.int .i64 l.a1).wf = true) (w2 : (Lit.int .i64 l.a2).wf = true) (w3 : (Lit.int .i64 l.a3).wf = true) (w4 : (Lit.int .i64 l.a4).wf = true) (w5 : (Lit.int .i64 l.a5).wf = true) :
    DataW.Trod enc P w base spare held t l.v (.agg [.lit (.int .i64 l.a0), .lit (.int .i64 l.a1), .lit (.int .i64 l.a2), .lit (.int .i64 l.a3), .lit (.int .i64 l.a4), .lit (.int .i64 l.a5)]) [] :=
  ⟨2, by simp [DataW.trod, Value.cells, ht, he, hc, hC, w0, w1, w2, w3, w4, w5, List.range, List.range.loop]⟩
end
end Go.Proofs.Ythngkopcadlciaa
