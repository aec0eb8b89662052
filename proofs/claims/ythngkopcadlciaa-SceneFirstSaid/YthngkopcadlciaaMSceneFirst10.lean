import Derived.Test.YthngkopcadlciaaSceneR
import Derived.Test.YthngkopcadlciaaMSceneFirst8
import Derived.Test.YthngkopcadlciaaMSceneFirst4
import Derived.Test.YthngkopcadlciaaMSceneFirst7
set_option linter.unusedVariables false
set_option linter.unusedSimpArgs false
namespace Go.Proofs.Ythngkopcadlciaa
open Go.RowKit
def hSceneN : Nat → List Int → List Shape
  | 0, _ => []
  | n + 1, z0 :: z1 :: z2 :: z3 :: z4 :: l => sceneShape z0 z1 z2 z3 z4 :: hSceneN n l
  | _ + 1, _ => []
def hScene (l : List Int) : List Shape := hSceneN 5 l
theorem hSceneN_short (n : Nat) (l : List Int) (h : l.length ≤ 4) : hSceneN n l = [] := by
  cases n with
  | zero => rfl
  | succ n =>
    match l, h with
    | [], _ => rfl
    | [_], _ => rfl
    | [_, _], _ => rfl
    | [_, _, _], _ => rfl
    | [_, _, _, _], _ => rfl
theorem five (l : List Int) (h : ¬ l.length ≤ 4) : ∃ z0 z1 z2 z3 z4 l', l = z0 :: z1 :: z2 :: z3 :: z4 :: l' := by
  cases l with
  | nil => simp at h
  | cons z0 l => cases l with
    | nil => simp at h
    | cons z1 l => cases l with
      | nil => simp at h
      | cons z2 l => cases l with
        | nil => simp at h
        | cons z3 l => cases l with
          | nil => simp at h
          | cons z4 l => exact ⟨z0, z1, z2, z3, z4, l, rfl⟩
theorem scene_loop (b off N cap ty : Nat) (cs : List Value) {Q : Exit → Env → List Box → Prop} {c : Code} (hc : Try.f55.body.bind loopOf = some c) :
    ∀ (q : Nat) (l : List Int) (i m ca : Nat) (aa : Option Addr) (NA : List Box) (xs : List Value) (E : Env), i + 5 * q = 25 → i + l.length = N → m ≤ i → (∀ j z, l[j]? = some z → cs[off + (i + j)]? = some (.int .i64 z)) → Row 86 12 m xs (.slice aa m ca) NA → (m = 0 → aa = none ∧ ca = 0 ∧ NA = []) →
      E 0 = .slice (some ⟨b, off, none⟩) N cap → E 3 = .slice aa m ca → E 4 = .int .i64 (i : Int) →
      (∀ (E' : Env) (m' ca' : Nat) (aa' : Option Addr) (NA' : List Box) (xs' : List Value), m' = m + (hSceneN q l).length → xs' = xs ++ flatS (hSceneN q l) → Row 86 12 m' xs' (.slice aa' m' ca') NA' → (m' = 0 → aa' = none ∧ ca' = 0 ∧ NA' = []) → E' 3 = .slice aa' m' ca' → Q (.exit 0) E' ([⟨b, cs, ty, true⟩] ++ NA')) →
      ARounds Try.prog 93 c Q (q + 1) E ([⟨b, cs, ty, true⟩] ++ NA) := by
  intro q
  induction q with
  | zero =>
    intro l i m ca aa NA xs E hi hl hm hcs hR h0 q0 q3 q4 K
    have K' : ∀ E' : Env, E' 3 = .slice aa m ca → Q (.exit 0) E' ([⟨b, cs, ty, true⟩] ++ NA) := fun E' f3 => K E' m ca aa NA xs rfl (by simp [hSceneN, flatS]) hR h0 f3
    by_cases h : N ≤ i + 4
    · exact scene_leave1 b off N cap ty i m ca aa (some ⟨b, off, none⟩) _ hc (by omega) h q0 q3 q4 K'
    · exact scene_leave2 b off N cap ty i m ca aa (some ⟨b, off, none⟩) _ hc (by omega) (by omega) (by omega) q0 q3 q4 K'
  | succ q ih =>
    intro l i m ca aa NA xs E hi hl hm hcs hR h0 q0 q3 q4 K
    by_cases h : l.length ≤ 4
    · have e := hSceneN_short (q + 1) l h
      have K' : ∀ E' : Env, E' 3 = .slice aa m ca → Q (.exit 0) E' ([⟨b, cs, ty, true⟩] ++ NA) := fun E' f3 => K E' m ca aa NA xs (by rw [e]; rfl) (by rw [e]; simp [flatS]) hR h0 f3
      exact scene_leave1 b off N cap ty i m ca aa (some ⟨b, off, none⟩) _ hc (by omega) (by omega) q0 q3 q4 K'
    · obtain ⟨z0, z1, z2, z3, z4, l, rfl⟩ := five l h
      · simp only [List.length_cons] at hl
        refine scene_round b off N cap ty i m ca aa cs xs NA z0 z1 z2 z3 z4 hc (by omega) (by omega) (by omega) hR (by simpa using hcs 0 z0 rfl) (by simpa using hcs 1 z1 rfl) (by simpa using hcs 2 z2 rfl) (by simpa using hcs 3 z3 rfl) (by simpa using hcs 4 z4 rfl) q0 q3 q4 ?_
        intro s hs E' ca' aa' NA' hR' f0 f3 f4
        subst hs
        refine ih l (i + 5) (m + 1) ca' aa' NA' (xs ++ shapeC (sceneShape z0 z1 z2 z3 z4)) E' (by omega) (by omega) (by omega) (fun j z hj => by have := hcs (j + 5) z (by simpa using hj); rw [show i + 5 + j = i + (j + 5) from by omega]; exact this) hR' (fun h => by omega) f0 f3 f4 ?_
        intro E2 m2 ca2 aa2 NA2 xs2 hm2 hx2 hR2 h02 g3
        exact K E2 m2 ca2 aa2 NA2 xs2 (by rw [hm2]; simp only [hSceneN, List.length_cons]; omega) (by rw [hx2]; simp [hSceneN, flatS]) hR2 h02 g3
end Go.Proofs.Ythngkopcadlciaa
namespace Go.Proofs.Ythngkopcadlciaa
open Go.RowKit
attribute [local irreducible] AC AR DWalk
theorem scene_fin (l : List Int) (b : Nat) (cs : List Value) (ty : Nat) {m ca : Nat} {aa : Option Addr} {xs : List Value} {NA : List Box} {E : Env} {fn : Func} {n : Nat} (hm : m = (hSceneN 5 l).length) (hxs : xs = flatS (hSceneN 5 l)) (hR : Row 86 12 m xs (.slice aa m ca) NA) (h0 : m = 0 → aa = none ∧ ca = 0 ∧ NA = []) (hr : Res Try.prog fn n E ([⟨b, cs, ty, true⟩] ++ NA) (.slice aa m ca)) :
    FinG Try.prog fn n (fun u N => (hScene l = [] ∧ u = .slice none 0 0 ∧ N = []) ∨ (hScene l ≠ [] ∧ ∃ g cap rest, u = .slice (some ⟨g, 0, none⟩) (hScene l).length cap ∧ N = [⟨g, flatS (hScene l) ++ rest, 86, false⟩] ∧ (hScene l).length ≤ cap)) .ret E ([⟨b, cs, ty, true⟩] ++ NA) := by
  refine ⟨.inl rfl, .slice aa m ca, NA, ?_, List.sublist_append_right _ _, ?_, hr⟩
  · by_cases hz : m = 0
    · obtain ⟨rfl, rfl, rfl⟩ := h0 hz
      exact .inl ⟨List.eq_nil_of_length_eq_zero (by rw [← hm.symm.trans hz]; rfl), by rw [hz], rfl⟩
    · obtain ⟨g, cap, rest, h1, h2, _, _, hc, _⟩ := hR.pos (by omega)
      refine .inr ⟨fun e => hz (by rw [hm]; rw [show hSceneN 5 l = [] from e]; rfl), g, cap, rest, by rw [h1, hm]; rfl, by rw [h2, hxs]; rfl, by rw [← show m = (hScene l).length from hm]; exact hc⟩
  · rcases hR with ⟨_, _, _, rfl⟩ | ⟨g, cap, rest, _, rfl, _⟩ <;> rfl
set_option maxRecDepth 100000 in
theorem c_hScene (l : List Int) (b off cap ty : Nat) (cs : List Value) (hcs : ∀ j z, l[j]? = some z → cs[off + j]? = some (.int .i64 z)) : Gives Try.prog 55 #[.slice (some ⟨b, off, none⟩) l.length cap] [⟨b, cs, ty, true⟩] (fun u N => (hScene l = [] ∧ u = .slice none 0 0 ∧ N = []) ∨ (hScene l ≠ [] ∧ ∃ g cap rest, u = .slice (some ⟨g, 0, none⟩) (hScene l).length cap ∧ N = [⟨g, flatS (hScene l) ++ rest, 86, false⟩] ∧ (hScene l).length ≤ cap)) := by
  have hcs' : ∀ j z, l[j]? = some z → cs[off + (0 + j)]? = some (.int .i64 z) := fun j z h => by rw [Nat.zero_add]; exact hcs j z h
  refine gives_fin Try.func55 rfl rfl rfl rfl ?_
  refine ac_seq ?_
  refine ac_region_lit ?_
  refine ao 2 rfl rfl (st_assign (v := .slice none 0 0) rfl rfl ?_)
  refine ar_nil ?_
  refine ac_seq ?_
  refine ac_region_lit ?_
  refine ao 3 rfl rfl (st_assign (v := .slice none 0 0) rfl rfl ?_)
  refine ar_nil ?_
  refine ac_seq ?_
  refine ac_seq ?_
  refine ac_region_lit ?_
  refine ao 4 rfl rfl (st_assign (v := .int .i64 0) rfl rfl ?_)
  refine ar_nil ?_
  refine ac_block ?_
  refine ac_rounds 6 ?_
  refine scene_loop b off l.length cap ty cs rfl 5 l 0 0 0 none [] [] _ rfl (by omega) (Nat.le_refl _) hcs' (Row.nil _ _) (fun _ => ⟨rfl, rfl, rfl⟩) rfl rfl rfl ?_
  intro E' m ca aa NA xs hm hxs hR h0 f3
  rw [Nat.zero_add] at hm
  rw [List.nil_append] at hxs
  obtain ⟨E0, rfl⟩ : ∃ E0 : Env, E' = (E0.put (some 3) (.slice aa m ca)) := ⟨E', by rw [put_self f3]⟩
  refine ac_seq ?_
  refine ac_region_lit ?_
  refine ao 92 rfl rfl (st_move (v := .slice aa m ca) rfl rfl ?_)
  refine ao 2 rfl rfl (st_assign (v := .slice aa m ca) rfl rfl ?_)
  refine ar_nil ?_
  refine ac_ret ?_
  exact scene_fin l b cs ty hm hxs hR h0 (res_tmp rfl rfl)
set_option maxRecDepth 100000 in
theorem c_hScene0 (a : Option Addr) (cap : Nat) : Gets Try.prog 55 #[.slice a 0 cap] (.slice none 0 0) := by
  refine gets_fin Try.func55 rfl rfl rfl ?_
  refine ac_seq ?_
  refine ac_region_lit ?_
  refine ao 2 rfl rfl (st_assign (v := .slice none 0 0) rfl rfl ?_)
  refine ar_nil ?_
  refine ac_seq ?_
  refine ac_region_lit ?_
  refine ao 3 rfl rfl (st_assign (v := .slice none 0 0) rfl rfl ?_)
  refine ar_nil ?_
  refine ac_seq ?_
  refine ac_seq ?_
  refine ac_region_lit ?_
  refine ao 4 rfl rfl (st_assign (v := .int .i64 0) rfl rfl ?_)
  refine ar_nil ?_
  refine ac_block ?_
  refine ac_rounds 61 ?_
  refine ar_round ?_
  refine ac_seq ?_
  refine ac_seq ?_
  refine ac_region_lit ?_
  refine ao 6 rfl rfl (st_move (v := .int .i64 0) rfl rfl ?_)
  refine ao 7 rfl rfl (st_bi (u := .int .i64 0) (v := .int .i64 4) (r := .int .i64 4) rfl rfl rfl (bi_add (by decide)) ?_)
  refine ao 8 rfl rfl (st_move (v := .slice a 0 cap) rfl rfl ?_)
  refine ao 9 rfl rfl (st_ln (a := a) (m := 0) (c := cap) rfl Try.underlying22 rfl ?_)
  refine ao 10 rfl rfl (st_bi (u := .int .i64 4) (v := .int .i64 0) (r := .bool false) rfl rfl rfl (bi_lss (by decide)) ?_)
  refine ao 11 rfl rfl (st_move (v := .bool false) rfl rfl ?_)
  refine ar_sk (d := (some 12)) rfl rfl ?_
  refine ar_sk (d := (some 13)) rfl rfl ?_
  refine ao 14 rfl rfl (st_pkf (v := .bool false) rfl rfl rfl ?_)
  refine ar_nil ?_
  refine ac_else rfl ?_
  refine ac_exit ?_
  refine ac_seq ?_
  refine ac_region_lit ?_
  refine ao 92 rfl rfl (st_move (v := .slice none 0 0) rfl rfl ?_)
  refine ao 2 rfl rfl (st_assign (v := .slice none 0 0) rfl rfl ?_)
  refine ar_nil ?_
  refine ac_ret ?_
  exact fin_ret (res_tmp rfl rfl)
end Go.Proofs.Ythngkopcadlciaa
namespace Go.Proofs.Ythngkopcadlciaa
open Go.RowKit
theorem c_hSceneE (l : List Int) (b off cap ty : Nat) (cs : List Value) (hcs : ∀ j z, l[j]? = some z → cs[off + j]? = some (.int .i64 z)) (h : (hScene l).isEmpty = true) : Gives Try.prog 55 #[.slice (some ⟨b, off, none⟩) l.length cap] [⟨b, cs, ty, true⟩] (fun u N => u = .slice none 0 0 ∧ N = []) :=
  (c_hScene l b off cap ty cs hcs).mono fun v N hk => by
    rcases hk with hk | ⟨hk, _⟩
    · exact hk.2
    · exact absurd (List.isEmpty_iff.1 h) hk
theorem c_hSceneC (l : List Int) (b off cap ty : Nat) (cs : List Value) (hcs : ∀ j z, l[j]? = some z → cs[off + j]? = some (.int .i64 z)) (h : (hScene l).isEmpty = false) : Gives Try.prog 55 #[.slice (some ⟨b, off, none⟩) l.length cap] [⟨b, cs, ty, true⟩]
    (fun u N => ∃ g cap rest, u = .slice (some ⟨g, 0, none⟩) (hScene l).length cap ∧ N = [⟨g, flatS (hScene l) ++ rest, 86, false⟩] ∧ (hScene l).length ≤ cap) :=
  (c_hScene l b off cap ty cs hcs).mono fun v N hk => by
    rcases hk with hk | hk
    · rw [hk.1] at h; cases h
    · exact hk.2
theorem c_hSceneP (l : List Int) (b off cap ty : Nat) (cs : List Value) (hcs : ∀ j z, l[j]? = some z → cs[off + j]? = some (.int .i64 z)) (h : (hScene l).isEmpty = false) : Gives Try.prog 55 #[.slice (some ⟨b, off, none⟩) l.length cap] [⟨b, cs, ty, true⟩]
    (fun u N => ∃ g cap rest, u = .slice (some ⟨g, 0, none⟩) (hScene l).length cap ∧ N = [⟨g, flatS (hScene l) ++ rest, 86, false⟩]) :=
  (c_hSceneC l b off cap ty cs hcs h).mono fun v N hk => by
    obtain ⟨g, cap, rest, h1, h2, _⟩ := hk
    exact ⟨g, cap, rest, h1, h2⟩
theorem hSceneN_le : ∀ (n : Nat) (l : List Int), (hSceneN n l).length ≤ n
  | 0, _ => Nat.zero_le _
  | n + 1, l => by
    by_cases h : l.length ≤ 4
    · rw [hSceneN_short _ l h]; exact Nat.zero_le _
    · obtain ⟨z0, z1, z2, z3, z4, l', rfl⟩ := five l h
      simp only [hSceneN, List.length_cons]
      have := hSceneN_le n l'
      omega
theorem hScene_le (l : List Int) : (hScene l).length ≤ 1000000 := Nat.le_trans (hSceneN_le 5 l) (by decide)
end Go.Proofs.Ythngkopcadlciaa
namespace Go.Proofs.Ythngkopcadlciaa
open Go.RowKit
attribute [local irreducible] AC AR DWalk
def firstRound (ray : Ray) (t : Iv) (k9 : Int) (k : Nat) (s : Shape) : Bool := (bif ((sceneHit s ray).2) == 0 then false else (bif (k : Int) != k9 then (bif ((sceneHit s ray).2) == 1 then (bif decide ((((sceneHit s ray).1).lo) ≤ t.hi) then false else (bif (k : Int) == k9 then (bif decide (((sceneHit s ray).1) = t) then true else false) else true)) else (bif (k : Int) == k9 then (bif decide (((sceneHit s ray).1) = t) then true else false) else true)) else (bif (k : Int) == k9 then (bif decide (((sceneHit s ray).1) = t) then true else false) else true)))
set_option maxRecDepth 100000 in
set_option maxHeartbeats 4000000 in
theorem c_firstRound (g8 g10 gS M cS k : Nat) (ra : List Value) (ray : Ray) (t : Iv) (k9 a11 turn : Int) (s : Shape) (hk : k < M) (hs : (ra.drop (0 + k * 12)).take 12 = shapeC s) {Q : Exit → Env → List Box → Prop} {E : Env} {c : Code} {j : Nat} (hc : Try.f15.body.bind loopOf = some c) (q2 : E 2 = .int .i64 turn) (q6 : E 6 = .bool false) (q7 : E 7 = .slice (some ⟨gS, 0, none⟩) M cS) (q8 : E 8 = .pointer (some ⟨g8, 0, none⟩)) (q9 : E 9 = .int .i64 k9) (q10 : E 10 = .pointer (some ⟨g10, 0, none⟩)) (q11 : E 11 = .int .i64 a11) (q34 : E 34 = .slice (some ⟨gS, 0, none⟩) M cS) (q35 : E 35 = .int .i64 (M : Int)) (q36 : E 36 = .int .i64 (k : Int)) (HG : (firstRound ray t k9 k s) = true) (K : ∀ E' : Env, E' 2 = .int .i64 turn → E' 6 = .bool false → E' 7 = .slice (some ⟨gS, 0, none⟩) M cS → E' 8 = .pointer (some ⟨g8, 0, none⟩) → E' 9 = .int .i64 k9 → E' 10 = .pointer (some ⟨g10, 0, none⟩) → E' 11 = .int .i64 a11 → E' 34 = .slice (some ⟨gS, 0, none⟩) M cS → E' 35 = .int .i64 (M : Int) → E' 36 = .int .i64 (w64 ((k : Int) + 1)) → ARounds Try.prog 129 c Q j E' [⟨g10, cel t, 26, false⟩, ⟨g8, rayC ray, 77, false⟩, ⟨gS, ra, 86, false⟩]) : ARounds Try.prog 129 c Q (j + 1) E [⟨g10, cel t, 26, false⟩, ⟨g8, rayC ray, 77, false⟩, ⟨gS, ra, 86, false⟩] := by
  rw [show Try.f15.body.bind loopOf = some _ from rfl] at hc
  cases hc
  obtain ⟨E0, rfl⟩ : ∃ E0 : Env, E = ((((((((((E0.put (some 2) (.int .i64 turn)).put (some 6) (.bool false)).put (some 7) (.slice (some ⟨gS, 0, none⟩) M cS)).put (some 8) (.pointer (some ⟨g8, 0, none⟩))).put (some 9) (.int .i64 k9)).put (some 10) (.pointer (some ⟨g10, 0, none⟩))).put (some 11) (.int .i64 a11)).put (some 34) (.slice (some ⟨gS, 0, none⟩) M cS)).put (some 35) (.int .i64 (M : Int))).put (some 36) (.int .i64 (k : Int))) := ⟨E, by rw [put_self q2, put_self q6, put_self q7, put_self q8, put_self q9, put_self q10, put_self q11, put_self q34, put_self q35, put_self q36]⟩
  refine ar_round ?_
  refine ac_seq ?_
  refine ac_region_lit ?_
  refine ao 37 rfl rfl (st_bi (u := .int .i64 (k : Int)) (v := .int .i64 (M : Int)) (r := .bool (decide ((k : Int) < (M : Int)))) rfl rfl rfl (bi_lss rfl) ?_)
  refine ar_nil ?_
  refine ac_seq ?_
  refine ac_then' (b := decide ((k : Int) < (M : Int))) (decide_eq_true (show ((k : Int) < (M : Int)) by omega)) rfl ?_
  refine ac_skip ?_
  refine ac_seq ?_
  refine ac_block ?_
  refine ac_seq ?_
  refine ac_region_lit ?_
  refine ao 38 rfl rfl (st_move (v := .int .i64 (k : Int)) rfl rfl ?_)
  refine ao 39 rfl rfl (st_sa (g := gS) (off := 0) (m := M) (c := cS) (s := 12) (i := k) rfl Try.underlying74 (by kernel_rfl) rfl rfl hk ?_)
  refine ao 40 rfl rfl (st_lda (g := gS) (off := 0 + k * 12) (vs := [.int .i64 s.kind, .int .i64 s.x.c, .int .i64 s.x.scale, .int .i64 s.y.c, .int .i64 s.y.scale, .int .i64 s.z.c, .int .i64 s.z.scale, .int .i64 s.r.c, .int .i64 s.r.scale, .int .i64 s.glow.a0, .int .i64 s.glow.a1, .int .i64 s.glow.a2]) agg86 2 rfl rfl rfl rfl rfl hs ?_)
  refine ao 13 rfl rfl (st_new zero86 rfl fun g0 => ?_)
  refine ao 12 rfl rfl (st_assign (v := .int .i64 (k : Int)) rfl rfl ?_)
  refine ar_op (d := none) rfl rfl (st_sta (g := g0) (off := 0) (us := [.int .i64 s.kind, .int .i64 s.x.c, .int .i64 s.x.scale, .int .i64 s.y.c, .int .i64 s.y.scale, .int .i64 s.z.c, .int .i64 s.z.scale, .int .i64 s.r.c, .int .i64 s.r.scale, .int .i64 s.glow.a0, .int .i64 s.glow.a1, .int .i64 s.glow.a2]) (cs := [.int .i64 s.kind, .int .i64 s.x.c, .int .i64 s.x.scale, .int .i64 s.y.c, .int .i64 s.y.scale, .int .i64 s.z.c, .int .i64 s.z.scale, .int .i64 s.r.c, .int .i64 s.r.scale, .int .i64 s.glow.a0, .int .i64 s.glow.a1, .int .i64 s.glow.a2]) agg86 0 rfl rfl rfl rfl rfl rfl rfl rfl rfl ?_)
  refine ar_nil ?_
  refine ac_seq ?_
  refine ac_region_lit ?_
  refine ao 42 rfl rfl (st_lda (g := g0) (off := 0) (vs := [.int .i64 s.kind, .int .i64 s.x.c, .int .i64 s.x.scale, .int .i64 s.y.c, .int .i64 s.y.scale, .int .i64 s.z.c, .int .i64 s.z.scale, .int .i64 s.r.c, .int .i64 s.r.scale, .int .i64 s.glow.a0, .int .i64 s.glow.a1, .int .i64 s.glow.a2]) agg86 0 rfl rfl rfl rfl rfl rfl ?_)
  refine ao 43 rfl rfl (st_lda (g := g8) (off := 0) (vs := [.int .i64 ray.o.x.lo, .int .i64 ray.o.x.hi, .bool ray.o.x.no, .int .i64 ray.o.y.lo, .int .i64 ray.o.y.hi, .bool ray.o.y.no, .int .i64 ray.o.z.lo, .int .i64 ray.o.z.hi, .bool ray.o.z.no, .int .i64 ray.d.x.lo, .int .i64 ray.d.x.hi, .bool ray.d.x.no, .int .i64 ray.d.y.lo, .int .i64 ray.d.y.hi, .bool ray.d.y.no, .int .i64 ray.d.z.lo, .int .i64 ray.d.z.hi, .bool ray.d.z.no]) agg77 2 rfl rfl rfl rfl rfl rfl ?_)
  refine ao 44 rfl rfl (st_cf (vs := [.agg #[.int .i64 s.kind, .int .i64 s.x.c, .int .i64 s.x.scale, .int .i64 s.y.c, .int .i64 s.y.scale, .int .i64 s.z.c, .int .i64 s.z.scale, .int .i64 s.r.c, .int .i64 s.r.scale, .int .i64 s.glow.a0, .int .i64 s.glow.a1, .int .i64 s.glow.a2], .agg #[.int .i64 ray.o.x.lo, .int .i64 ray.o.x.hi, .bool ray.o.x.no, .int .i64 ray.o.y.lo, .int .i64 ray.o.y.hi, .bool ray.o.y.no, .int .i64 ray.o.z.lo, .int .i64 ray.o.z.hi, .bool ray.o.z.no, .int .i64 ray.d.x.lo, .int .i64 ray.d.x.hi, .bool ray.d.x.no, .int .i64 ray.d.y.lo, .int .i64 ray.d.y.hi, .bool ray.d.y.no, .int .i64 ray.d.z.lo, .int .i64 ray.d.z.hi, .bool ray.d.z.no]]) (r := .tuple #[.agg #[.int .i64 (((sceneHit s ray).1).lo), .int .i64 (((sceneHit s ray).1).hi), .bool (((sceneHit s ray).1).no)], .int .i64 ((sceneHit s ray).2)]) (c_sceneHit s ray) Try.func58 rfl (by decide) rfl rfl rfl ?_)
  refine ao 41 rfl rfl (st_move (v := .tuple #[.agg #[.int .i64 (((sceneHit s ray).1).lo), .int .i64 (((sceneHit s ray).1).hi), .bool (((sceneHit s ray).1).no)], .int .i64 ((sceneHit s ray).2)]) rfl rfl ?_)
  refine ao 45 rfl rfl (st_ex (vs := [.agg #[.int .i64 (((sceneHit s ray).1).lo), .int .i64 (((sceneHit s ray).1).hi), .bool (((sceneHit s ray).1).no)], .int .i64 ((sceneHit s ray).2)]) (v := .agg #[.int .i64 (((sceneHit s ray).1).lo), .int .i64 (((sceneHit s ray).1).hi), .bool (((sceneHit s ray).1).no)]) rfl rfl rfl ?_)
  refine ao 46 rfl rfl (st_ex (vs := [.agg #[.int .i64 (((sceneHit s ray).1).lo), .int .i64 (((sceneHit s ray).1).hi), .bool (((sceneHit s ray).1).no)], .int .i64 ((sceneHit s ray).2)]) (v := .int .i64 ((sceneHit s ray).2)) rfl rfl rfl ?_)
  refine ao 14 rfl rfl (st_new zero26 rfl fun g1 => ?_)
  refine ar_op (d := none) rfl rfl (st_sta (g := g1) (off := 0) (us := [.int .i64 (((sceneHit s ray).1).lo), .int .i64 (((sceneHit s ray).1).hi), .bool (((sceneHit s ray).1).no)]) (cs := [.int .i64 (((sceneHit s ray).1).lo), .int .i64 (((sceneHit s ray).1).hi), .bool (((sceneHit s ray).1).no)]) agg26 0 rfl rfl rfl rfl rfl rfl rfl rfl rfl ?_)
  refine ao 15 rfl rfl (st_assign (v := .int .i64 ((sceneHit s ray).2)) rfl rfl ?_)
  refine ar_nil ?_
  refine ac_seq ?_
  refine ac_region_lit ?_
  refine ao 47 rfl rfl (st_move (v := .int .i64 ((sceneHit s ray).2)) rfl rfl ?_)
  refine ao 48 rfl rfl (st_bi (u := .int .i64 ((sceneHit s ray).2)) (v := .int .i64 0) (r := .bool (((sceneHit s ray).2) == 0)) rfl rfl rfl (bi_eql rfl) ?_)
  refine ao 49 rfl rfl (st_move (v := .bool (((sceneHit s ray).2) == 0)) rfl rfl ?_)
  refine bool_split (((sceneHit s ray).2) == 0) (fun h1 => nomatch (show false = true from (show (firstRound ray t k9 k s) = _ from (eT h1 rfl)).symm.trans HG)) (fun h1 => ?_)
  refine ar_gd (d := (some 50)) (by show ((((sceneHit s ray).2) == 0) == false) = true; rw [h1]; rfl) rfl (st_move (v := .int .i64 (k : Int)) rfl rfl ?_)
  refine ar_gd (d := (some 51)) (by show ((((sceneHit s ray).2) == 0) == false) = true; rw [h1]; rfl) rfl (st_move (v := .int .i64 k9) rfl rfl ?_)
  refine ar_gd (d := (some 52)) (by show ((((sceneHit s ray).2) == 0) == false) = true; rw [h1]; rfl) rfl (st_bi (u := .int .i64 (k : Int)) (v := .int .i64 k9) (r := .bool ((k : Int) != k9)) rfl rfl rfl (bi_neq rfl) ?_)
  refine ar_gd (d := (some 53)) (by show ((((sceneHit s ray).2) == 0) == false) = true; rw [h1]; rfl) rfl (st_move (v := .bool ((k : Int) != k9)) rfl rfl ?_)
  refine bool_split ((k : Int) != k9) (fun h2 => ?_) (fun h2 => ?_)
  · refine ar_gd (d := (some 54)) (by show (((k : Int) != k9) == true) = true; rw [h2]; rfl) rfl (st_move (v := .int .i64 ((sceneHit s ray).2)) rfl rfl ?_)
    refine ar_gd (d := (some 55)) (by show (((k : Int) != k9) == true) = true; rw [h2]; rfl) rfl (st_bi (u := .int .i64 ((sceneHit s ray).2)) (v := .int .i64 1) (r := .bool (((sceneHit s ray).2) == 1)) rfl rfl rfl (bi_eql rfl) ?_)
    refine ar_gd (d := (some 56)) (by show ((((sceneHit s ray).2) == 0) == false) = true; rw [h1]; rfl) rfl (st_pkt' (b := (k : Int) != k9) (v := .bool (((sceneHit s ray).2) == 1)) h2 rfl rfl rfl ?_)
    refine ar_gd (d := (some 57)) (by show ((((sceneHit s ray).2) == 0) == false) = true; rw [h1]; rfl) rfl (st_move (v := .bool (((sceneHit s ray).2) == 1)) rfl rfl ?_)
    refine bool_split (((sceneHit s ray).2) == 1) (fun h3 => ?_) (fun h3 => ?_)
    · refine ar_gd (d := (some 58)) (by show ((((sceneHit s ray).2) == 1) == true) = true; rw [h3]; rfl) rfl (st_fa (g := g1) (off := 0) rfl fa26_0 rfl ?_)
      refine ar_gd (d := (some 59)) (by show ((((sceneHit s ray).2) == 1) == true) = true; rw [h3]; rfl) rfl (st_ldc (g := g1) (off := 0) (v := .int .i64 (((sceneHit s ray).1).lo)) cell3 0 rfl rfl rfl rfl rfl ?_)
      refine ar_gd (d := (some 60)) (by show ((((sceneHit s ray).2) == 1) == true) = true; rw [h3]; rfl) rfl (st_fa (g := g10) (off := 0) rfl fa26_1 rfl ?_)
      refine ar_gd (d := (some 61)) (by show ((((sceneHit s ray).2) == 1) == true) = true; rw [h3]; rfl) rfl (st_ldc (g := g10) (off := 1) (v := .int .i64 t.hi) cell3 2 rfl rfl rfl rfl rfl ?_)
      refine ar_gd (d := (some 62)) (by show ((((sceneHit s ray).2) == 1) == true) = true; rw [h3]; rfl) rfl (st_bi (u := .int .i64 (((sceneHit s ray).1).lo)) (v := .int .i64 t.hi) (r := .bool (decide ((((sceneHit s ray).1).lo) ≤ t.hi))) rfl rfl rfl (bi_leq rfl) ?_)
      refine ar_gd (d := (some 63)) (by show ((((sceneHit s ray).2) == 0) == false) = true; rw [h1]; rfl) rfl (st_pkt' (b := ((sceneHit s ray).2) == 1) (v := .bool (decide ((((sceneHit s ray).1).lo) ≤ t.hi))) h3 rfl rfl rfl ?_)
      refine ao 64 rfl rfl (st_pkf' (b := ((sceneHit s ray).2) == 0) (v := .bool (decide ((((sceneHit s ray).1).lo) ≤ t.hi))) h1 rfl rfl rfl ?_)
      refine ao 65 rfl rfl (st_move (v := .bool (decide ((((sceneHit s ray).1).lo) ≤ t.hi))) rfl rfl ?_)
      refine bool_split (decide ((((sceneHit s ray).1).lo) ≤ t.hi)) (fun h4 => nomatch (show false = true from (show (firstRound ray t k9 k s) = _ from (eF h1 (eT h2 (eT h3 (eT h4 rfl))))).symm.trans HG)) (fun h4 => ?_)
      refine ar_gd (d := (some 66)) (by show ((decide ((((sceneHit s ray).1).lo) ≤ t.hi)) == false) = true; rw [h4]; rfl) rfl (st_move (v := .int .i64 (k : Int)) rfl rfl ?_)
      refine ar_gd (d := (some 67)) (by show ((decide ((((sceneHit s ray).1).lo) ≤ t.hi)) == false) = true; rw [h4]; rfl) rfl (st_move (v := .int .i64 k9) rfl rfl ?_)
      refine ar_gd (d := (some 68)) (by show ((decide ((((sceneHit s ray).1).lo) ≤ t.hi)) == false) = true; rw [h4]; rfl) rfl (st_bi (u := .int .i64 (k : Int)) (v := .int .i64 k9) (r := .bool ((k : Int) == k9)) rfl rfl rfl (bi_eql rfl) ?_)
      refine ar_gd (d := (some 69)) (by show ((decide ((((sceneHit s ray).1).lo) ≤ t.hi)) == false) = true; rw [h4]; rfl) rfl (st_move (v := .bool ((k : Int) == k9)) rfl rfl ?_)
      refine bool_split ((k : Int) == k9) (fun h5 => ?_) (fun h5 => ?_)
      · refine ar_gd (d := (some 70)) (by show (((k : Int) == k9) == true) = true; rw [h5]; rfl) rfl (st_lda (g := g1) (off := 0) (vs := [.int .i64 (((sceneHit s ray).1).lo), .int .i64 (((sceneHit s ray).1).hi), .bool (((sceneHit s ray).1).no)]) agg26 0 rfl rfl rfl rfl rfl rfl ?_)
        refine ar_gd (d := (some 71)) (by show (((k : Int) == k9) == true) = true; rw [h5]; rfl) rfl (st_lda (g := g10) (off := 0) (vs := [.int .i64 t.lo, .int .i64 t.hi, .bool t.no]) agg26 2 rfl rfl rfl rfl rfl rfl ?_)
        refine ar_gd (d := (some 72)) (by show (((k : Int) == k9) == true) = true; rw [h5]; rfl) rfl (st_bi (u := .agg #[.int .i64 (((sceneHit s ray).1).lo), .int .i64 (((sceneHit s ray).1).hi), .bool (((sceneHit s ray).1).no)]) (v := .agg #[.int .i64 t.lo, .int .i64 t.hi, .bool t.no]) (r := .bool (!(decide (((sceneHit s ray).1) = t)))) rfl rfl rfl (bneq_26 ((sceneHit s ray).1) t rfl) ?_)
        refine ar_gd (d := (some 73)) (by show ((decide ((((sceneHit s ray).1).lo) ≤ t.hi)) == false) = true; rw [h4]; rfl) rfl (st_pkt' (b := (k : Int) == k9) (v := .bool (!(decide (((sceneHit s ray).1) = t)))) h5 rfl rfl rfl ?_)
        refine ao 74 rfl rfl (st_pkf' (b := decide ((((sceneHit s ray).1).lo) ≤ t.hi)) (v := .bool (!(decide (((sceneHit s ray).1) = t)))) h4 rfl rfl rfl ?_)
        refine ar_nil ?_
        refine bool_split (decide (((sceneHit s ray).1) = t)) (fun h6 => ?_) (fun h6 => nomatch (show false = true from (show (firstRound ray t k9 k s) = _ from (eF h1 (eT h2 (eT h3 (eF h4 (eT h5 (eF h6 rfl))))))).symm.trans HG))
        refine ac_else' (b := !(decide (((sceneHit s ray).1) = t))) (by rw [h6]; rfl) rfl ?_
        refine ac_skip ?_
        refine ac_region_lit ?_
        refine ao 75 rfl rfl (st_bi (u := .int .i64 (k : Int)) (v := .int .i64 1) (r := .int .i64 (w64 ((k : Int) + 1))) rfl rfl rfl (bi_add rfl) ?_)
        refine ao 36 rfl rfl (st_move (v := .int .i64 (w64 ((k : Int) + 1))) rfl rfl ?_)
        refine ar_nil ?_
        exact ar_dropR (List.Sublist.cons _ (List.Sublist.cons _ (List.Sublist.refl _))) (K _ rfl rfl rfl rfl rfl rfl rfl rfl rfl rfl)
      · refine ar_sk (d := (some 70)) (by show (((k : Int) == k9) == true) = false; rw [h5]; rfl) rfl ?_
        refine ar_sk (d := (some 71)) (by show (((k : Int) == k9) == true) = false; rw [h5]; rfl) rfl ?_
        refine ar_sk (d := (some 72)) (by show (((k : Int) == k9) == true) = false; rw [h5]; rfl) rfl ?_
        refine ar_gd (d := (some 73)) (by show ((decide ((((sceneHit s ray).1).lo) ≤ t.hi)) == false) = true; rw [h4]; rfl) rfl (st_pkf' (b := (k : Int) == k9) (v := .bool false) h5 rfl rfl rfl ?_)
        refine ao 74 rfl rfl (st_pkf' (b := decide ((((sceneHit s ray).1).lo) ≤ t.hi)) (v := .bool false) h4 rfl rfl rfl ?_)
        refine ar_nil ?_
        refine ac_else rfl ?_
        refine ac_skip ?_
        refine ac_region_lit ?_
        refine ao 75 rfl rfl (st_bi (u := .int .i64 (k : Int)) (v := .int .i64 1) (r := .int .i64 (w64 ((k : Int) + 1))) rfl rfl rfl (bi_add rfl) ?_)
        refine ao 36 rfl rfl (st_move (v := .int .i64 (w64 ((k : Int) + 1))) rfl rfl ?_)
        refine ar_nil ?_
        exact ar_dropR (List.Sublist.cons _ (List.Sublist.cons _ (List.Sublist.refl _))) (K _ rfl rfl rfl rfl rfl rfl rfl rfl rfl rfl)
    · refine ar_sk (d := (some 58)) (by show ((((sceneHit s ray).2) == 1) == true) = false; rw [h3]; rfl) rfl ?_
      refine ar_sk (d := (some 59)) (by show ((((sceneHit s ray).2) == 1) == true) = false; rw [h3]; rfl) rfl ?_
      refine ar_sk (d := (some 60)) (by show ((((sceneHit s ray).2) == 1) == true) = false; rw [h3]; rfl) rfl ?_
      refine ar_sk (d := (some 61)) (by show ((((sceneHit s ray).2) == 1) == true) = false; rw [h3]; rfl) rfl ?_
      refine ar_sk (d := (some 62)) (by show ((((sceneHit s ray).2) == 1) == true) = false; rw [h3]; rfl) rfl ?_
      refine ar_gd (d := (some 63)) (by show ((((sceneHit s ray).2) == 0) == false) = true; rw [h1]; rfl) rfl (st_pkf' (b := ((sceneHit s ray).2) == 1) (v := .bool false) h3 rfl rfl rfl ?_)
      refine ao 64 rfl rfl (st_pkf' (b := ((sceneHit s ray).2) == 0) (v := .bool false) h1 rfl rfl rfl ?_)
      refine ao 65 rfl rfl (st_move (v := .bool false) rfl rfl ?_)
      refine ar_gd (d := (some 66)) rfl rfl (st_move (v := .int .i64 (k : Int)) rfl rfl ?_)
      refine ar_gd (d := (some 67)) rfl rfl (st_move (v := .int .i64 k9) rfl rfl ?_)
      refine ar_gd (d := (some 68)) rfl rfl (st_bi (u := .int .i64 (k : Int)) (v := .int .i64 k9) (r := .bool ((k : Int) == k9)) rfl rfl rfl (bi_eql rfl) ?_)
      refine ar_gd (d := (some 69)) rfl rfl (st_move (v := .bool ((k : Int) == k9)) rfl rfl ?_)
      refine bool_split ((k : Int) == k9) (fun h4 => ?_) (fun h4 => ?_)
      · refine ar_gd (d := (some 70)) (by show (((k : Int) == k9) == true) = true; rw [h4]; rfl) rfl (st_lda (g := g1) (off := 0) (vs := [.int .i64 (((sceneHit s ray).1).lo), .int .i64 (((sceneHit s ray).1).hi), .bool (((sceneHit s ray).1).no)]) agg26 0 rfl rfl rfl rfl rfl rfl ?_)
        refine ar_gd (d := (some 71)) (by show (((k : Int) == k9) == true) = true; rw [h4]; rfl) rfl (st_lda (g := g10) (off := 0) (vs := [.int .i64 t.lo, .int .i64 t.hi, .bool t.no]) agg26 2 rfl rfl rfl rfl rfl rfl ?_)
        refine ar_gd (d := (some 72)) (by show (((k : Int) == k9) == true) = true; rw [h4]; rfl) rfl (st_bi (u := .agg #[.int .i64 (((sceneHit s ray).1).lo), .int .i64 (((sceneHit s ray).1).hi), .bool (((sceneHit s ray).1).no)]) (v := .agg #[.int .i64 t.lo, .int .i64 t.hi, .bool t.no]) (r := .bool (!(decide (((sceneHit s ray).1) = t)))) rfl rfl rfl (bneq_26 ((sceneHit s ray).1) t rfl) ?_)
        refine ar_gd (d := (some 73)) rfl rfl (st_pkt' (b := (k : Int) == k9) (v := .bool (!(decide (((sceneHit s ray).1) = t)))) h4 rfl rfl rfl ?_)
        refine ao 74 rfl rfl (st_pkf (v := .bool (!(decide (((sceneHit s ray).1) = t)))) rfl rfl rfl ?_)
        refine ar_nil ?_
        refine bool_split (decide (((sceneHit s ray).1) = t)) (fun h5 => ?_) (fun h5 => nomatch (show false = true from (show (firstRound ray t k9 k s) = _ from (eF h1 (eT h2 (eF h3 (eT h4 (eF h5 rfl)))))).symm.trans HG))
        refine ac_else' (b := !(decide (((sceneHit s ray).1) = t))) (by rw [h5]; rfl) rfl ?_
        refine ac_skip ?_
        refine ac_region_lit ?_
        refine ao 75 rfl rfl (st_bi (u := .int .i64 (k : Int)) (v := .int .i64 1) (r := .int .i64 (w64 ((k : Int) + 1))) rfl rfl rfl (bi_add rfl) ?_)
        refine ao 36 rfl rfl (st_move (v := .int .i64 (w64 ((k : Int) + 1))) rfl rfl ?_)
        refine ar_nil ?_
        exact ar_dropR (List.Sublist.cons _ (List.Sublist.cons _ (List.Sublist.refl _))) (K _ rfl rfl rfl rfl rfl rfl rfl rfl rfl rfl)
      · refine ar_sk (d := (some 70)) (by show (((k : Int) == k9) == true) = false; rw [h4]; rfl) rfl ?_
        refine ar_sk (d := (some 71)) (by show (((k : Int) == k9) == true) = false; rw [h4]; rfl) rfl ?_
        refine ar_sk (d := (some 72)) (by show (((k : Int) == k9) == true) = false; rw [h4]; rfl) rfl ?_
        refine ar_gd (d := (some 73)) rfl rfl (st_pkf' (b := (k : Int) == k9) (v := .bool false) h4 rfl rfl rfl ?_)
        refine ao 74 rfl rfl (st_pkf (v := .bool false) rfl rfl rfl ?_)
        refine ar_nil ?_
        refine ac_else rfl ?_
        refine ac_skip ?_
        refine ac_region_lit ?_
        refine ao 75 rfl rfl (st_bi (u := .int .i64 (k : Int)) (v := .int .i64 1) (r := .int .i64 (w64 ((k : Int) + 1))) rfl rfl rfl (bi_add rfl) ?_)
        refine ao 36 rfl rfl (st_move (v := .int .i64 (w64 ((k : Int) + 1))) rfl rfl ?_)
        refine ar_nil ?_
        exact ar_dropR (List.Sublist.cons _ (List.Sublist.cons _ (List.Sublist.refl _))) (K _ rfl rfl rfl rfl rfl rfl rfl rfl rfl rfl)
  · refine ar_sk (d := (some 54)) (by show (((k : Int) != k9) == true) = false; rw [h2]; rfl) rfl ?_
    refine ar_sk (d := (some 55)) (by show (((k : Int) != k9) == true) = false; rw [h2]; rfl) rfl ?_
    refine ar_gd (d := (some 56)) (by show ((((sceneHit s ray).2) == 0) == false) = true; rw [h1]; rfl) rfl (st_pkf' (b := (k : Int) != k9) (v := .bool false) h2 rfl rfl rfl ?_)
    refine ar_gd (d := (some 57)) (by show ((((sceneHit s ray).2) == 0) == false) = true; rw [h1]; rfl) rfl (st_move (v := .bool false) rfl rfl ?_)
    refine ar_sk (d := (some 58)) rfl rfl ?_
    refine ar_sk (d := (some 59)) rfl rfl ?_
    refine ar_sk (d := (some 60)) rfl rfl ?_
    refine ar_sk (d := (some 61)) rfl rfl ?_
    refine ar_sk (d := (some 62)) rfl rfl ?_
    refine ar_gd (d := (some 63)) (by show ((((sceneHit s ray).2) == 0) == false) = true; rw [h1]; rfl) rfl (st_pkf (v := .bool false) rfl rfl rfl ?_)
    refine ao 64 rfl rfl (st_pkf' (b := ((sceneHit s ray).2) == 0) (v := .bool false) h1 rfl rfl rfl ?_)
    refine ao 65 rfl rfl (st_move (v := .bool false) rfl rfl ?_)
    refine ar_gd (d := (some 66)) rfl rfl (st_move (v := .int .i64 (k : Int)) rfl rfl ?_)
    refine ar_gd (d := (some 67)) rfl rfl (st_move (v := .int .i64 k9) rfl rfl ?_)
    refine ar_gd (d := (some 68)) rfl rfl (st_bi (u := .int .i64 (k : Int)) (v := .int .i64 k9) (r := .bool ((k : Int) == k9)) rfl rfl rfl (bi_eql rfl) ?_)
    refine ar_gd (d := (some 69)) rfl rfl (st_move (v := .bool ((k : Int) == k9)) rfl rfl ?_)
    refine bool_split ((k : Int) == k9) (fun h3 => ?_) (fun h3 => ?_)
    · refine ar_gd (d := (some 70)) (by show (((k : Int) == k9) == true) = true; rw [h3]; rfl) rfl (st_lda (g := g1) (off := 0) (vs := [.int .i64 (((sceneHit s ray).1).lo), .int .i64 (((sceneHit s ray).1).hi), .bool (((sceneHit s ray).1).no)]) agg26 0 rfl rfl rfl rfl rfl rfl ?_)
      refine ar_gd (d := (some 71)) (by show (((k : Int) == k9) == true) = true; rw [h3]; rfl) rfl (st_lda (g := g10) (off := 0) (vs := [.int .i64 t.lo, .int .i64 t.hi, .bool t.no]) agg26 2 rfl rfl rfl rfl rfl rfl ?_)
      refine ar_gd (d := (some 72)) (by show (((k : Int) == k9) == true) = true; rw [h3]; rfl) rfl (st_bi (u := .agg #[.int .i64 (((sceneHit s ray).1).lo), .int .i64 (((sceneHit s ray).1).hi), .bool (((sceneHit s ray).1).no)]) (v := .agg #[.int .i64 t.lo, .int .i64 t.hi, .bool t.no]) (r := .bool (!(decide (((sceneHit s ray).1) = t)))) rfl rfl rfl (bneq_26 ((sceneHit s ray).1) t rfl) ?_)
      refine ar_gd (d := (some 73)) rfl rfl (st_pkt' (b := (k : Int) == k9) (v := .bool (!(decide (((sceneHit s ray).1) = t)))) h3 rfl rfl rfl ?_)
      refine ao 74 rfl rfl (st_pkf (v := .bool (!(decide (((sceneHit s ray).1) = t)))) rfl rfl rfl ?_)
      refine ar_nil ?_
      refine bool_split (decide (((sceneHit s ray).1) = t)) (fun h4 => ?_) (fun h4 => nomatch (show false = true from (show (firstRound ray t k9 k s) = _ from (eF h1 (eF h2 (eT h3 (eF h4 rfl))))).symm.trans HG))
      refine ac_else' (b := !(decide (((sceneHit s ray).1) = t))) (by rw [h4]; rfl) rfl ?_
      refine ac_skip ?_
      refine ac_region_lit ?_
      refine ao 75 rfl rfl (st_bi (u := .int .i64 (k : Int)) (v := .int .i64 1) (r := .int .i64 (w64 ((k : Int) + 1))) rfl rfl rfl (bi_add rfl) ?_)
      refine ao 36 rfl rfl (st_move (v := .int .i64 (w64 ((k : Int) + 1))) rfl rfl ?_)
      refine ar_nil ?_
      exact ar_dropR (List.Sublist.cons _ (List.Sublist.cons _ (List.Sublist.refl _))) (K _ rfl rfl rfl rfl rfl rfl rfl rfl rfl rfl)
    · refine ar_sk (d := (some 70)) (by show (((k : Int) == k9) == true) = false; rw [h3]; rfl) rfl ?_
      refine ar_sk (d := (some 71)) (by show (((k : Int) == k9) == true) = false; rw [h3]; rfl) rfl ?_
      refine ar_sk (d := (some 72)) (by show (((k : Int) == k9) == true) = false; rw [h3]; rfl) rfl ?_
      refine ar_gd (d := (some 73)) rfl rfl (st_pkf' (b := (k : Int) == k9) (v := .bool false) h3 rfl rfl rfl ?_)
      refine ao 74 rfl rfl (st_pkf (v := .bool false) rfl rfl rfl ?_)
      refine ar_nil ?_
      refine ac_else rfl ?_
      refine ac_skip ?_
      refine ac_region_lit ?_
      refine ao 75 rfl rfl (st_bi (u := .int .i64 (k : Int)) (v := .int .i64 1) (r := .int .i64 (w64 ((k : Int) + 1))) rfl rfl rfl (bi_add rfl) ?_)
      refine ao 36 rfl rfl (st_move (v := .int .i64 (w64 ((k : Int) + 1))) rfl rfl ?_)
      refine ar_nil ?_
      exact ar_dropR (List.Sublist.cons _ (List.Sublist.cons _ (List.Sublist.refl _))) (K _ rfl rfl rfl rfl rfl rfl rfl rfl rfl rfl)
def firstAll (ray : Ray) (t : Iv) (k9 : Int) : Nat → List Shape → Bool
  | _, [] => true
  | k, s :: l => firstRound ray t k9 k s && firstAll ray t k9 (k + 1) l
set_option maxRecDepth 100000 in
theorem first_leave (g8 g10 gS M cS : Nat) (ra : List Value) (ray : Ray) (t : Iv) (k9 a11 turn : Int) {Q : Exit → Env → List Box → Prop} {E : Env} {c : Code} {j : Nat} (hc : Try.f15.body.bind loopOf = some c) (q2 : E 2 = .int .i64 turn) (q6 : E 6 = .bool false) (q7 : E 7 = .slice (some ⟨gS, 0, none⟩) M cS) (q8 : E 8 = .pointer (some ⟨g8, 0, none⟩)) (q9 : E 9 = .int .i64 k9) (q10 : E 10 = .pointer (some ⟨g10, 0, none⟩)) (q11 : E 11 = .int .i64 a11) (q34 : E 34 = .slice (some ⟨gS, 0, none⟩) M cS) (q35 : E 35 = .int .i64 (M : Int)) (q36 : E 36 = .int .i64 (M : Int)) (K : ∀ E' : Env, E' 2 = .int .i64 turn → E' 6 = .bool false → E' 7 = .slice (some ⟨gS, 0, none⟩) M cS → E' 8 = .pointer (some ⟨g8, 0, none⟩) → E' 9 = .int .i64 k9 → E' 10 = .pointer (some ⟨g10, 0, none⟩) → E' 11 = .int .i64 a11 → E' 34 = .slice (some ⟨gS, 0, none⟩) M cS → E' 35 = .int .i64 (M : Int) → E' 36 = .int .i64 (M : Int) → Q (.exit 0) E' [⟨g10, cel t, 26, false⟩, ⟨g8, rayC ray, 77, false⟩, ⟨gS, ra, 86, false⟩]) : ARounds Try.prog 129 c Q (j + 1) E [⟨g10, cel t, 26, false⟩, ⟨g8, rayC ray, 77, false⟩, ⟨gS, ra, 86, false⟩] := by
  rw [show Try.f15.body.bind loopOf = some _ from rfl] at hc
  cases hc
  obtain ⟨E0, rfl⟩ : ∃ E0 : Env, E = ((((((((((E0.put (some 2) (.int .i64 turn)).put (some 6) (.bool false)).put (some 7) (.slice (some ⟨gS, 0, none⟩) M cS)).put (some 8) (.pointer (some ⟨g8, 0, none⟩))).put (some 9) (.int .i64 k9)).put (some 10) (.pointer (some ⟨g10, 0, none⟩))).put (some 11) (.int .i64 a11)).put (some 34) (.slice (some ⟨gS, 0, none⟩) M cS)).put (some 35) (.int .i64 (M : Int))).put (some 36) (.int .i64 (M : Int))) := ⟨E, by rw [put_self q2, put_self q6, put_self q7, put_self q8, put_self q9, put_self q10, put_self q11, put_self q34, put_self q35, put_self q36]⟩
  refine ar_round ?_
  refine ac_seq ?_
  refine ac_region_lit ?_
  refine ao 37 rfl rfl (st_bi (u := .int .i64 (M : Int)) (v := .int .i64 (M : Int)) (r := .bool (decide ((M : Int) < (M : Int)))) rfl rfl rfl (bi_lss rfl) ?_)
  refine ar_nil ?_
  refine ac_seq ?_
  refine ac_else' (b := decide ((M : Int) < (M : Int))) (decide_eq_false (show ¬ ((M : Int) < (M : Int)) by omega)) rfl ?_
  refine ac_exit ?_
  exact K _ rfl rfl rfl rfl rfl rfl rfl rfl rfl rfl
theorem first_loop (g8 g10 gS M cS : Nat) (ra : List Value) (ray : Ray) (t : Iv) (k9 a11 turn : Int) {Q : Exit → Env → List Box → Prop} {c : Code} (hc : Try.f15.body.bind loopOf = some c) (hM : M ≤ 1000000) :
    ∀ (l : List Shape) (k : Nat) (E : Env), k + l.length = M → (∀ j s, l[j]? = some s → (ra.drop (0 + (k + j) * 12)).take 12 = shapeC s) → firstAll ray t k9 k l = true → E 2 = .int .i64 turn → E 6 = .bool false → E 7 = .slice (some ⟨gS, 0, none⟩) M cS → E 8 = .pointer (some ⟨g8, 0, none⟩) → E 9 = .int .i64 k9 → E 10 = .pointer (some ⟨g10, 0, none⟩) → E 11 = .int .i64 a11 → E 34 = .slice (some ⟨gS, 0, none⟩) M cS → E 35 = .int .i64 (M : Int) → E 36 = .int .i64 (k : Int) → (∀ E' : Env, E' 2 = .int .i64 turn → E' 6 = .bool false → E' 7 = .slice (some ⟨gS, 0, none⟩) M cS → E' 8 = .pointer (some ⟨g8, 0, none⟩) → E' 9 = .int .i64 k9 → E' 10 = .pointer (some ⟨g10, 0, none⟩) → E' 11 = .int .i64 a11 → E' 34 = .slice (some ⟨gS, 0, none⟩) M cS → E' 35 = .int .i64 (M : Int) → E' 36 = .int .i64 (M : Int) → Q (.exit 0) E' [⟨g10, cel t, 26, false⟩, ⟨g8, rayC ray, 77, false⟩, ⟨gS, ra, 86, false⟩]) → ARounds Try.prog 129 c Q (l.length + 1) E [⟨g10, cel t, 26, false⟩, ⟨g8, rayC ray, 77, false⟩, ⟨gS, ra, 86, false⟩] := by
  intro l
  induction l with
  | nil =>
    intro k E hk hra hall q2 q6 q7 q8 q9 q10 q11 q34 q35 q36 K
    obtain rfl : k = M := by simpa using hk
    exact first_leave g8 g10 gS k cS ra ray t k9 a11 turn hc q2 q6 q7 q8 q9 q10 q11 q34 q35 q36 K
  | cons s l ih =>
    intro k E hk hra hall q2 q6 q7 q8 q9 q10 q11 q34 q35 q36 K
    simp only [firstAll, Bool.and_eq_true] at hall
    have hkM : k < M := by simp only [List.length_cons] at hk; omega
    refine c_firstRound g8 g10 gS M cS k ra ray t k9 a11 turn s hkM (by have := hra 0 s rfl; simpa using this) hc q2 q6 q7 q8 q9 q10 q11 q34 q35 q36 hall.1 ?_
    intro E' f2 f6 f7 f8 f9 f10 f11 f34 f35 f36
    exact ih (k + 1) E' (by simp only [List.length_cons] at hk; omega) (fun j s hj => by have := hra (j + 1) s (by simpa using hj); rw [show k + 1 + j = k + (j + 1) from by omega]; exact this) hall.2 f2 f6 f7 f8 f9 f10 f11 f34 f35 (by rw [f36, w64_id (by omega)]; rfl) K
end Go.Proofs.Ythngkopcadlciaa
namespace Go.Proofs.Ythngkopcadlciaa
open Go.RowKit
section
variable {p : Program} {n : Nat} {ops : Array Oper} {Q : Exit → Env → List Box → Prop} {l : List Oper} {E : Env} {H : List Box} {o : Oper} {ρ : Operand → Value} {K : Post}
theorem st_appG {t e s by_ k m c gt of_ : Nat} {x y : Operand} {v : Value} {xs news pre r : List Value} {N A B : List Box} {bt : Box} (hs : SlT p t e s by_) (ho : o.op = .call { callee := .builtin .append, args := #[x, y], argTypes := #[t, t] })
    (hx : ρ x = v) (hy : ρ y = .slice (some ⟨gt, of_, none⟩) m c) (hR : Row e s k xs v N) (hH : H = A ++ (N ++ B)) (hbt : bt ∈ A ++ B) (hg : bt.g = gt) (hc : bt.cs = pre ++ (news ++ r)) (hof : pre.length = of_) (hl : news.length = m * s) (h1 : news.all (·.oneCell') = true) (hm : 0 < m ∨ 0 < k)
    (h63 : k + m ≤ maxLen) (hby : (k + m) * by_ ≤ 140737488355328) (kk : ∀ v' N', Row e s (k + m) (xs ++ news) v' N' → K v' (N' ++ (A ++ B))) : Step p ρ o H K := by
  intro F β w hO hB
  have hu := hs.un
  obtain ⟨inf, z, hi, hz, hsz, hbz, hzc, hs0⟩ := hs.out
  subst hsz hbz hH
  have hsmall : k + m ≤ 9223372036854775807 := by simp only [maxLen] at h63; omega
  have hO1 : Own β (N ++ (A ++ B ++ F)) w := by
    refine hO.perm ?_
    have h1 : (A ++ (N ++ B) ++ F).Perm ((N ++ (A ++ B)) ++ F) := List.Perm.append_right F (by
      rw [← List.append_assoc, ← List.append_assoc]
      exact List.Perm.append_right B List.perm_append_comm)
    rw [List.append_assoc N] at h1
    exact h1
  have hat : ∀ j u, news[j]? = some u → w.cell? ((⟨gt, of_, none⟩ : Addr).add j) = some u := by
    intro j u hj
    obtain ⟨fr, _, hb⟩ := (hO1.at_ bt (List.mem_append_right _ (List.mem_append_left _ hbt))).2
    rw [add_at, ← hg, cell_of_row w bt.g (of_ + j) _ _ _ hb, hc]
    simp only [List.getElem?_toArray]
    rw [List.getElem?_append_right (by omega), show of_ + j - pre.length = j from by omega, List.getElem?_append_left (List.getElem?_eq_some_iff.1 hj).1, hj]
  have ex : ∀ w, (execOp ρ o).run p w = (match (Builtin.append_ #[t, t] o.type #[v, .slice (some ⟨gt, of_, none⟩) m c]).run p w with | .ok u w' => .ok (.value u) w' | .halt x w' => .halt x w') := by
    intro w
    rw [execOp, ho]
    simp only [resolve, List.map_toArray, List.map_cons, List.map_nil, hx, hy]
    simp [invoke, builtin, Sem.run_bind]
    cases (Builtin.append_ #[t, t] o.type #[v, .slice (some ⟨gt, of_, none⟩) m c]).run p w <;> rfl
  have zl : ∀ j, (Builtin.zeroCells z.cells j).toList.length = j * inf.size := by intro j; simp [Builtin.zeroCells, hzc]
  rw [ex]
  rcases hR with ⟨rfl, rfl, rfl, rfl⟩ | ⟨g, cap, rest, rfl, rfl, hxl, hcl, hkc, hcm⟩
  · have hr := run_append_nil (P := p) w t o.type e inf z hu hi hz ⟨gt, of_, none⟩ m c news hl hat (by omega) (by omega) (by simp only [Nat.zero_add] at hby; omega)
    rw [hr]
    have hge := grownCap_ge w m 0 e
    have hcm := grownCap_le_maxLen w m 0 e (by omega)
    refine ⟨_, kk _ [⟨w.heap.size, news ++ (Builtin.zeroCells z.cells (grownCap w m 0 e - m)).toList, e, false⟩] (.inr ⟨w.heap.size, _, _, by rw [Nat.zero_add], rfl, by rw [Nat.zero_add]; exact hl, ?_, by omega, hcm⟩), ?_, (hB.drew).alloc _⟩
    · simp only [List.nil_append, List.length_append, zl, hl, ← Nat.add_mul]
      congr 1
      omega
    · have h3 := hO1.drew.alloc (news ++ (Builtin.zeroCells z.cells (grownCap w m 0 e - m)).toList) e
      simp only [List.nil_append] at h3 ⊢
      have e1 : (news ++ (Builtin.zeroCells z.cells (grownCap w m 0 e - m)).toList).toArray = news.toArray ++ Builtin.zeroCells z.cells (grownCap w m 0 e - m) := by
        apply Array.ext'
        simp
      rw [e1] at h3
      exact h3
  · obtain ⟨fr, hf, hgb⟩ := (hO1.at_ _ (List.mem_append_left _ (List.mem_singleton.2 rfl))).2
    obtain rfl := hf rfl
    simp only at hgb
    by_cases hroom : k + m ≤ cap
    · have hfit : k * inf.size + news.length ≤ (xs ++ rest).toArray.size := by
        simp only [List.size_toArray, hcl, hl, ← Nat.add_mul]
        exact Nat.mul_le_mul_right _ hroom
      have hr := run_append_room (P := p) w t o.type e inf hu hi g k cap (xs ++ rest).toArray hgb ⟨gt, of_, none⟩ m c news hl hat (fun u hu => List.all_eq_true.1 h1 u hu) hroom hfit
      rw [hr]
      have e1 : (xs ++ rest).toArray.toList.take (k * inf.size) ++ news ++ (xs ++ rest).toArray.toList.drop (k * inf.size + news.length) = xs ++ news ++ rest.drop news.length := by
        simp only [List.toList_toArray]
        rw [← hxl, List.take_left, List.drop_length_add_append]
      rw [e1]
      have hmay : β.may g := (((hO1.at_ _ (List.mem_append_left _ (List.mem_singleton.2 rfl))).1).resolve_left (by simp))
      refine ⟨_, kk _ [⟨g, xs ++ news ++ rest.drop news.length, e, false⟩] (.inr ⟨g, cap, _, rfl, rfl, ?_, ?_, hroom, hcm⟩), ?_, hB.setRow _ _ hmay⟩
      · rw [List.length_append, hxl, hl, Nat.add_mul]
      · rw [← hcl]
        simp only [List.length_append, List.length_drop]
        have : news.length ≤ rest.length := by
          have := hfit
          simp only [List.size_toArray, List.length_append, hxl] at this
          omega
        omega
      · have h3 := hO1.set 0 _ rfl rfl (xs ++ news ++ rest.drop news.length)
        exact h3
    · have hold : ∀ j u, xs[j]? = some u → w.cell? ((⟨g, 0, none⟩ : Addr).add j) = some u := by
        intro j u hj
        rw [add_at, Nat.zero_add, cell_of_row w g j _ _ _ hgb]
        simp only [List.getElem?_toArray]
        rw [List.getElem?_append_left (List.getElem?_eq_some_iff.1 hj).1, hj]
      have hr := run_append_grow (P := p) w t o.type e inf z hu hi hz ⟨g, 0, none⟩ k cap xs hxl hold ⟨gt, of_, none⟩ m c news hl hat (by omega) (by omega) (growslice_fits (by omega) hby)
      rw [hr]
      have hge := grownCap_ge w (k + m) cap e
      have hcm := grownCap_le_maxLen w (k + m) cap e h63
      refine ⟨_, kk _ [⟨w.heap.size, xs ++ news ++ (Builtin.zeroCells z.cells (grownCap w (k + m) cap e - (k + m))).toList, e, false⟩] (.inr ⟨w.heap.size, _, _, rfl, rfl, ?_, ?_, hge, hcm⟩), ?_, (hB.drew).alloc _⟩
      · rw [List.length_append, hxl, hl, Nat.add_mul]
      · simp only [List.length_append, zl, hl, hxl, ← Nat.add_mul]
        congr 1
        omega
      · have h2 : Own β (A ++ B ++ F) w := Own.sub (List.sublist_append_right _ _) hO1
        have h3 := h2.drew.alloc (xs ++ news ++ (Builtin.zeroCells z.cells (grownCap w (k + m) cap e - (k + m))).toList) e
        have e1 : (xs ++ news ++ (Builtin.zeroCells z.cells (grownCap w (k + m) cap e - (k + m))).toList).toArray = xs.toArray ++ news.toArray ++ Builtin.zeroCells z.cells (grownCap w (k + m) cap e - (k + m)) := by
          apply Array.ext'
          simp
        rw [e1] at h3
        exact h3
theorem st_sll {t e : Nat} {x y : Operand} {g off m c s h : Nat} (ho : o.op = .slice t x (some y) none none) (hu : p.underlying t = some (.slice e)) (hs : (p.info? e).map (·.size) = some s) (hx : ρ x = .slice (some ⟨g, off, none⟩) m c) (hy : ρ y = .int .i64 h) (hh : h ≤ m) (hc : h < c)
    (k : K (.slice (some ⟨g, off + h * s, none⟩) (m - h) (c - h)) H) : Step p ρ o H K := by
  refine st_run (s := Instr.sliceAt t (.slice (some ⟨g, off, none⟩) m c) (some (.int .i64 h)) none none) (by rw [execOp, ho]; simp only [hx, hy, Option.map_none, Option.map_some]) ⟨fun w => ?_⟩ k
  have h0 : (0 : Int) ≤ h := by omega
  have hh' : (h : Int) ≤ m := by omega
  have hne : ¬ c = h := by omega
  cases hq : p.info? e with
  | none => simp [hq] at hs
  | some inf =>
    have hs' : inf.size = s := by simpa [hq] using hs
    simp [Instr.sliceAt, Instr.slice, Instr.sliceBounds, Sem.run_bind, run_underlying hu w, run_sliceBound, h0, hh', hh, hne, sizeOf, typeInfo, hq, hs', Addr.add]
end
end Go.Proofs.Ythngkopcadlciaa
namespace Go.Proofs.Ythngkopcadlciaa
open Go.RowKit
section
variable {p : Program} {n : Nat} {ops : Array Oper} {Q : Exit → Env → List Box → Prop} {l : List Oper} {E : Env} {H : List Box} {o : Oper} {ρ : Operand → Value} {K : Post}
theorem st_appH {t e s by_ k m c gt of_ : Nat} {x y : Operand} {v : Value} {xs news pre r : List Value} {N A B : List Box} {bt : Box} (hs : SlT p t e s by_) (ho : o.op = .call { callee := .builtin .append, args := #[x, y], argTypes := #[t, t] })
    (hx : ρ x = v) (hy : ρ y = .slice (some ⟨gt, of_, none⟩) m c) (hR : Row e s k xs v N) (hH : H = A ++ (N ++ B)) (hbt : bt ∈ A ++ B) (hg : bt.g = gt) (hc : bt.cs = pre ++ (news ++ r)) (hof : pre.length = of_) (hl : news.length = m * s) (h1 : news.all (·.oneCell') = true) (hm : 0 < m ∨ 0 < k)
    (h63 : k + m ≤ maxLen) (hby : (k + m) * by_ ≤ 140737488355328) (hK : ∀ v H H', H.Perm H' → K v H → K v H') (kk : ∀ v' N', Row e s (k + m) (xs ++ news) v' N' → K v' ((A ++ B) ++ N')) : Step p ρ o H K :=
  st_appG hs ho hx hy hR hH hbt hg hc hof hl h1 hm h63 hby fun v' N' h => hK _ _ _ List.perm_append_comm (kk v' N' h)
end
theorem Row.one {e s n c : Nat} {xs : List Value} {a : Option Addr} {N : List Box} (h : Row e s n xs (.slice a n c) N) (hn : 0 < n) : ∃ g rest, a = some ⟨g, 0, none⟩ ∧ N = [⟨g, xs ++ rest, e, false⟩] := by
  obtain ⟨g, cap, rest, h1, h2, _⟩ := h.pos hn
  simp only [Value.slice.injEq] at h1
  exact ⟨g, rest, h1.1, h2⟩
def rotL (l : List Shape) (k : Nat) : List Shape := l.drop k ++ l.take k
def rotN (l : List Int) (turn : Int) : Nat := (hPick turn ((hScene l).length : Int)).toNat
theorem len_pos {l : List Shape} (h : l.isEmpty = false) : 0 < l.length := by
  cases l with
  | nil => cases h
  | cons => simp
theorem len_b0 {l : List Shape} (h : l.isEmpty = false) : ((l.length : Int) == 0) = false := by
  have := len_pos h
  simp only [beq_eq_false_iff_ne, ne_eq]
  omega
theorem len_ne {l : List Shape} (h : l.isEmpty = false) : (l.length : Int) ≠ 0 := by
  have := len_pos h
  omega
theorem rot_pick (l : List Int) (turn : Int) (h : (hScene l).isEmpty = false) : hPick turn ((hScene l).length : Int) = (rotN l turn : Int) ∧ rotN l turn < (hScene l).length := by
  have h0 := len_pos h
  have hle := hScene_le l
  have := hPick_lt turn (m := ((hScene l).length : Int)) (by omega) (by omega)
  unfold rotN
  omega
theorem rotN_lt (l : List Int) (turn : Int) (h : (hScene l).isEmpty = false) : rotN l turn < (hScene l).length := (rot_pick l turn h).2
theorem c_rot (l : List Int) (turn : Int) (h : (hScene l).isEmpty = false) : Gets Try.prog 19 #[.int .i64 turn, .int .i64 ((hScene l).length : Int)] (.int .i64 (rotN l turn : Int)) := by
  have := c_hPick turn ((hScene l).length : Int) (len_ne h)
  rw [(rot_pick l turn h).1] at this
  exact this
theorem rot_cs (l : List Shape) (k : Nat) (r : List Value) : flatS l ++ r = flatS (l.take k) ++ (flatS (l.drop k) ++ r) := by
  rw [← List.append_assoc, ← flatS_append, List.take_append_drop]
theorem drop_len (l : List Shape) (k : Nat) : (flatS (l.drop k)).length = (l.length - k) * 12 := by
  rw [flatS_length, List.length_drop]; omega
theorem take_len (l : List Shape) (k : Nat) (h : k ≤ l.length) : (flatS (l.take k)).length = k * 12 := by
  rw [flatS_length, List.length_take]; omega
theorem flatS_cell (l : List Shape) : (flatS l).all (·.oneCell') = true := by
  induction l with
  | nil => rfl
  | cons a l ih =>
    have e : flatS (a :: l) = shapeC a ++ flatS l := rfl
    rw [e, List.all_append, ih]
    rfl
theorem c_nearRot (l : List Shape) (k : Nat) (ray : Ray) (g cap : Nat) (rest : List Value) (hk : k ≤ l.length) (hlen : l.length ≤ 1000000) : Gives Try.prog 57 #[.slice (some ⟨g, 0, none⟩) (0 + (l.length - k) + k) cap, .agg (rayC ray).toArray] [⟨g, ([] ++ flatS (l.drop k)) ++ flatS (l.take k) ++ rest, 86, true⟩] (fun u N => u = nearV (sNear (rotL l k) ray) ∧ N = []) := by
  have hl : (rotL l k).length = 0 + (l.length - k) + k := by
    unfold rotL
    rw [List.length_append, List.length_drop, List.length_take]
    omega
  have h := c_nearF (rotL l k) ray g cap rest (by omega)
  rw [hl] at h
  have e : flatS (rotL l k) = ([] ++ flatS (l.drop k)) ++ flatS (l.take k) := by rw [List.nil_append, ← flatS_append]; rfl
  rw [e] at h
  exact h
end Go.Proofs.Ythngkopcadlciaa
namespace Go.Proofs.Ythngkopcadlciaa
theorem hits_append (r : Ray) : ∀ (A B : List Shape) (k : Nat), hitsL r (A ++ B) k = (hitsL r A k).bind fun Y => (hitsL r B (k + A.length)).map fun Z => Y ++ Z
  | [], B, k => by
    simp only [hitsL, List.nil_append, Option.bind_some, List.length_nil, Nat.add_zero]
    cases hitsL r B k <;> rfl
  | s :: A, B, k => by
    have ih := hits_append r A B (k + 1)
    have e : k + (s :: A).length = k + 1 + A.length := by simp only [List.length_cons]; omega
    simp only [List.cons_append, hitsL]
    rw [ih, e]
    cases (sceneHit s r).2 == 0
    · simp only [cond_false]
      cases (sceneHit s r).2 == 2
      · simp only [cond_false]
        cases hitsL r A (k + 1) with
        | none => rfl
        | some Y =>
          simp only [Option.map_some, Option.bind_some]
          cases hitsL r B (k + 1 + A.length) <;> rfl
      · simp only [cond_true]
    · rfl
theorem hits_shift (r : Ray) (d : Nat) : ∀ (l : List Shape) (k : Nat), hitsL r l (k + d) = (hitsL r l k).map fun Y => Y.map fun y => (y.1 + (d : Int), y.2)
  | [], k => rfl
  | s :: l, k => by
    have ih := hits_shift r d l (k + 1)
    simp only [hitsL]
    rw [show k + d + 1 = k + 1 + d from by omega, ih]
    cases (sceneHit s r).2 == 0
    · simp only [cond_false]
      cases (sceneHit s r).2 == 2
      · simp only [cond_false]
        cases hitsL r l (k + 1) with
        | none => rfl
        | some Y => simp
      · rfl
    · rfl
theorem hit_R (s : Shape) (r : Ray) (h : (sceneHit s r).2 = 1) : R (sceneHit s r).1 :=
  ((ivInside_iff _ _).1 ((hit_less s (q := r) (r := r) ⟨LeV.rfl' _, LeV.rfl' _⟩).1 h).2).1
theorem hits_mem (r : Ray) : ∀ (l : List Shape) (k : Nat) (Y : List (Int × Iv)), hitsL r l k = some Y →
    (∀ (j : Nat) (s : Shape), l[j]? = some s → (sceneHit s r).2 ≠ 0 ∧ ((sceneHit s r).2 = 1 → (((k + j : Nat) : Int), (sceneHit s r).1) ∈ Y)) ∧ ∀ y ∈ Y, (∃ (j : Nat) (s : Shape), l[j]? = some s ∧ y = (((k + j : Nat) : Int), (sceneHit s r).1) ∧ (sceneHit s r).2 = 1)
  | [], k, Y, h => by
    simp only [hitsL, Option.some.injEq] at h
    subst h
    exact ⟨by simp, by simp⟩
  | s :: l, k, Y, hY => by
    simp only [hitsL] at hY
    rcases hit_cases s r with ⟨e, _⟩ | ⟨e, _⟩ | ⟨e, _⟩
    · rw [e] at hY; cases hY
    · rw [e] at hY
      obtain ⟨h1, h2⟩ := hits_mem r l (k + 1) Y hY
      refine ⟨fun j z hj => ?_, fun y hy => ?_⟩
      · cases j with
        | zero =>
          simp only [List.getElem?_cons_zero, Option.some.injEq] at hj
          subst hj
          rw [e]
          exact ⟨by decide, fun h => absurd h (by decide)⟩
        | succ j =>
          have := h1 j z (by simpa using hj)
          rw [show k + (j + 1) = k + 1 + j from by omega]
          exact this
      · obtain ⟨j, z, hj, hy', h1'⟩ := h2 y hy
        exact ⟨j + 1, z, by simpa using hj, by rw [hy', show k + (j + 1) = k + 1 + j from by omega], h1'⟩
    · rw [e] at hY
      have hY' : (hitsL r l (k + 1)).map (fun Y => ((k : Int), (sceneHit s r).1) :: Y) = some Y := hY
      rw [Option.map_eq_some_iff] at hY'
      obtain ⟨Y', hy', rfl⟩ := hY'
      obtain ⟨h1, h2⟩ := hits_mem r l (k + 1) Y' hy'
      refine ⟨fun j z hj => ?_, fun y hy => ?_⟩
      · cases j with
        | zero =>
          simp only [List.getElem?_cons_zero, Option.some.injEq] at hj
          subst hj
          rw [e]
          exact ⟨by decide, fun _ => List.mem_cons_self⟩
        | succ j =>
          have := h1 j z (by simpa using hj)
          rw [show k + (j + 1) = k + 1 + j from by omega]
          exact ⟨this.1, fun h => List.mem_cons_of_mem _ (this.2 h)⟩
      · rcases List.mem_cons.1 hy with rfl | hy
        · exact ⟨0, s, rfl, rfl, e⟩
        · obtain ⟨j, z, hj, hy', h1'⟩ := h2 y hy
          exact ⟨j + 1, z, by simpa using hj, by rw [hy', show k + (j + 1) = k + 1 + j from by omega], h1'⟩
theorem hits_R (r : Ray) (l : List Shape) (k : Nat) (Y : List (Int × Iv)) (h : hitsL r l k = some Y) : ∀ y ∈ Y, R y.2 := by
  intro y hy
  obtain ⟨j, s, _, rfl, h1⟩ := (hits_mem r l k Y h).2 y hy
  exact hit_R s r h1
def rotI (d : Nat) (L : Nat) (y : Int × Iv) : Int × Iv := ((y.1 + (d : Int)) % (L : Int), y.2)
theorem hits_rot (r : Ray) (l : List Shape) (d : Nat) (hd : d < l.length) : (hitsL r l 0 = none ∧ hitsL r (rotL l d) 0 = none) ∨ ∃ Y Z, hitsL r l 0 = some Y ∧ hitsL r (rotL l d) 0 = some Z ∧ (Z.map (rotI d l.length)).Perm Y := by
  have e1 : hitsL r l 0 = hitsL r (l.take d ++ l.drop d) 0 := by rw [List.take_append_drop]
  rw [e1]
  unfold rotL
  rw [hits_append, hits_append]
  have lt : (l.take d).length = d := by rw [List.length_take]; omega
  have ld : (l.drop d).length = l.length - d := by rw [List.length_drop]
  rw [lt, ld, Nat.zero_add, Nat.zero_add]
  have s1 := hits_shift r d (l.drop d) 0
  have s2 := hits_shift r (l.length - d) (l.take d) 0
  rw [Nat.zero_add] at s1 s2
  rw [s1, s2]
  have i1 := hits_index r (l.take d) 0
  have i2 := hits_index r (l.drop d) 0
  cases hA : hitsL r (l.take d) 0 with
  | none =>
    left
    cases hB : hitsL r (l.drop d) 0 <;> exact ⟨rfl, rfl⟩
  | some YA =>
    cases hB : hitsL r (l.drop d) 0 with
    | none => exact .inl ⟨rfl, rfl⟩
    | some YB =>
      right
      refine ⟨_, _, rfl, rfl, ?_⟩
      rw [List.map_append, List.map_map]
      have eB : YB.map (rotI d l.length) = YB.map fun y => (y.1 + (d : Int), y.2) := by
        refine List.map_congr_left fun y hy => ?_
        have := (i2 YB hB).1 y hy
        unfold rotI
        rw [Int.emod_eq_of_lt (by omega) (by omega)]
      have eA : YA.map (rotI d l.length ∘ fun y => (y.1 + ((l.length - d : Nat) : Int), y.2)) = YA := by
        refine (List.map_congr_left (g := id) fun y hy => ?_).trans (List.map_id YA)
        have h := (i1 YA hA).1 y hy
        simp only [Function.comp_apply, rotI, id_eq]
        rw [show y.1 + ((l.length - d : Nat) : Int) + (d : Int) = y.1 + (l.length : Int) from by omega, Int.add_emod_right, Int.emod_eq_of_lt (by omega) (by omega)]
      rw [eB, eA]
      exact List.perm_append_comm
theorem sNear_rot (r : Ray) (l : List Shape) (d : Nat) (hd : d < l.length) (hl : l.length ≤ 1000) :
    (sNear (rotL l d) r = sNear l r ∧ (sNear l r).2.2 ≠ 1) ∨ ∃ b b' a Y, sNear l r = (b, a, 1) ∧ sNear (rotL l d) r = (b', a, 1) ∧ 0 ≤ b' ∧ b' < l.length ∧ (b' + (d : Int)) % (l.length : Int) = b ∧ hitsL r l 0 = some Y ∧ (b, a) ∈ Y ∧ ∀ y ∈ Y, y = (b, a) ∨ a.hi < y.2.lo := by
  have hlr : (rotL l d).length = l.length := by
    unfold rotL
    rw [List.length_append, List.length_drop, List.length_take]
    omega
  have S1 := sNear_spec l r hl
  have S2 := sNear_spec (rotL l d) r (by omega)
  rcases hits_rot r l d hd with ⟨n1, n2⟩ | ⟨Y, Z, hY, hZ, hp⟩
  · rcases S1 with ⟨_, e⟩ | ⟨k, _⟩ | ⟨_, _, _, k, _⟩
    · rcases S2 with ⟨_, e2⟩ | ⟨k, _⟩ | ⟨_, _, _, k, _⟩
      · exact .inl ⟨by rw [e, e2], by rw [e]; show (0 : Int) ≠ 1; decide⟩
      · rw [n2] at k; cases k
      · rw [n2] at k; cases k
    · rw [n1] at k; cases k
    · rw [n1] at k; cases k
  · rw [hY] at S1
    rw [hZ] at S2
    rcases S1 with ⟨k, _⟩ | ⟨k, e⟩ | ⟨Y', b, a, k, hb, hm, hmin, hc⟩
    · cases k
    · cases k
      have hz : Z = [] := by
        have := hp.length_eq
        simp only [List.length_map, List.length_nil] at this
        exact List.eq_nil_of_length_eq_zero this
      subst hz
      rcases S2 with ⟨k, _⟩ | ⟨_, e2⟩ | ⟨_, _, _, k, _, hm, _⟩
      · cases k
      · exact .inl ⟨by rw [e, e2], by rw [e]; show (2 : Int) ≠ 1; decide⟩
      · cases k; cases hm
    · cases k
      rcases S2 with ⟨k, _⟩ | ⟨k, _⟩ | ⟨Z', b', a', k, hb', hm', hmin', hc'⟩
      · cases k
      · cases k
        have := hp.length_eq
        simp only [List.length_map, List.length_nil] at this
        rw [List.eq_nil_of_length_eq_zero this.symm] at hm
        cases hm
      · cases k
        have mem' : rotI d l.length (b', a') ∈ Y := hp.mem_iff.1 (List.mem_map_of_mem hm')
        have back : ∀ y ∈ Y, ∃ z ∈ Z, rotI d l.length z = y := fun y hy => List.mem_map.1 (hp.mem_iff.2 hy)
        have ehi : a.hi = a'.hi := by
          have h1 := hmin _ mem'
          obtain ⟨z, hz, hz'⟩ := back _ hm
          have h2 := hmin' z hz
          have h3 : z.2 = a := by rw [← show (rotI d l.length z).2 = z.2 from rfl, hz']
          rw [h3] at h2
          have h4 : a.hi ≤ a'.hi := h1
          omega
        have ecount : Z.countP (fun y => decide (a'.hi < y.2.lo)) = Y.countP fun y => decide (a.hi < y.2.lo) := by
          rw [← hp.countP_eq, List.countP_map, ehi]
          rfl
        have elen : Z.length = Y.length := by
          have := hp.length_eq
          simpa using this
        rw [ecount, elen] at hc'
        rcases hc with ⟨c1, e⟩ | ⟨c1, e⟩
        · rcases hc' with ⟨_, e2⟩ | ⟨c2, _⟩
          · exact .inl ⟨by rw [e, e2], by rw [e]; show (0 : Int) ≠ 1; decide⟩
          · omega
        · rcases hc' with ⟨c2, _⟩ | ⟨_, e2⟩
          · omega
          right
          have RR := hits_R r l 0 Y hY
          have ra := RR _ hm
          have ra' := RR _ mem'
          have hP : (fun y : Int × Iv => decide (a.hi < y.2.lo)) (b, a) = false := decide_eq_false (by have := ra.2; simp only at *; omega)
          have one := one_fails _ (b, a) Y hm hP c1
          have eq : rotI d l.length (b', a') = (b, a) := by
            rcases one _ mem' with k | k
            · have k := of_decide_eq_true k
              have := ra'.2
              simp only [rotI] at k this
              omega
            · exact k
          have e3 : a' = a := congrArg Prod.snd eq
          subst e3
          refine ⟨b, b', a', Y, e, e2, hb', ?_, congrArg Prod.fst eq, hY, hm, fun y hy => ?_⟩
          · have := (hits_index r (rotL l d) 0 Z hZ).1 _ hm'
            rw [hlr] at this
            simp only at this
            omega
          · rcases one y hy with k | k
            · exact .inr (of_decide_eq_true k)
            · exact .inl k
theorem firstAll_true (r : Ray) (t : Iv) (k9 : Int) : ∀ (l : List Shape) (k : Nat), (∀ (j : Nat) (s : Shape), l[j]? = some s → firstRound r t k9 (k + j) s = true) → firstAll r t k9 k l = true
  | [], k, h => rfl
  | s :: l, k, h => by
    have h0 := h 0 s rfl
    have ih := firstAll_true r t k9 l (k + 1) fun j z hj => by
      have := h (j + 1) z (by simpa using hj)
      rw [show k + 1 + j = k + (j + 1) from by omega]
      exact this
    simp only [firstAll, ih, Bool.and_true]
    exact h0
theorem first_all (r : Ray) (l : List Shape) (b : Int) (a : Iv) (Y : List (Int × Iv)) (hY : hitsL r l 0 = some Y) (hm : (b, a) ∈ Y) (hone : ∀ y ∈ Y, y = (b, a) ∨ a.hi < y.2.lo) : firstAll r a b 0 l = true := by
  refine firstAll_true r a b l 0 fun j s hj => ?_
  have hs := (hits_mem r l 0 Y hY).1 j s hj
  obtain ⟨j0, s0, hj0, e0, h1⟩ := (hits_mem r l 0 Y hY).2 _ hm
  rw [Nat.zero_add] at hs e0 ⊢
  simp only [Prod.mk.injEq] at e0
  have n0 : ((sceneHit s r).2 == 0) = false := by rw [beq_eq_false_iff_ne]; exact hs.1
  unfold firstRound
  rw [n0]
  simp only [cond_false]
  by_cases hjb : (j : Int) = b
  · have : j = j0 := by omega
    subst this
    rw [hj] at hj0
    cases hj0
    have e1 : ((j : Int) != b) = false := by rw [hjb]; simp
    have e2 : ((j : Int) == b) = true := by rw [hjb]; simp
    rw [e1, e2, decide_eq_true e0.2.symm]
    rfl
  · have e1 : ((j : Int) != b) = true := by simpa using hjb
    have e2 : ((j : Int) == b) = false := by simpa using hjb
    rw [e1, e2]
    by_cases hm1 : (sceneHit s r).2 = 1
    · have := hone _ (hs.2 hm1)
      rcases this with k | k
      · exact absurd (congrArg Prod.fst k) hjb
      · rw [decide_eq_false (by simp only at k; omega : ¬ (sceneHit s r).1.lo ≤ a.hi)]
        cases (sceneHit s r).2 == 1 <;> rfl
    · have : ((sceneHit s r).2 == 1) = false := by rw [beq_eq_false_iff_ne]; exact hm1
      rw [this]
      rfl
end Go.Proofs.Ythngkopcadlciaa
namespace Go.Proofs.Ythngkopcadlciaa
open Go.RowKit
attribute [local irreducible] AC AR DWalk
def axis26 (h : Iv) : Ray := (⟨(vecOf h (ivPoint 0) (ivPoint 0)), (vecOf (ivPoint 0) (ivPoint 0) (ivWhole 1))⟩ : Ray)
set_option maxRecDepth 100000 in
theorem c_axis26 (h : Iv) : Gets Try.prog 60 #[.agg #[.int .i64 h.lo, .int .i64 h.hi, .bool h.no]] (Ray.v (axis26 h)) := by
  refine gets_fin Try.func60 rfl rfl rfl ?_
  refine ac_seq ?_
  refine ac_region_lit ?_
  refine ao 1 rfl rfl (st_box (v := .agg #[.int .i64 h.lo, .int .i64 h.hi, .bool h.no]) (cs := [.int .i64 h.lo, .int .i64 h.hi, .bool h.no]) rfl rfl rfl fun g0 => ?_)
  refine ao 2 rfl rfl (st_new zero77 rfl fun g1 => ?_)
  refine ar_nil ?_
  refine ac_seq ?_
  refine ac_draw0 (id := 1) [0, 1, 2, 3, 4, 5, 6, 7, 8] [9] _ (by kernel_rfl) follows rfl  ?_
  refine dw_op (d := (some 3)) (.agg #[.int .i64 h.lo, .int .i64 h.hi, .bool h.no]) rfl rfl rfl (st_lda (g := g0) (off := 0) (vs := [.int .i64 h.lo, .int .i64 h.hi, .bool h.no]) agg26 1 rfl rfl rfl rfl rfl rfl ⟨rfl, rfl⟩) ?_
  refine dw_op (d := (some 4)) (.agg #[.int .i64 ((ivPoint 0).lo), .int .i64 ((ivPoint 0).hi), .bool ((ivPoint 0).no)]) rfl rfl rfl (st_cf (vs := [.int .i64 0]) (r := .agg #[.int .i64 ((ivPoint 0).lo), .int .i64 ((ivPoint 0).hi), .bool ((ivPoint 0).no)]) (c_ivPoint 0) Try.func29 rfl (by decide) rfl rfl rfl ⟨rfl, rfl⟩) ?_
  refine dw_op (d := (some 5)) (.agg #[.int .i64 ((ivPoint 0).lo), .int .i64 ((ivPoint 0).hi), .bool ((ivPoint 0).no)]) rfl rfl rfl (st_cf (vs := [.int .i64 0]) (r := .agg #[.int .i64 ((ivPoint 0).lo), .int .i64 ((ivPoint 0).hi), .bool ((ivPoint 0).no)]) (c_ivPoint 0) Try.func29 rfl (by decide) rfl rfl rfl ⟨rfl, rfl⟩) ?_
  refine dw_op (d := (some 6)) (.agg #[.int .i64 (((vecOf h (ivPoint 0) (ivPoint 0)).x).lo), .int .i64 (((vecOf h (ivPoint 0) (ivPoint 0)).x).hi), .bool (((vecOf h (ivPoint 0) (ivPoint 0)).x).no), .int .i64 (((vecOf h (ivPoint 0) (ivPoint 0)).y).lo), .int .i64 (((vecOf h (ivPoint 0) (ivPoint 0)).y).hi), .bool (((vecOf h (ivPoint 0) (ivPoint 0)).y).no), .int .i64 (((vecOf h (ivPoint 0) (ivPoint 0)).z).lo), .int .i64 (((vecOf h (ivPoint 0) (ivPoint 0)).z).hi), .bool (((vecOf h (ivPoint 0) (ivPoint 0)).z).no)]) rfl rfl rfl (st_cf (vs := [.agg #[.int .i64 h.lo, .int .i64 h.hi, .bool h.no], .agg #[.int .i64 ((ivPoint 0).lo), .int .i64 ((ivPoint 0).hi), .bool ((ivPoint 0).no)], .agg #[.int .i64 ((ivPoint 0).lo), .int .i64 ((ivPoint 0).hi), .bool ((ivPoint 0).no)]]) (r := .agg #[.int .i64 (((vecOf h (ivPoint 0) (ivPoint 0)).x).lo), .int .i64 (((vecOf h (ivPoint 0) (ivPoint 0)).x).hi), .bool (((vecOf h (ivPoint 0) (ivPoint 0)).x).no), .int .i64 (((vecOf h (ivPoint 0) (ivPoint 0)).y).lo), .int .i64 (((vecOf h (ivPoint 0) (ivPoint 0)).y).hi), .bool (((vecOf h (ivPoint 0) (ivPoint 0)).y).no), .int .i64 (((vecOf h (ivPoint 0) (ivPoint 0)).z).lo), .int .i64 (((vecOf h (ivPoint 0) (ivPoint 0)).z).hi), .bool (((vecOf h (ivPoint 0) (ivPoint 0)).z).no)]) (c_vecOf h (ivPoint 0) (ivPoint 0)) Try.func44 rfl (by decide) rfl rfl rfl ⟨rfl, rfl⟩) ?_
  refine dw_op (d := (some 7)) (.agg #[.int .i64 ((ivPoint 0).lo), .int .i64 ((ivPoint 0).hi), .bool ((ivPoint 0).no)]) rfl rfl rfl (st_cf (vs := [.int .i64 0]) (r := .agg #[.int .i64 ((ivPoint 0).lo), .int .i64 ((ivPoint 0).hi), .bool ((ivPoint 0).no)]) (c_ivPoint 0) Try.func29 rfl (by decide) rfl rfl rfl ⟨rfl, rfl⟩) ?_
  refine dw_op (d := (some 8)) (.agg #[.int .i64 ((ivPoint 0).lo), .int .i64 ((ivPoint 0).hi), .bool ((ivPoint 0).no)]) rfl rfl rfl (st_cf (vs := [.int .i64 0]) (r := .agg #[.int .i64 ((ivPoint 0).lo), .int .i64 ((ivPoint 0).hi), .bool ((ivPoint 0).no)]) (c_ivPoint 0) Try.func29 rfl (by decide) rfl rfl rfl ⟨rfl, rfl⟩) ?_
  refine dw_op (d := (some 9)) (.agg #[.int .i64 ((ivWhole 1).lo), .int .i64 ((ivWhole 1).hi), .bool ((ivWhole 1).no)]) rfl rfl rfl (st_cf (vs := [.int .i64 1]) (r := .agg #[.int .i64 ((ivWhole 1).lo), .int .i64 ((ivWhole 1).hi), .bool ((ivWhole 1).no)]) (c_ivWhole 1) Try.func21 rfl (by decide) rfl rfl rfl ⟨rfl, rfl⟩) ?_
  refine dw_op (d := (some 10)) (.agg #[.int .i64 (((vecOf (ivPoint 0) (ivPoint 0) (ivWhole 1)).x).lo), .int .i64 (((vecOf (ivPoint 0) (ivPoint 0) (ivWhole 1)).x).hi), .bool (((vecOf (ivPoint 0) (ivPoint 0) (ivWhole 1)).x).no), .int .i64 (((vecOf (ivPoint 0) (ivPoint 0) (ivWhole 1)).y).lo), .int .i64 (((vecOf (ivPoint 0) (ivPoint 0) (ivWhole 1)).y).hi), .bool (((vecOf (ivPoint 0) (ivPoint 0) (ivWhole 1)).y).no), .int .i64 (((vecOf (ivPoint 0) (ivPoint 0) (ivWhole 1)).z).lo), .int .i64 (((vecOf (ivPoint 0) (ivPoint 0) (ivWhole 1)).z).hi), .bool (((vecOf (ivPoint 0) (ivPoint 0) (ivWhole 1)).z).no)]) rfl rfl rfl (st_cf (vs := [.agg #[.int .i64 ((ivPoint 0).lo), .int .i64 ((ivPoint 0).hi), .bool ((ivPoint 0).no)], .agg #[.int .i64 ((ivPoint 0).lo), .int .i64 ((ivPoint 0).hi), .bool ((ivPoint 0).no)], .agg #[.int .i64 ((ivWhole 1).lo), .int .i64 ((ivWhole 1).hi), .bool ((ivWhole 1).no)]]) (r := .agg #[.int .i64 (((vecOf (ivPoint 0) (ivPoint 0) (ivWhole 1)).x).lo), .int .i64 (((vecOf (ivPoint 0) (ivPoint 0) (ivWhole 1)).x).hi), .bool (((vecOf (ivPoint 0) (ivPoint 0) (ivWhole 1)).x).no), .int .i64 (((vecOf (ivPoint 0) (ivPoint 0) (ivWhole 1)).y).lo), .int .i64 (((vecOf (ivPoint 0) (ivPoint 0) (ivWhole 1)).y).hi), .bool (((vecOf (ivPoint 0) (ivPoint 0) (ivWhole 1)).y).no), .int .i64 (((vecOf (ivPoint 0) (ivPoint 0) (ivWhole 1)).z).lo), .int .i64 (((vecOf (ivPoint 0) (ivPoint 0) (ivWhole 1)).z).hi), .bool (((vecOf (ivPoint 0) (ivPoint 0) (ivWhole 1)).z).no)]) (c_vecOf (ivPoint 0) (ivPoint 0) (ivWhole 1)) Try.func44 rfl (by decide) rfl rfl rfl ⟨rfl, rfl⟩) ?_
  refine dw_op (d := (some 11)) (.agg #[.int .i64 (((vecOf h (ivPoint 0) (ivPoint 0)).x).lo), .int .i64 (((vecOf h (ivPoint 0) (ivPoint 0)).x).hi), .bool (((vecOf h (ivPoint 0) (ivPoint 0)).x).no), .int .i64 (((vecOf h (ivPoint 0) (ivPoint 0)).y).lo), .int .i64 (((vecOf h (ivPoint 0) (ivPoint 0)).y).hi), .bool (((vecOf h (ivPoint 0) (ivPoint 0)).y).no), .int .i64 (((vecOf h (ivPoint 0) (ivPoint 0)).z).lo), .int .i64 (((vecOf h (ivPoint 0) (ivPoint 0)).z).hi), .bool (((vecOf h (ivPoint 0) (ivPoint 0)).z).no), .int .i64 (((vecOf (ivPoint 0) (ivPoint 0) (ivWhole 1)).x).lo), .int .i64 (((vecOf (ivPoint 0) (ivPoint 0) (ivWhole 1)).x).hi), .bool (((vecOf (ivPoint 0) (ivPoint 0) (ivWhole 1)).x).no), .int .i64 (((vecOf (ivPoint 0) (ivPoint 0) (ivWhole 1)).y).lo), .int .i64 (((vecOf (ivPoint 0) (ivPoint 0) (ivWhole 1)).y).hi), .bool (((vecOf (ivPoint 0) (ivPoint 0) (ivWhole 1)).y).no), .int .i64 (((vecOf (ivPoint 0) (ivPoint 0) (ivWhole 1)).z).lo), .int .i64 (((vecOf (ivPoint 0) (ivPoint 0) (ivWhole 1)).z).hi), .bool (((vecOf (ivPoint 0) (ivPoint 0) (ivWhole 1)).z).no)]) rfl rfl rfl (st_bd (us := [(0, .agg #[.int .i64 (((vecOf h (ivPoint 0) (ivPoint 0)).x).lo), .int .i64 (((vecOf h (ivPoint 0) (ivPoint 0)).x).hi), .bool (((vecOf h (ivPoint 0) (ivPoint 0)).x).no), .int .i64 (((vecOf h (ivPoint 0) (ivPoint 0)).y).lo), .int .i64 (((vecOf h (ivPoint 0) (ivPoint 0)).y).hi), .bool (((vecOf h (ivPoint 0) (ivPoint 0)).y).no), .int .i64 (((vecOf h (ivPoint 0) (ivPoint 0)).z).lo), .int .i64 (((vecOf h (ivPoint 0) (ivPoint 0)).z).hi), .bool (((vecOf h (ivPoint 0) (ivPoint 0)).z).no)]), (1, .agg #[.int .i64 (((vecOf (ivPoint 0) (ivPoint 0) (ivWhole 1)).x).lo), .int .i64 (((vecOf (ivPoint 0) (ivPoint 0) (ivWhole 1)).x).hi), .bool (((vecOf (ivPoint 0) (ivPoint 0) (ivWhole 1)).x).no), .int .i64 (((vecOf (ivPoint 0) (ivPoint 0) (ivWhole 1)).y).lo), .int .i64 (((vecOf (ivPoint 0) (ivPoint 0) (ivWhole 1)).y).hi), .bool (((vecOf (ivPoint 0) (ivPoint 0) (ivWhole 1)).y).no), .int .i64 (((vecOf (ivPoint 0) (ivPoint 0) (ivWhole 1)).z).lo), .int .i64 (((vecOf (ivPoint 0) (ivPoint 0) (ivWhole 1)).z).hi), .bool (((vecOf (ivPoint 0) (ivPoint 0) (ivWhole 1)).z).no)])]) (v := .agg #[.int .i64 (((vecOf h (ivPoint 0) (ivPoint 0)).x).lo), .int .i64 (((vecOf h (ivPoint 0) (ivPoint 0)).x).hi), .bool (((vecOf h (ivPoint 0) (ivPoint 0)).x).no), .int .i64 (((vecOf h (ivPoint 0) (ivPoint 0)).y).lo), .int .i64 (((vecOf h (ivPoint 0) (ivPoint 0)).y).hi), .bool (((vecOf h (ivPoint 0) (ivPoint 0)).y).no), .int .i64 (((vecOf h (ivPoint 0) (ivPoint 0)).z).lo), .int .i64 (((vecOf h (ivPoint 0) (ivPoint 0)).z).hi), .bool (((vecOf h (ivPoint 0) (ivPoint 0)).z).no), .int .i64 (((vecOf (ivPoint 0) (ivPoint 0) (ivWhole 1)).x).lo), .int .i64 (((vecOf (ivPoint 0) (ivPoint 0) (ivWhole 1)).x).hi), .bool (((vecOf (ivPoint 0) (ivPoint 0) (ivWhole 1)).x).no), .int .i64 (((vecOf (ivPoint 0) (ivPoint 0) (ivWhole 1)).y).lo), .int .i64 (((vecOf (ivPoint 0) (ivPoint 0) (ivWhole 1)).y).hi), .bool (((vecOf (ivPoint 0) (ivPoint 0) (ivWhole 1)).y).no), .int .i64 (((vecOf (ivPoint 0) (ivPoint 0) (ivWhole 1)).z).lo), .int .i64 (((vecOf (ivPoint 0) (ivPoint 0) (ivWhole 1)).z).hi), .bool (((vecOf (ivPoint 0) (ivPoint 0) (ivWhole 1)).z).no)]) rfl rfl (bd77_0a_1a _ _ _ _ _ _ _ _ _ _ _ _ _ _ _ _ _ _) ⟨rfl, rfl⟩) ?_
  refine dw_nil ?_
  refine ar_op (d := none) rfl rfl (st_sta (g := g1) (off := 0) (us := [.int .i64 (((vecOf h (ivPoint 0) (ivPoint 0)).x).lo), .int .i64 (((vecOf h (ivPoint 0) (ivPoint 0)).x).hi), .bool (((vecOf h (ivPoint 0) (ivPoint 0)).x).no), .int .i64 (((vecOf h (ivPoint 0) (ivPoint 0)).y).lo), .int .i64 (((vecOf h (ivPoint 0) (ivPoint 0)).y).hi), .bool (((vecOf h (ivPoint 0) (ivPoint 0)).y).no), .int .i64 (((vecOf h (ivPoint 0) (ivPoint 0)).z).lo), .int .i64 (((vecOf h (ivPoint 0) (ivPoint 0)).z).hi), .bool (((vecOf h (ivPoint 0) (ivPoint 0)).z).no), .int .i64 (((vecOf (ivPoint 0) (ivPoint 0) (ivWhole 1)).x).lo), .int .i64 (((vecOf (ivPoint 0) (ivPoint 0) (ivWhole 1)).x).hi), .bool (((vecOf (ivPoint 0) (ivPoint 0) (ivWhole 1)).x).no), .int .i64 (((vecOf (ivPoint 0) (ivPoint 0) (ivWhole 1)).y).lo), .int .i64 (((vecOf (ivPoint 0) (ivPoint 0) (ivWhole 1)).y).hi), .bool (((vecOf (ivPoint 0) (ivPoint 0) (ivWhole 1)).y).no), .int .i64 (((vecOf (ivPoint 0) (ivPoint 0) (ivWhole 1)).z).lo), .int .i64 (((vecOf (ivPoint 0) (ivPoint 0) (ivWhole 1)).z).hi), .bool (((vecOf (ivPoint 0) (ivPoint 0) (ivWhole 1)).z).no)]) (cs := [.int .i64 (((vecOf h (ivPoint 0) (ivPoint 0)).x).lo), .int .i64 (((vecOf h (ivPoint 0) (ivPoint 0)).x).hi), .bool (((vecOf h (ivPoint 0) (ivPoint 0)).x).no), .int .i64 (((vecOf h (ivPoint 0) (ivPoint 0)).y).lo), .int .i64 (((vecOf h (ivPoint 0) (ivPoint 0)).y).hi), .bool (((vecOf h (ivPoint 0) (ivPoint 0)).y).no), .int .i64 (((vecOf h (ivPoint 0) (ivPoint 0)).z).lo), .int .i64 (((vecOf h (ivPoint 0) (ivPoint 0)).z).hi), .bool (((vecOf h (ivPoint 0) (ivPoint 0)).z).no), .int .i64 (((vecOf (ivPoint 0) (ivPoint 0) (ivWhole 1)).x).lo), .int .i64 (((vecOf (ivPoint 0) (ivPoint 0) (ivWhole 1)).x).hi), .bool (((vecOf (ivPoint 0) (ivPoint 0) (ivWhole 1)).x).no), .int .i64 (((vecOf (ivPoint 0) (ivPoint 0) (ivWhole 1)).y).lo), .int .i64 (((vecOf (ivPoint 0) (ivPoint 0) (ivWhole 1)).y).hi), .bool (((vecOf (ivPoint 0) (ivPoint 0) (ivWhole 1)).y).no), .int .i64 (((vecOf (ivPoint 0) (ivPoint 0) (ivWhole 1)).z).lo), .int .i64 (((vecOf (ivPoint 0) (ivPoint 0) (ivWhole 1)).z).hi), .bool (((vecOf (ivPoint 0) (ivPoint 0) (ivWhole 1)).z).no)]) agg77 0 rfl rfl rfl rfl rfl rfl rfl rfl rfl ?_)
  refine ar_nil ?_
  refine ac_ret ?_
  exact fin_eq (v := .agg #[.int .i64 (((vecOf h (ivPoint 0) (ivPoint 0)).x).lo), .int .i64 (((vecOf h (ivPoint 0) (ivPoint 0)).x).hi), .bool (((vecOf h (ivPoint 0) (ivPoint 0)).x).no), .int .i64 (((vecOf h (ivPoint 0) (ivPoint 0)).y).lo), .int .i64 (((vecOf h (ivPoint 0) (ivPoint 0)).y).hi), .bool (((vecOf h (ivPoint 0) (ivPoint 0)).y).no), .int .i64 (((vecOf h (ivPoint 0) (ivPoint 0)).z).lo), .int .i64 (((vecOf h (ivPoint 0) (ivPoint 0)).z).hi), .bool (((vecOf h (ivPoint 0) (ivPoint 0)).z).no), .int .i64 (((vecOf (ivPoint 0) (ivPoint 0) (ivWhole 1)).x).lo), .int .i64 (((vecOf (ivPoint 0) (ivPoint 0) (ivWhole 1)).x).hi), .bool (((vecOf (ivPoint 0) (ivPoint 0) (ivWhole 1)).x).no), .int .i64 (((vecOf (ivPoint 0) (ivPoint 0) (ivWhole 1)).y).lo), .int .i64 (((vecOf (ivPoint 0) (ivPoint 0) (ivWhole 1)).y).hi), .bool (((vecOf (ivPoint 0) (ivPoint 0) (ivWhole 1)).y).no), .int .i64 (((vecOf (ivPoint 0) (ivPoint 0) (ivWhole 1)).z).lo), .int .i64 (((vecOf (ivPoint 0) (ivPoint 0) (ivWhole 1)).z).hi), .bool (((vecOf (ivPoint 0) (ivPoint 0) (ivWhole 1)).z).no)]) rfl (fin_ret (res_c (vs := [.int .i64 (((vecOf h (ivPoint 0) (ivPoint 0)).x).lo), .int .i64 (((vecOf h (ivPoint 0) (ivPoint 0)).x).hi), .bool (((vecOf h (ivPoint 0) (ivPoint 0)).x).no), .int .i64 (((vecOf h (ivPoint 0) (ivPoint 0)).y).lo), .int .i64 (((vecOf h (ivPoint 0) (ivPoint 0)).y).hi), .bool (((vecOf h (ivPoint 0) (ivPoint 0)).y).no), .int .i64 (((vecOf h (ivPoint 0) (ivPoint 0)).z).lo), .int .i64 (((vecOf h (ivPoint 0) (ivPoint 0)).z).hi), .bool (((vecOf h (ivPoint 0) (ivPoint 0)).z).no), .int .i64 (((vecOf (ivPoint 0) (ivPoint 0) (ivWhole 1)).x).lo), .int .i64 (((vecOf (ivPoint 0) (ivPoint 0) (ivWhole 1)).x).hi), .bool (((vecOf (ivPoint 0) (ivPoint 0) (ivWhole 1)).x).no), .int .i64 (((vecOf (ivPoint 0) (ivPoint 0) (ivWhole 1)).y).lo), .int .i64 (((vecOf (ivPoint 0) (ivPoint 0) (ivWhole 1)).y).hi), .bool (((vecOf (ivPoint 0) (ivPoint 0) (ivWhole 1)).y).no), .int .i64 (((vecOf (ivPoint 0) (ivPoint 0) (ivWhole 1)).z).lo), .int .i64 (((vecOf (ivPoint 0) (ivPoint 0) (ivWhole 1)).z).hi), .bool (((vecOf (ivPoint 0) (ivPoint 0) (ivWhole 1)).z).no)]) agg77 0 rfl rfl rfl rfl rfl rfl))
def ball26 (z : Int) (r : Int) : Shape := (⟨1, (⟨0, 0⟩ : Dec), (⟨0, 0⟩ : Dec), (⟨z, 0⟩ : Dec), (⟨r, 0⟩ : Dec), (⟨1, 2, 3⟩ : A3)⟩ : Shape)
set_option maxRecDepth 100000 in
theorem c_ball26 (z : Int) (r : Int) : Gets Try.prog 61 #[.int .i64 z, .int .i64 r] (Shape.v (ball26 z r)) := by
  refine gets_fin Try.func61 rfl rfl rfl ?_
  refine ac_seq ?_
  refine ac_region_lit ?_
  refine ao 4 rfl rfl (st_new zero86 rfl fun g0 => ?_)
  refine ar_nil ?_
  refine ac_seq ?_
  refine ac_region_lit ?_
  refine ao 5 rfl rfl (st_move (v := .int .i64 z) rfl rfl ?_)
  refine ao 6 rfl rfl (st_bd (us := [(0, .int .i64 z)]) (v := .agg #[.int .i64 z, .int .i64 0]) rfl rfl (bd83_0 _) ?_)
  refine ao 7 rfl rfl (st_move (v := .int .i64 r) rfl rfl ?_)
  refine ao 8 rfl rfl (st_bd (us := [(0, .int .i64 r)]) (v := .agg #[.int .i64 r, .int .i64 0]) rfl rfl (bd83_0 _) ?_)
  refine ao 9 rfl rfl (st_bd (us := [(0, .int .i64 1), (1, .int .i64 2), (2, .int .i64 3)]) (v := .agg #[.int .i64 1, .int .i64 2, .int .i64 3]) rfl rfl (bd84_0_1_2 _ _ _) ?_)
  refine ao 10 rfl rfl (st_bd (us := [(0, .int .i64 1), (3, .agg #[.int .i64 z, .int .i64 0]), (4, .agg #[.int .i64 r, .int .i64 0]), (5, .agg #[.int .i64 1, .int .i64 2, .int .i64 3])]) (v := .agg #[.int .i64 1, .int .i64 0, .int .i64 0, .int .i64 0, .int .i64 0, .int .i64 z, .int .i64 0, .int .i64 r, .int .i64 0, .int .i64 1, .int .i64 2, .int .i64 3]) rfl rfl (bd86_0_3a_4a_5a _ _ _ _ _ _ _ _) ?_)
  refine ar_op (d := none) rfl rfl (st_sta (g := g0) (off := 0) (us := [.int .i64 1, .int .i64 0, .int .i64 0, .int .i64 0, .int .i64 0, .int .i64 z, .int .i64 0, .int .i64 r, .int .i64 0, .int .i64 1, .int .i64 2, .int .i64 3]) (cs := [.int .i64 1, .int .i64 0, .int .i64 0, .int .i64 0, .int .i64 0, .int .i64 z, .int .i64 0, .int .i64 r, .int .i64 0, .int .i64 1, .int .i64 2, .int .i64 3]) agg86 0 rfl rfl rfl rfl rfl rfl rfl rfl rfl ?_)
  refine ar_nil ?_
  refine ac_ret ?_
  exact fin_eq (v := .agg #[.int .i64 1, .int .i64 0, .int .i64 0, .int .i64 0, .int .i64 0, .int .i64 z, .int .i64 0, .int .i64 r, .int .i64 0, .int .i64 1, .int .i64 2, .int .i64 3]) rfl (fin_ret (res_c (vs := [.int .i64 1, .int .i64 0, .int .i64 0, .int .i64 0, .int .i64 0, .int .i64 z, .int .i64 0, .int .i64 r, .int .i64 0, .int .i64 1, .int .i64 2, .int .i64 3]) agg86 0 rfl rfl rfl rfl rfl rfl))
def wall26 (z : Int) : Shape := (⟨2, (⟨0, 0⟩ : Dec), (⟨0, 0⟩ : Dec), (⟨z, 0⟩ : Dec), (⟨0, 0⟩ : Dec), (⟨0, 0, 0⟩ : A3)⟩ : Shape)
set_option maxRecDepth 100000 in
theorem c_wall26 (z : Int) : Gets Try.prog 63 #[.int .i64 z] (Shape.v (wall26 z)) := by
  refine gets_fin Try.func63 rfl rfl rfl ?_
  refine ac_seq ?_
  refine ac_region_lit ?_
  refine ao 2 rfl rfl (st_new zero86 rfl fun g0 => ?_)
  refine ar_nil ?_
  refine ac_seq ?_
  refine ac_region_lit ?_
  refine ao 3 rfl rfl (st_move (v := .int .i64 z) rfl rfl ?_)
  refine ao 4 rfl rfl (st_bd (us := [(0, .int .i64 z)]) (v := .agg #[.int .i64 z, .int .i64 0]) rfl rfl (bd83_0 _) ?_)
  refine ao 5 rfl rfl (st_bd (us := [(0, .int .i64 2), (3, .agg #[.int .i64 z, .int .i64 0])]) (v := .agg #[.int .i64 2, .int .i64 0, .int .i64 0, .int .i64 0, .int .i64 0, .int .i64 z, .int .i64 0, .int .i64 0, .int .i64 0, .int .i64 0, .int .i64 0, .int .i64 0]) rfl rfl (bd86_0_3a _ _ _) ?_)
  refine ar_op (d := none) rfl rfl (st_sta (g := g0) (off := 0) (us := [.int .i64 2, .int .i64 0, .int .i64 0, .int .i64 0, .int .i64 0, .int .i64 z, .int .i64 0, .int .i64 0, .int .i64 0, .int .i64 0, .int .i64 0, .int .i64 0]) (cs := [.int .i64 2, .int .i64 0, .int .i64 0, .int .i64 0, .int .i64 0, .int .i64 z, .int .i64 0, .int .i64 0, .int .i64 0, .int .i64 0, .int .i64 0, .int .i64 0]) agg86 0 rfl rfl rfl rfl rfl rfl rfl rfl rfl ?_)
  refine ar_nil ?_
  refine ac_ret ?_
  exact fin_eq (v := .agg #[.int .i64 2, .int .i64 0, .int .i64 0, .int .i64 0, .int .i64 0, .int .i64 z, .int .i64 0, .int .i64 0, .int .i64 0, .int .i64 0, .int .i64 0, .int .i64 0]) rfl (fin_ret (res_c (vs := [.int .i64 2, .int .i64 0, .int .i64 0, .int .i64 0, .int .i64 0, .int .i64 z, .int .i64 0, .int .i64 0, .int .i64 0, .int .i64 0, .int .i64 0, .int .i64 0]) agg86 0 rfl rfl rfl rfl rfl rfl))
def known26  : Bool := (bif ((near0 (axis26 (ivPoint 0))).1) == (-1) then (bif decide (((near0 (axis26 (ivPoint 0))).2.1) = ivNone) then (bif ((near0 (axis26 (ivPoint 0))).2.2) == 2 then (bif ((sceneHit (ball26 20 5) (axis26 (ivPoint 0))).2) == 1 then decide (((sceneHit (ball26 20 5) (axis26 (ivPoint 0))).1) = (ivWhole 15)) else false) else false) else false) else false)
set_option maxRecDepth 100000 in
theorem c_known26  : Gets Try.prog 59 #[] ((fun (r : Bool) => (.bool r : Value)) known26) := by
  refine gets_fin Try.func59 rfl rfl rfl ?_
  refine ac_seq ?_
  refine ac_region_lit ?_
  refine ao 0 rfl rfl (st_assign (v := .bool false) rfl rfl ?_)
  refine ar_nil ?_
  refine ac_seq ?_
  refine ac_region_lit ?_
  refine ao 7 rfl rfl (st_cf (vs := [.int .i64 0]) (r := .agg #[.int .i64 ((ivPoint 0).lo), .int .i64 ((ivPoint 0).hi), .bool ((ivPoint 0).no)]) (c_ivPoint 0) Try.func29 rfl (by decide) rfl rfl rfl ?_)
  refine ao 8 rfl rfl (st_cf (vs := [.agg #[.int .i64 ((ivPoint 0).lo), .int .i64 ((ivPoint 0).hi), .bool ((ivPoint 0).no)]]) (r := .agg #[.int .i64 ((((axis26 (ivPoint 0)).o).x).lo), .int .i64 ((((axis26 (ivPoint 0)).o).x).hi), .bool ((((axis26 (ivPoint 0)).o).x).no), .int .i64 ((((axis26 (ivPoint 0)).o).y).lo), .int .i64 ((((axis26 (ivPoint 0)).o).y).hi), .bool ((((axis26 (ivPoint 0)).o).y).no), .int .i64 ((((axis26 (ivPoint 0)).o).z).lo), .int .i64 ((((axis26 (ivPoint 0)).o).z).hi), .bool ((((axis26 (ivPoint 0)).o).z).no), .int .i64 ((((axis26 (ivPoint 0)).d).x).lo), .int .i64 ((((axis26 (ivPoint 0)).d).x).hi), .bool ((((axis26 (ivPoint 0)).d).x).no), .int .i64 ((((axis26 (ivPoint 0)).d).y).lo), .int .i64 ((((axis26 (ivPoint 0)).d).y).hi), .bool ((((axis26 (ivPoint 0)).d).y).no), .int .i64 ((((axis26 (ivPoint 0)).d).z).lo), .int .i64 ((((axis26 (ivPoint 0)).d).z).hi), .bool ((((axis26 (ivPoint 0)).d).z).no)]) (c_axis26 (ivPoint 0)) Try.func60 rfl (by decide) rfl rfl rfl ?_)
  refine ao 9 rfl rfl (st_cf (vs := [.slice none 0 0, .agg #[.int .i64 ((((axis26 (ivPoint 0)).o).x).lo), .int .i64 ((((axis26 (ivPoint 0)).o).x).hi), .bool ((((axis26 (ivPoint 0)).o).x).no), .int .i64 ((((axis26 (ivPoint 0)).o).y).lo), .int .i64 ((((axis26 (ivPoint 0)).o).y).hi), .bool ((((axis26 (ivPoint 0)).o).y).no), .int .i64 ((((axis26 (ivPoint 0)).o).z).lo), .int .i64 ((((axis26 (ivPoint 0)).o).z).hi), .bool ((((axis26 (ivPoint 0)).o).z).no), .int .i64 ((((axis26 (ivPoint 0)).d).x).lo), .int .i64 ((((axis26 (ivPoint 0)).d).x).hi), .bool ((((axis26 (ivPoint 0)).d).x).no), .int .i64 ((((axis26 (ivPoint 0)).d).y).lo), .int .i64 ((((axis26 (ivPoint 0)).d).y).hi), .bool ((((axis26 (ivPoint 0)).d).y).no), .int .i64 ((((axis26 (ivPoint 0)).d).z).lo), .int .i64 ((((axis26 (ivPoint 0)).d).z).hi), .bool ((((axis26 (ivPoint 0)).d).z).no)]]) (r := .tuple #[.int .i64 ((near0 (axis26 (ivPoint 0))).1), .agg #[.int .i64 (((near0 (axis26 (ivPoint 0))).2.1).lo), .int .i64 (((near0 (axis26 (ivPoint 0))).2.1).hi), .bool (((near0 (axis26 (ivPoint 0))).2.1).no)], .int .i64 ((near0 (axis26 (ivPoint 0))).2.2)]) (c_near0 (axis26 (ivPoint 0))) Try.func57 rfl (by decide) rfl rfl rfl ?_)
  refine ao 6 rfl rfl (st_move (v := .tuple #[.int .i64 ((near0 (axis26 (ivPoint 0))).1), .agg #[.int .i64 (((near0 (axis26 (ivPoint 0))).2.1).lo), .int .i64 (((near0 (axis26 (ivPoint 0))).2.1).hi), .bool (((near0 (axis26 (ivPoint 0))).2.1).no)], .int .i64 ((near0 (axis26 (ivPoint 0))).2.2)]) rfl rfl ?_)
  refine ao 10 rfl rfl (st_ex (vs := [.int .i64 ((near0 (axis26 (ivPoint 0))).1), .agg #[.int .i64 (((near0 (axis26 (ivPoint 0))).2.1).lo), .int .i64 (((near0 (axis26 (ivPoint 0))).2.1).hi), .bool (((near0 (axis26 (ivPoint 0))).2.1).no)], .int .i64 ((near0 (axis26 (ivPoint 0))).2.2)]) (v := .int .i64 ((near0 (axis26 (ivPoint 0))).1)) rfl rfl rfl ?_)
  refine ao 11 rfl rfl (st_ex (vs := [.int .i64 ((near0 (axis26 (ivPoint 0))).1), .agg #[.int .i64 (((near0 (axis26 (ivPoint 0))).2.1).lo), .int .i64 (((near0 (axis26 (ivPoint 0))).2.1).hi), .bool (((near0 (axis26 (ivPoint 0))).2.1).no)], .int .i64 ((near0 (axis26 (ivPoint 0))).2.2)]) (v := .agg #[.int .i64 (((near0 (axis26 (ivPoint 0))).2.1).lo), .int .i64 (((near0 (axis26 (ivPoint 0))).2.1).hi), .bool (((near0 (axis26 (ivPoint 0))).2.1).no)]) rfl rfl rfl ?_)
  refine ao 12 rfl rfl (st_ex (vs := [.int .i64 ((near0 (axis26 (ivPoint 0))).1), .agg #[.int .i64 (((near0 (axis26 (ivPoint 0))).2.1).lo), .int .i64 (((near0 (axis26 (ivPoint 0))).2.1).hi), .bool (((near0 (axis26 (ivPoint 0))).2.1).no)], .int .i64 ((near0 (axis26 (ivPoint 0))).2.2)]) (v := .int .i64 ((near0 (axis26 (ivPoint 0))).2.2)) rfl rfl rfl ?_)
  refine ao 2 rfl rfl (st_new zero26 rfl fun g0 => ?_)
  refine ao 1 rfl rfl (st_assign (v := .int .i64 ((near0 (axis26 (ivPoint 0))).1)) rfl rfl ?_)
  refine ar_op (d := none) rfl rfl (st_sta (g := g0) (off := 0) (us := [.int .i64 (((near0 (axis26 (ivPoint 0))).2.1).lo), .int .i64 (((near0 (axis26 (ivPoint 0))).2.1).hi), .bool (((near0 (axis26 (ivPoint 0))).2.1).no)]) (cs := [.int .i64 (((near0 (axis26 (ivPoint 0))).2.1).lo), .int .i64 (((near0 (axis26 (ivPoint 0))).2.1).hi), .bool (((near0 (axis26 (ivPoint 0))).2.1).no)]) agg26 0 rfl rfl rfl rfl rfl rfl rfl rfl rfl ?_)
  refine ao 3 rfl rfl (st_assign (v := .int .i64 ((near0 (axis26 (ivPoint 0))).2.2)) rfl rfl ?_)
  refine ar_nil ?_
  refine ac_seq ?_
  refine ac_region_lit ?_
  refine ao 14 rfl rfl (st_cf (vs := [.int .i64 20, .int .i64 5]) (r := .agg #[.int .i64 ((ball26 20 5).kind), .int .i64 (((ball26 20 5).x).c), .int .i64 (((ball26 20 5).x).scale), .int .i64 (((ball26 20 5).y).c), .int .i64 (((ball26 20 5).y).scale), .int .i64 (((ball26 20 5).z).c), .int .i64 (((ball26 20 5).z).scale), .int .i64 (((ball26 20 5).r).c), .int .i64 (((ball26 20 5).r).scale), .int .i64 (((ball26 20 5).glow).a0), .int .i64 (((ball26 20 5).glow).a1), .int .i64 (((ball26 20 5).glow).a2)]) (c_ball26 20 5) Try.func61 rfl (by decide) rfl rfl rfl ?_)
  refine ao 15 rfl rfl (st_cf (vs := [.int .i64 0]) (r := .agg #[.int .i64 ((ivPoint 0).lo), .int .i64 ((ivPoint 0).hi), .bool ((ivPoint 0).no)]) (c_ivPoint 0) Try.func29 rfl (by decide) rfl rfl rfl ?_)
  refine ao 16 rfl rfl (st_cf (vs := [.agg #[.int .i64 ((ivPoint 0).lo), .int .i64 ((ivPoint 0).hi), .bool ((ivPoint 0).no)]]) (r := .agg #[.int .i64 ((((axis26 (ivPoint 0)).o).x).lo), .int .i64 ((((axis26 (ivPoint 0)).o).x).hi), .bool ((((axis26 (ivPoint 0)).o).x).no), .int .i64 ((((axis26 (ivPoint 0)).o).y).lo), .int .i64 ((((axis26 (ivPoint 0)).o).y).hi), .bool ((((axis26 (ivPoint 0)).o).y).no), .int .i64 ((((axis26 (ivPoint 0)).o).z).lo), .int .i64 ((((axis26 (ivPoint 0)).o).z).hi), .bool ((((axis26 (ivPoint 0)).o).z).no), .int .i64 ((((axis26 (ivPoint 0)).d).x).lo), .int .i64 ((((axis26 (ivPoint 0)).d).x).hi), .bool ((((axis26 (ivPoint 0)).d).x).no), .int .i64 ((((axis26 (ivPoint 0)).d).y).lo), .int .i64 ((((axis26 (ivPoint 0)).d).y).hi), .bool ((((axis26 (ivPoint 0)).d).y).no), .int .i64 ((((axis26 (ivPoint 0)).d).z).lo), .int .i64 ((((axis26 (ivPoint 0)).d).z).hi), .bool ((((axis26 (ivPoint 0)).d).z).no)]) (c_axis26 (ivPoint 0)) Try.func60 rfl (by decide) rfl rfl rfl ?_)
  refine ao 17 rfl rfl (st_cf (vs := [.agg #[.int .i64 ((ball26 20 5).kind), .int .i64 (((ball26 20 5).x).c), .int .i64 (((ball26 20 5).x).scale), .int .i64 (((ball26 20 5).y).c), .int .i64 (((ball26 20 5).y).scale), .int .i64 (((ball26 20 5).z).c), .int .i64 (((ball26 20 5).z).scale), .int .i64 (((ball26 20 5).r).c), .int .i64 (((ball26 20 5).r).scale), .int .i64 (((ball26 20 5).glow).a0), .int .i64 (((ball26 20 5).glow).a1), .int .i64 (((ball26 20 5).glow).a2)], .agg #[.int .i64 ((((axis26 (ivPoint 0)).o).x).lo), .int .i64 ((((axis26 (ivPoint 0)).o).x).hi), .bool ((((axis26 (ivPoint 0)).o).x).no), .int .i64 ((((axis26 (ivPoint 0)).o).y).lo), .int .i64 ((((axis26 (ivPoint 0)).o).y).hi), .bool ((((axis26 (ivPoint 0)).o).y).no), .int .i64 ((((axis26 (ivPoint 0)).o).z).lo), .int .i64 ((((axis26 (ivPoint 0)).o).z).hi), .bool ((((axis26 (ivPoint 0)).o).z).no), .int .i64 ((((axis26 (ivPoint 0)).d).x).lo), .int .i64 ((((axis26 (ivPoint 0)).d).x).hi), .bool ((((axis26 (ivPoint 0)).d).x).no), .int .i64 ((((axis26 (ivPoint 0)).d).y).lo), .int .i64 ((((axis26 (ivPoint 0)).d).y).hi), .bool ((((axis26 (ivPoint 0)).d).y).no), .int .i64 ((((axis26 (ivPoint 0)).d).z).lo), .int .i64 ((((axis26 (ivPoint 0)).d).z).hi), .bool ((((axis26 (ivPoint 0)).d).z).no)]]) (r := .tuple #[.agg #[.int .i64 (((sceneHit (ball26 20 5) (axis26 (ivPoint 0))).1).lo), .int .i64 (((sceneHit (ball26 20 5) (axis26 (ivPoint 0))).1).hi), .bool (((sceneHit (ball26 20 5) (axis26 (ivPoint 0))).1).no)], .int .i64 ((sceneHit (ball26 20 5) (axis26 (ivPoint 0))).2)]) (c_sceneHit (ball26 20 5) (axis26 (ivPoint 0))) Try.func58 rfl (by decide) rfl rfl rfl ?_)
  refine ao 13 rfl rfl (st_move (v := .tuple #[.agg #[.int .i64 (((sceneHit (ball26 20 5) (axis26 (ivPoint 0))).1).lo), .int .i64 (((sceneHit (ball26 20 5) (axis26 (ivPoint 0))).1).hi), .bool (((sceneHit (ball26 20 5) (axis26 (ivPoint 0))).1).no)], .int .i64 ((sceneHit (ball26 20 5) (axis26 (ivPoint 0))).2)]) rfl rfl ?_)
  refine ao 18 rfl rfl (st_ex (vs := [.agg #[.int .i64 (((sceneHit (ball26 20 5) (axis26 (ivPoint 0))).1).lo), .int .i64 (((sceneHit (ball26 20 5) (axis26 (ivPoint 0))).1).hi), .bool (((sceneHit (ball26 20 5) (axis26 (ivPoint 0))).1).no)], .int .i64 ((sceneHit (ball26 20 5) (axis26 (ivPoint 0))).2)]) (v := .agg #[.int .i64 (((sceneHit (ball26 20 5) (axis26 (ivPoint 0))).1).lo), .int .i64 (((sceneHit (ball26 20 5) (axis26 (ivPoint 0))).1).hi), .bool (((sceneHit (ball26 20 5) (axis26 (ivPoint 0))).1).no)]) rfl rfl rfl ?_)
  refine ao 19 rfl rfl (st_ex (vs := [.agg #[.int .i64 (((sceneHit (ball26 20 5) (axis26 (ivPoint 0))).1).lo), .int .i64 (((sceneHit (ball26 20 5) (axis26 (ivPoint 0))).1).hi), .bool (((sceneHit (ball26 20 5) (axis26 (ivPoint 0))).1).no)], .int .i64 ((sceneHit (ball26 20 5) (axis26 (ivPoint 0))).2)]) (v := .int .i64 ((sceneHit (ball26 20 5) (axis26 (ivPoint 0))).2)) rfl rfl rfl ?_)
  refine ao 4 rfl rfl (st_new zero26 rfl fun g1 => ?_)
  refine ar_op (d := none) rfl rfl (st_sta (g := g1) (off := 0) (us := [.int .i64 (((sceneHit (ball26 20 5) (axis26 (ivPoint 0))).1).lo), .int .i64 (((sceneHit (ball26 20 5) (axis26 (ivPoint 0))).1).hi), .bool (((sceneHit (ball26 20 5) (axis26 (ivPoint 0))).1).no)]) (cs := [.int .i64 (((sceneHit (ball26 20 5) (axis26 (ivPoint 0))).1).lo), .int .i64 (((sceneHit (ball26 20 5) (axis26 (ivPoint 0))).1).hi), .bool (((sceneHit (ball26 20 5) (axis26 (ivPoint 0))).1).no)]) agg26 0 rfl rfl rfl rfl rfl rfl rfl rfl rfl ?_)
  refine ao 5 rfl rfl (st_assign (v := .int .i64 ((sceneHit (ball26 20 5) (axis26 (ivPoint 0))).2)) rfl rfl ?_)
  refine ar_nil ?_
  refine ac_seq ?_
  refine ac_draw0 (id := 3) [0, 1, 2, 3, 4, 5, 6, 7, 8, 9, 10, 11, 12, 13, 14, 15, 16, 17, 18, 19, 20] [] _ (by kernel_rfl) follows rfl  ?_
  refine dw_op (d := (some 20)) (.int .i64 ((near0 (axis26 (ivPoint 0))).1)) rfl rfl rfl (st_move (v := .int .i64 ((near0 (axis26 (ivPoint 0))).1)) rfl rfl ⟨rfl, rfl⟩) ?_
  refine dw_op (d := (some 21)) (.bool (((near0 (axis26 (ivPoint 0))).1) == (-1))) rfl rfl rfl (st_bi (u := .int .i64 ((near0 (axis26 (ivPoint 0))).1)) (v := .int .i64 (-1)) (r := .bool (((near0 (axis26 (ivPoint 0))).1) == (-1))) rfl rfl rfl (bi_eql rfl) ⟨rfl, rfl⟩) ?_
  refine dw_op (d := (some 22)) (.bool (((near0 (axis26 (ivPoint 0))).1) == (-1))) rfl rfl rfl (st_move (v := .bool (((near0 (axis26 (ivPoint 0))).1) == (-1))) rfl rfl ⟨rfl, rfl⟩) ?_
  refine bool_split (((near0 (axis26 (ivPoint 0))).1) == (-1)) (fun h1 => ?_) (fun h1 => ?_)
  · refine dw_gd (d := (some 23)) (.agg #[.int .i64 (((near0 (axis26 (ivPoint 0))).2.1).lo), .int .i64 (((near0 (axis26 (ivPoint 0))).2.1).hi), .bool (((near0 (axis26 (ivPoint 0))).2.1).no)]) rfl (by show ((((near0 (axis26 (ivPoint 0))).1) == (-1)) == true) = true; rw [h1]; rfl) rfl (st_lda (g := g0) (off := 0) (vs := [.int .i64 (((near0 (axis26 (ivPoint 0))).2.1).lo), .int .i64 (((near0 (axis26 (ivPoint 0))).2.1).hi), .bool (((near0 (axis26 (ivPoint 0))).2.1).no)]) agg26 1 rfl rfl rfl rfl rfl rfl ⟨rfl, rfl⟩) ?_
    refine dw_gd (d := (some 24)) (.agg #[.int .i64 ivNone.lo, .int .i64 ivNone.hi, .bool ivNone.no]) rfl (by show ((((near0 (axis26 (ivPoint 0))).1) == (-1)) == true) = true; rw [h1]; rfl) rfl (st_cf (vs := []) (r := .agg #[.int .i64 ivNone.lo, .int .i64 ivNone.hi, .bool ivNone.no]) c_ivNone Try.func28 rfl (by decide) rfl rfl rfl ⟨rfl, rfl⟩) ?_
    refine dw_gd (d := (some 25)) (.bool (decide (((near0 (axis26 (ivPoint 0))).2.1) = ivNone))) rfl (by show ((((near0 (axis26 (ivPoint 0))).1) == (-1)) == true) = true; rw [h1]; rfl) rfl (st_bi (u := .agg #[.int .i64 (((near0 (axis26 (ivPoint 0))).2.1).lo), .int .i64 (((near0 (axis26 (ivPoint 0))).2.1).hi), .bool (((near0 (axis26 (ivPoint 0))).2.1).no)]) (v := .agg #[.int .i64 ivNone.lo, .int .i64 ivNone.hi, .bool ivNone.no]) (r := .bool (decide (((near0 (axis26 (ivPoint 0))).2.1) = ivNone))) rfl rfl rfl (beql_26 ((near0 (axis26 (ivPoint 0))).2.1) ivNone rfl) ⟨rfl, rfl⟩) ?_
    refine dw_op (d := (some 26)) (.bool (decide (((near0 (axis26 (ivPoint 0))).2.1) = ivNone))) rfl rfl rfl (st_pkt' (b := ((near0 (axis26 (ivPoint 0))).1) == (-1)) (v := .bool (decide (((near0 (axis26 (ivPoint 0))).2.1) = ivNone))) h1 rfl rfl rfl ⟨rfl, rfl⟩) ?_
    refine dw_op (d := (some 27)) (.bool (decide (((near0 (axis26 (ivPoint 0))).2.1) = ivNone))) rfl rfl rfl (st_move (v := .bool (decide (((near0 (axis26 (ivPoint 0))).2.1) = ivNone))) rfl rfl ⟨rfl, rfl⟩) ?_
    refine bool_split (decide (((near0 (axis26 (ivPoint 0))).2.1) = ivNone)) (fun h2 => ?_) (fun h2 => ?_)
    · refine dw_gd (d := (some 28)) (.int .i64 ((near0 (axis26 (ivPoint 0))).2.2)) rfl (by show ((decide (((near0 (axis26 (ivPoint 0))).2.1) = ivNone)) == true) = true; rw [h2]; rfl) rfl (st_move (v := .int .i64 ((near0 (axis26 (ivPoint 0))).2.2)) rfl rfl ⟨rfl, rfl⟩) ?_
      refine dw_gd (d := (some 29)) (.bool (((near0 (axis26 (ivPoint 0))).2.2) == 2)) rfl (by show ((decide (((near0 (axis26 (ivPoint 0))).2.1) = ivNone)) == true) = true; rw [h2]; rfl) rfl (st_bi (u := .int .i64 ((near0 (axis26 (ivPoint 0))).2.2)) (v := .int .i64 2) (r := .bool (((near0 (axis26 (ivPoint 0))).2.2) == 2)) rfl rfl rfl (bi_eql rfl) ⟨rfl, rfl⟩) ?_
      refine dw_op (d := (some 30)) (.bool (((near0 (axis26 (ivPoint 0))).2.2) == 2)) rfl rfl rfl (st_pkt' (b := decide (((near0 (axis26 (ivPoint 0))).2.1) = ivNone)) (v := .bool (((near0 (axis26 (ivPoint 0))).2.2) == 2)) h2 rfl rfl rfl ⟨rfl, rfl⟩) ?_
      refine dw_op (d := (some 31)) (.bool (((near0 (axis26 (ivPoint 0))).2.2) == 2)) rfl rfl rfl (st_move (v := .bool (((near0 (axis26 (ivPoint 0))).2.2) == 2)) rfl rfl ⟨rfl, rfl⟩) ?_
      refine bool_split (((near0 (axis26 (ivPoint 0))).2.2) == 2) (fun h3 => ?_) (fun h3 => ?_)
      · refine dw_gd (d := (some 32)) (.int .i64 ((sceneHit (ball26 20 5) (axis26 (ivPoint 0))).2)) rfl (by show ((((near0 (axis26 (ivPoint 0))).2.2) == 2) == true) = true; rw [h3]; rfl) rfl (st_move (v := .int .i64 ((sceneHit (ball26 20 5) (axis26 (ivPoint 0))).2)) rfl rfl ⟨rfl, rfl⟩) ?_
        refine dw_gd (d := (some 33)) (.bool (((sceneHit (ball26 20 5) (axis26 (ivPoint 0))).2) == 1)) rfl (by show ((((near0 (axis26 (ivPoint 0))).2.2) == 2) == true) = true; rw [h3]; rfl) rfl (st_bi (u := .int .i64 ((sceneHit (ball26 20 5) (axis26 (ivPoint 0))).2)) (v := .int .i64 1) (r := .bool (((sceneHit (ball26 20 5) (axis26 (ivPoint 0))).2) == 1)) rfl rfl rfl (bi_eql rfl) ⟨rfl, rfl⟩) ?_
        refine dw_op (d := (some 34)) (.bool (((sceneHit (ball26 20 5) (axis26 (ivPoint 0))).2) == 1)) rfl rfl rfl (st_pkt' (b := ((near0 (axis26 (ivPoint 0))).2.2) == 2) (v := .bool (((sceneHit (ball26 20 5) (axis26 (ivPoint 0))).2) == 1)) h3 rfl rfl rfl ⟨rfl, rfl⟩) ?_
        refine dw_op (d := (some 35)) (.bool (((sceneHit (ball26 20 5) (axis26 (ivPoint 0))).2) == 1)) rfl rfl rfl (st_move (v := .bool (((sceneHit (ball26 20 5) (axis26 (ivPoint 0))).2) == 1)) rfl rfl ⟨rfl, rfl⟩) ?_
        refine bool_split (((sceneHit (ball26 20 5) (axis26 (ivPoint 0))).2) == 1) (fun h4 => ?_) (fun h4 => ?_)
        · refine dw_gd (d := (some 36)) (.agg #[.int .i64 (((sceneHit (ball26 20 5) (axis26 (ivPoint 0))).1).lo), .int .i64 (((sceneHit (ball26 20 5) (axis26 (ivPoint 0))).1).hi), .bool (((sceneHit (ball26 20 5) (axis26 (ivPoint 0))).1).no)]) rfl (by show ((((sceneHit (ball26 20 5) (axis26 (ivPoint 0))).2) == 1) == true) = true; rw [h4]; rfl) rfl (st_lda (g := g1) (off := 0) (vs := [.int .i64 (((sceneHit (ball26 20 5) (axis26 (ivPoint 0))).1).lo), .int .i64 (((sceneHit (ball26 20 5) (axis26 (ivPoint 0))).1).hi), .bool (((sceneHit (ball26 20 5) (axis26 (ivPoint 0))).1).no)]) agg26 0 rfl rfl rfl rfl rfl rfl ⟨rfl, rfl⟩) ?_
          refine dw_gd (d := (some 37)) (.agg #[.int .i64 ((ivWhole 15).lo), .int .i64 ((ivWhole 15).hi), .bool ((ivWhole 15).no)]) rfl (by show ((((sceneHit (ball26 20 5) (axis26 (ivPoint 0))).2) == 1) == true) = true; rw [h4]; rfl) rfl (st_cf (vs := [.int .i64 15]) (r := .agg #[.int .i64 ((ivWhole 15).lo), .int .i64 ((ivWhole 15).hi), .bool ((ivWhole 15).no)]) (c_ivWhole 15) Try.func21 rfl (by decide) rfl rfl rfl ⟨rfl, rfl⟩) ?_
          refine dw_gd (d := (some 38)) (.bool (decide (((sceneHit (ball26 20 5) (axis26 (ivPoint 0))).1) = (ivWhole 15)))) rfl (by show ((((sceneHit (ball26 20 5) (axis26 (ivPoint 0))).2) == 1) == true) = true; rw [h4]; rfl) rfl (st_bi (u := .agg #[.int .i64 (((sceneHit (ball26 20 5) (axis26 (ivPoint 0))).1).lo), .int .i64 (((sceneHit (ball26 20 5) (axis26 (ivPoint 0))).1).hi), .bool (((sceneHit (ball26 20 5) (axis26 (ivPoint 0))).1).no)]) (v := .agg #[.int .i64 ((ivWhole 15).lo), .int .i64 ((ivWhole 15).hi), .bool ((ivWhole 15).no)]) (r := .bool (decide (((sceneHit (ball26 20 5) (axis26 (ivPoint 0))).1) = (ivWhole 15)))) rfl rfl rfl (beql_26 ((sceneHit (ball26 20 5) (axis26 (ivPoint 0))).1) (ivWhole 15) rfl) ⟨rfl, rfl⟩) ?_
          refine dw_op (d := (some 39)) (.bool (decide (((sceneHit (ball26 20 5) (axis26 (ivPoint 0))).1) = (ivWhole 15)))) rfl rfl rfl (st_pkt' (b := ((sceneHit (ball26 20 5) (axis26 (ivPoint 0))).2) == 1) (v := .bool (decide (((sceneHit (ball26 20 5) (axis26 (ivPoint 0))).1) = (ivWhole 15)))) h4 rfl rfl rfl ⟨rfl, rfl⟩) ?_
          refine dw_op (d := (some 0)) (.bool (decide (((sceneHit (ball26 20 5) (axis26 (ivPoint 0))).1) = (ivWhole 15)))) rfl rfl rfl (st_assign (v := .bool (decide (((sceneHit (ball26 20 5) (axis26 (ivPoint 0))).1) = (ivWhole 15)))) rfl rfl ⟨rfl, rfl⟩) ?_
          refine dw_nil ?_
          refine ar_nil ?_
          refine ac_ret ?_
          exact fin_eq (v := .bool (decide (((sceneHit (ball26 20 5) (axis26 (ivPoint 0))).1) = (ivWhole 15)))) (by show _ = (fun (r : Bool) => (.bool r : Value)) known26; rw [known26, h4, h3, h2, h1] <;> rfl) (fin_ret (res_tmp rfl rfl))
        · refine dw_sk (d := (some 36)) rfl (by show ((((sceneHit (ball26 20 5) (axis26 (ivPoint 0))).2) == 1) == true) = false; rw [h4]; rfl) rfl ?_
          refine dw_sk (d := (some 37)) rfl (by show ((((sceneHit (ball26 20 5) (axis26 (ivPoint 0))).2) == 1) == true) = false; rw [h4]; rfl) rfl ?_
          refine dw_sk (d := (some 38)) rfl (by show ((((sceneHit (ball26 20 5) (axis26 (ivPoint 0))).2) == 1) == true) = false; rw [h4]; rfl) rfl ?_
          refine dw_op (d := (some 39)) (.bool false) rfl rfl rfl (st_pkf' (b := ((sceneHit (ball26 20 5) (axis26 (ivPoint 0))).2) == 1) (v := .bool false) h4 rfl rfl rfl ⟨rfl, rfl⟩) ?_
          refine dw_op (d := (some 0)) (.bool false) rfl rfl rfl (st_assign (v := .bool false) rfl rfl ⟨rfl, rfl⟩) ?_
          refine dw_nil ?_
          refine ar_nil ?_
          refine ac_ret ?_
          exact fin_eq (v := .bool false) (by show _ = (fun (r : Bool) => (.bool r : Value)) known26; rw [known26, h4, h3, h2, h1] <;> rfl) (fin_ret (res_tmp rfl rfl))
      · refine dw_sk (d := (some 32)) rfl (by show ((((near0 (axis26 (ivPoint 0))).2.2) == 2) == true) = false; rw [h3]; rfl) rfl ?_
        refine dw_sk (d := (some 33)) rfl (by show ((((near0 (axis26 (ivPoint 0))).2.2) == 2) == true) = false; rw [h3]; rfl) rfl ?_
        refine dw_op (d := (some 34)) (.bool false) rfl rfl rfl (st_pkf' (b := ((near0 (axis26 (ivPoint 0))).2.2) == 2) (v := .bool false) h3 rfl rfl rfl ⟨rfl, rfl⟩) ?_
        refine dw_op (d := (some 35)) (.bool false) rfl rfl rfl (st_move (v := .bool false) rfl rfl ⟨rfl, rfl⟩) ?_
        refine dw_sk (d := (some 36)) rfl rfl rfl ?_
        refine dw_sk (d := (some 37)) rfl rfl rfl ?_
        refine dw_sk (d := (some 38)) rfl rfl rfl ?_
        refine dw_op (d := (some 39)) (.bool false) rfl rfl rfl (st_pkf (v := .bool false) rfl rfl rfl ⟨rfl, rfl⟩) ?_
        refine dw_op (d := (some 0)) (.bool false) rfl rfl rfl (st_assign (v := .bool false) rfl rfl ⟨rfl, rfl⟩) ?_
        refine dw_nil ?_
        refine ar_nil ?_
        refine ac_ret ?_
        exact fin_eq (v := .bool false) (by show _ = (fun (r : Bool) => (.bool r : Value)) known26; rw [known26, h3, h2, h1] <;> rfl) (fin_ret (res_tmp rfl rfl))
    · refine dw_sk (d := (some 28)) rfl (by show ((decide (((near0 (axis26 (ivPoint 0))).2.1) = ivNone)) == true) = false; rw [h2]; rfl) rfl ?_
      refine dw_sk (d := (some 29)) rfl (by show ((decide (((near0 (axis26 (ivPoint 0))).2.1) = ivNone)) == true) = false; rw [h2]; rfl) rfl ?_
      refine dw_op (d := (some 30)) (.bool false) rfl rfl rfl (st_pkf' (b := decide (((near0 (axis26 (ivPoint 0))).2.1) = ivNone)) (v := .bool false) h2 rfl rfl rfl ⟨rfl, rfl⟩) ?_
      refine dw_op (d := (some 31)) (.bool false) rfl rfl rfl (st_move (v := .bool false) rfl rfl ⟨rfl, rfl⟩) ?_
      refine dw_sk (d := (some 32)) rfl rfl rfl ?_
      refine dw_sk (d := (some 33)) rfl rfl rfl ?_
      refine dw_op (d := (some 34)) (.bool false) rfl rfl rfl (st_pkf (v := .bool false) rfl rfl rfl ⟨rfl, rfl⟩) ?_
      refine dw_op (d := (some 35)) (.bool false) rfl rfl rfl (st_move (v := .bool false) rfl rfl ⟨rfl, rfl⟩) ?_
      refine dw_sk (d := (some 36)) rfl rfl rfl ?_
      refine dw_sk (d := (some 37)) rfl rfl rfl ?_
      refine dw_sk (d := (some 38)) rfl rfl rfl ?_
      refine dw_op (d := (some 39)) (.bool false) rfl rfl rfl (st_pkf (v := .bool false) rfl rfl rfl ⟨rfl, rfl⟩) ?_
      refine dw_op (d := (some 0)) (.bool false) rfl rfl rfl (st_assign (v := .bool false) rfl rfl ⟨rfl, rfl⟩) ?_
      refine dw_nil ?_
      refine ar_nil ?_
      refine ac_ret ?_
      exact fin_eq (v := .bool false) (by show _ = (fun (r : Bool) => (.bool r : Value)) known26; rw [known26, h2, h1] <;> rfl) (fin_ret (res_tmp rfl rfl))
  · refine dw_sk (d := (some 23)) rfl (by show ((((near0 (axis26 (ivPoint 0))).1) == (-1)) == true) = false; rw [h1]; rfl) rfl ?_
    refine dw_sk (d := (some 24)) rfl (by show ((((near0 (axis26 (ivPoint 0))).1) == (-1)) == true) = false; rw [h1]; rfl) rfl ?_
    refine dw_sk (d := (some 25)) rfl (by show ((((near0 (axis26 (ivPoint 0))).1) == (-1)) == true) = false; rw [h1]; rfl) rfl ?_
    refine dw_op (d := (some 26)) (.bool false) rfl rfl rfl (st_pkf' (b := ((near0 (axis26 (ivPoint 0))).1) == (-1)) (v := .bool false) h1 rfl rfl rfl ⟨rfl, rfl⟩) ?_
    refine dw_op (d := (some 27)) (.bool false) rfl rfl rfl (st_move (v := .bool false) rfl rfl ⟨rfl, rfl⟩) ?_
    refine dw_sk (d := (some 28)) rfl rfl rfl ?_
    refine dw_sk (d := (some 29)) rfl rfl rfl ?_
    refine dw_op (d := (some 30)) (.bool false) rfl rfl rfl (st_pkf (v := .bool false) rfl rfl rfl ⟨rfl, rfl⟩) ?_
    refine dw_op (d := (some 31)) (.bool false) rfl rfl rfl (st_move (v := .bool false) rfl rfl ⟨rfl, rfl⟩) ?_
    refine dw_sk (d := (some 32)) rfl rfl rfl ?_
    refine dw_sk (d := (some 33)) rfl rfl rfl ?_
    refine dw_op (d := (some 34)) (.bool false) rfl rfl rfl (st_pkf (v := .bool false) rfl rfl rfl ⟨rfl, rfl⟩) ?_
    refine dw_op (d := (some 35)) (.bool false) rfl rfl rfl (st_move (v := .bool false) rfl rfl ⟨rfl, rfl⟩) ?_
    refine dw_sk (d := (some 36)) rfl rfl rfl ?_
    refine dw_sk (d := (some 37)) rfl rfl rfl ?_
    refine dw_sk (d := (some 38)) rfl rfl rfl ?_
    refine dw_op (d := (some 39)) (.bool false) rfl rfl rfl (st_pkf (v := .bool false) rfl rfl rfl ⟨rfl, rfl⟩) ?_
    refine dw_op (d := (some 0)) (.bool false) rfl rfl rfl (st_assign (v := .bool false) rfl rfl ⟨rfl, rfl⟩) ?_
    refine dw_nil ?_
    refine ar_nil ?_
    refine ac_ret ?_
    exact fin_eq (v := .bool false) (by show _ = (fun (r : Bool) => (.bool r : Value)) known26; rw [known26, h1] <;> rfl) (fin_ret (res_tmp rfl rfl))
end Go.Proofs.Ythngkopcadlciaa