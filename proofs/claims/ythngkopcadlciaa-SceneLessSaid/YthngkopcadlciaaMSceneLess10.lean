import Derived.Test.YthngkopcadlciaaSceneR
import Derived.Test.YthngkopcadlciaaMSceneLess8
import Derived.Test.YthngkopcadlciaaMSceneLess7
set_option linter.unusedVariables false
set_option linter.unusedSimpArgs false
namespace Go.Proofs.Ythngkopcadlciaa
open Go.RowKit
def hSceneN : Nat → List Int → List Shape
  | 0, _ => []
  | n + 1, z0 :: z1 :: z2 :: z3 :: z4 :: l => sceneShape z0 z1 z2 z3 z4 :: hSceneN n l
  | _ + 1, _ => []
def hScene (l : List Int) : List Shape := hSceneN 5 l
theorem hSceneN_short (n : Nat) (l : List Int) (h : l.length ≤ 4) : hSceneN n l = [] := by
  cases n with
  | zero => rfl
  | succ n =>
    match l, h with
    | [], _ => rfl
    | [_], _ => rfl
    | [_, _], _ => rfl
    | [_, _, _], _ => rfl
    | [_, _, _, _], _ => rfl
theorem five (l : List Int) (h : ¬ l.length ≤ 4) : ∃ z0 z1 z2 z3 z4 l', l = z0 :: z1 :: z2 :: z3 :: z4 :: l' := by
  cases l with
  | nil => simp at h
  | cons z0 l => cases l with
    | nil => simp at h
    | cons z1 l => cases l with
      | nil => simp at h
      | cons z2 l => cases l with
        | nil => simp at h
        | cons z3 l => cases l with
          | nil => simp at h
          | cons z4 l => exact ⟨z0, z1, z2, z3, z4, l, rfl⟩
theorem scene_loop (b off N cap ty : Nat) (cs : List Value) {Q : Exit → Env → List Box → Prop} {c : Code} (hc : Try.f55.body.bind loopOf = some c) :
    ∀ (q : Nat) (l : List Int) (i m ca : Nat) (aa : Option Addr) (NA : List Box) (xs : List Value) (E : Env), i + 5 * q = 25 → i + l.length = N → m ≤ i → (∀ j z, l[j]? = some z → cs[off + (i + j)]? = some (.int .i64 z)) → Row 86 12 m xs (.slice aa m ca) NA → (m = 0 → aa = none ∧ ca = 0 ∧ NA = []) →
      E 0 = .slice (some ⟨b, off, none⟩) N cap → E 3 = .slice aa m ca → E 4 = .int .i64 (i : Int) →
      (∀ (E' : Env) (m' ca' : Nat) (aa' : Option Addr) (NA' : List Box) (xs' : List Value), m' = m + (hSceneN q l).length → xs' = xs ++ flatS (hSceneN q l) → Row 86 12 m' xs' (.slice aa' m' ca') NA' → (m' = 0 → aa' = none ∧ ca' = 0 ∧ NA' = []) → E' 3 = .slice aa' m' ca' → Q (.exit 0) E' ([⟨b, cs, ty, true⟩] ++ NA')) →
      ARounds Try.prog 93 c Q (q + 1) E ([⟨b, cs, ty, true⟩] ++ NA) := by
  intro q
  induction q with
  | zero =>
    intro l i m ca aa NA xs E hi hl hm hcs hR h0 q0 q3 q4 K
    have K' : ∀ E' : Env, E' 3 = .slice aa m ca → Q (.exit 0) E' ([⟨b, cs, ty, true⟩] ++ NA) := fun E' f3 => K E' m ca aa NA xs rfl (by simp [hSceneN, flatS]) hR h0 f3
    by_cases h : N ≤ i + 4
    · exact scene_leave1 b off N cap ty i m ca aa (some ⟨b, off, none⟩) _ hc (by omega) h q0 q3 q4 K'
    · exact scene_leave2 b off N cap ty i m ca aa (some ⟨b, off, none⟩) _ hc (by omega) (by omega) (by omega) q0 q3 q4 K'
  | succ q ih =>
    intro l i m ca aa NA xs E hi hl hm hcs hR h0 q0 q3 q4 K
    by_cases h : l.length ≤ 4
    · have e := hSceneN_short (q + 1) l h
      have K' : ∀ E' : Env, E' 3 = .slice aa m ca → Q (.exit 0) E' ([⟨b, cs, ty, true⟩] ++ NA) := fun E' f3 => K E' m ca aa NA xs (by rw [e]; rfl) (by rw [e]; simp [flatS]) hR h0 f3
      exact scene_leave1 b off N cap ty i m ca aa (some ⟨b, off, none⟩) _ hc (by omega) (by omega) q0 q3 q4 K'
    · obtain ⟨z0, z1, z2, z3, z4, l, rfl⟩ := five l h
      · simp only [List.length_cons] at hl
        refine scene_round b off N cap ty i m ca aa cs xs NA z0 z1 z2 z3 z4 hc (by omega) (by omega) (by omega) hR (by simpa using hcs 0 z0 rfl) (by simpa using hcs 1 z1 rfl) (by simpa using hcs 2 z2 rfl) (by simpa using hcs 3 z3 rfl) (by simpa using hcs 4 z4 rfl) q0 q3 q4 ?_
        intro s hs E' ca' aa' NA' hR' f0 f3 f4
        subst hs
        refine ih l (i + 5) (m + 1) ca' aa' NA' (xs ++ shapeC (sceneShape z0 z1 z2 z3 z4)) E' (by omega) (by omega) (by omega) (fun j z hj => by have := hcs (j + 5) z (by simpa using hj); rw [show i + 5 + j = i + (j + 5) from by omega]; exact this) hR' (fun h => by omega) f0 f3 f4 ?_
        intro E2 m2 ca2 aa2 NA2 xs2 hm2 hx2 hR2 h02 g3
        exact K E2 m2 ca2 aa2 NA2 xs2 (by rw [hm2]; simp only [hSceneN, List.length_cons]; omega) (by rw [hx2]; simp [hSceneN, flatS]) hR2 h02 g3
end Go.Proofs.Ythngkopcadlciaa
namespace Go.Proofs.Ythngkopcadlciaa
open Go.RowKit
attribute [local irreducible] AC AR DWalk
theorem scene_fin (l : List Int) (b : Nat) (cs : List Value) (ty : Nat) {m ca : Nat} {aa : Option Addr} {xs : List Value} {NA : List Box} {E : Env} {fn : Func} {n : Nat} (hm : m = (hSceneN 5 l).length) (hxs : xs = flatS (hSceneN 5 l)) (hR : Row 86 12 m xs (.slice aa m ca) NA) (h0 : m = 0 → aa = none ∧ ca = 0 ∧ NA = []) (hr : Res Try.prog fn n E ([⟨b, cs, ty, true⟩] ++ NA) (.slice aa m ca)) :
    FinG Try.prog fn n (fun u N => (hScene l = [] ∧ u = .slice none 0 0 ∧ N = []) ∨ (hScene l ≠ [] ∧ ∃ g cap rest, u = .slice (some ⟨g, 0, none⟩) (hScene l).length cap ∧ N = [⟨g, flatS (hScene l) ++ rest, 86, false⟩])) .ret E ([⟨b, cs, ty, true⟩] ++ NA) := by
  refine ⟨.inl rfl, .slice aa m ca, NA, ?_, List.sublist_append_right _ _, ?_, hr⟩
  · by_cases hz : m = 0
    · obtain ⟨rfl, rfl, rfl⟩ := h0 hz
      exact .inl ⟨List.eq_nil_of_length_eq_zero (by rw [← hm.symm.trans hz]; rfl), by rw [hz], rfl⟩
    · obtain ⟨g, cap, rest, h1, h2, _⟩ := hR.pos (by omega)
      refine .inr ⟨fun e => hz (by rw [hm]; rw [show hSceneN 5 l = [] from e]; rfl), g, cap, rest, by rw [h1, hm]; rfl, by rw [h2, hxs]; rfl⟩
  · rcases hR with ⟨_, _, _, rfl⟩ | ⟨g, cap, rest, _, rfl, _⟩ <;> rfl
set_option maxRecDepth 100000 in
theorem c_hScene (l : List Int) (b off cap ty : Nat) (cs : List Value) (hcs : ∀ j z, l[j]? = some z → cs[off + j]? = some (.int .i64 z)) : Gives Try.prog 55 #[.slice (some ⟨b, off, none⟩) l.length cap] [⟨b, cs, ty, true⟩] (fun u N => (hScene l = [] ∧ u = .slice none 0 0 ∧ N = []) ∨ (hScene l ≠ [] ∧ ∃ g cap rest, u = .slice (some ⟨g, 0, none⟩) (hScene l).length cap ∧ N = [⟨g, flatS (hScene l) ++ rest, 86, false⟩])) := by
  have hcs' : ∀ j z, l[j]? = some z → cs[off + (0 + j)]? = some (.int .i64 z) := fun j z h => by rw [Nat.zero_add]; exact hcs j z h
  refine gives_fin Try.func55 rfl rfl rfl rfl ?_
  refine ac_seq ?_
  refine ac_region_lit ?_
  refine ao 2 rfl rfl (st_assign (v := .slice none 0 0) rfl rfl ?_)
  refine ar_nil ?_
  refine ac_seq ?_
  refine ac_region_lit ?_
  refine ao 3 rfl rfl (st_assign (v := .slice none 0 0) rfl rfl ?_)
  refine ar_nil ?_
  refine ac_seq ?_
  refine ac_seq ?_
  refine ac_region_lit ?_
  refine ao 4 rfl rfl (st_assign (v := .int .i64 0) rfl rfl ?_)
  refine ar_nil ?_
  refine ac_block ?_
  refine ac_rounds 6 ?_
  refine scene_loop b off l.length cap ty cs rfl 5 l 0 0 0 none [] [] _ rfl (by omega) (Nat.le_refl _) hcs' (Row.nil _ _) (fun _ => ⟨rfl, rfl, rfl⟩) rfl rfl rfl ?_
  intro E' m ca aa NA xs hm hxs hR h0 f3
  rw [Nat.zero_add] at hm
  rw [List.nil_append] at hxs
  obtain ⟨E0, rfl⟩ : ∃ E0 : Env, E' = (E0.put (some 3) (.slice aa m ca)) := ⟨E', by rw [put_self f3]⟩
  refine ac_seq ?_
  refine ac_region_lit ?_
  refine ao 92 rfl rfl (st_move (v := .slice aa m ca) rfl rfl ?_)
  refine ao 2 rfl rfl (st_assign (v := .slice aa m ca) rfl rfl ?_)
  refine ar_nil ?_
  refine ac_ret ?_
  exact scene_fin l b cs ty hm hxs hR h0 (res_tmp rfl rfl)
set_option maxRecDepth 100000 in
theorem c_hScene0 (a : Option Addr) (cap : Nat) : Gets Try.prog 55 #[.slice a 0 cap] (.slice none 0 0) := by
  refine gets_fin Try.func55 rfl rfl rfl ?_
  refine ac_seq ?_
  refine ac_region_lit ?_
  refine ao 2 rfl rfl (st_assign (v := .slice none 0 0) rfl rfl ?_)
  refine ar_nil ?_
  refine ac_seq ?_
  refine ac_region_lit ?_
  refine ao 3 rfl rfl (st_assign (v := .slice none 0 0) rfl rfl ?_)
  refine ar_nil ?_
  refine ac_seq ?_
  refine ac_seq ?_
  refine ac_region_lit ?_
  refine ao 4 rfl rfl (st_assign (v := .int .i64 0) rfl rfl ?_)
  refine ar_nil ?_
  refine ac_block ?_
  refine ac_rounds 61 ?_
  refine ar_round ?_
  refine ac_seq ?_
  refine ac_seq ?_
  refine ac_region_lit ?_
  refine ao 6 rfl rfl (st_move (v := .int .i64 0) rfl rfl ?_)
  refine ao 7 rfl rfl (st_bi (u := .int .i64 0) (v := .int .i64 4) (r := .int .i64 4) rfl rfl rfl (bi_add (by decide)) ?_)
  refine ao 8 rfl rfl (st_move (v := .slice a 0 cap) rfl rfl ?_)
  refine ao 9 rfl rfl (st_ln (a := a) (m := 0) (c := cap) rfl Try.underlying22 rfl ?_)
  refine ao 10 rfl rfl (st_bi (u := .int .i64 4) (v := .int .i64 0) (r := .bool false) rfl rfl rfl (bi_lss (by decide)) ?_)
  refine ao 11 rfl rfl (st_move (v := .bool false) rfl rfl ?_)
  refine ar_sk (d := (some 12)) rfl rfl ?_
  refine ar_sk (d := (some 13)) rfl rfl ?_
  refine ao 14 rfl rfl (st_pkf (v := .bool false) rfl rfl rfl ?_)
  refine ar_nil ?_
  refine ac_else rfl ?_
  refine ac_exit ?_
  refine ac_seq ?_
  refine ac_region_lit ?_
  refine ao 92 rfl rfl (st_move (v := .slice none 0 0) rfl rfl ?_)
  refine ao 2 rfl rfl (st_assign (v := .slice none 0 0) rfl rfl ?_)
  refine ar_nil ?_
  refine ac_ret ?_
  exact fin_ret (res_tmp rfl rfl)
end Go.Proofs.Ythngkopcadlciaa
namespace Go.Proofs.Ythngkopcadlciaa
open Go.RowKit
theorem c_hSceneE (l : List Int) (b off cap ty : Nat) (cs : List Value) (hcs : ∀ j z, l[j]? = some z → cs[off + j]? = some (.int .i64 z)) (h : (hScene l).isEmpty = true) : Gives Try.prog 55 #[.slice (some ⟨b, off, none⟩) l.length cap] [⟨b, cs, ty, true⟩] (fun u N => u = .slice none 0 0 ∧ N = []) :=
  (c_hScene l b off cap ty cs hcs).mono fun v N hk => by
    rcases hk with hk | ⟨hk, _⟩
    · exact hk.2
    · exact absurd (List.isEmpty_iff.1 h) hk
theorem c_hSceneP (l : List Int) (b off cap ty : Nat) (cs : List Value) (hcs : ∀ j z, l[j]? = some z → cs[off + j]? = some (.int .i64 z)) (h : (hScene l).isEmpty = false) : Gives Try.prog 55 #[.slice (some ⟨b, off, none⟩) l.length cap] [⟨b, cs, ty, true⟩]
    (fun u N => ∃ g cap rest, u = .slice (some ⟨g, 0, none⟩) (hScene l).length cap ∧ N = [⟨g, flatS (hScene l) ++ rest, 86, false⟩]) :=
  (c_hScene l b off cap ty cs hcs).mono fun v N hk => by
    rcases hk with hk | hk
    · rw [hk.1] at h; cases h
    · exact hk.2
theorem hSceneN_le : ∀ (n : Nat) (l : List Int), (hSceneN n l).length ≤ n
  | 0, _ => Nat.zero_le _
  | n + 1, l => by
    by_cases h : l.length ≤ 4
    · rw [hSceneN_short _ l h]; exact Nat.zero_le _
    · obtain ⟨z0, z1, z2, z3, z4, l', rfl⟩ := five l h
      simp only [hSceneN, List.length_cons]
      have := hSceneN_le n l'
      omega
theorem hScene_le (l : List Int) : (hScene l).length ≤ 1000000 := Nat.le_trans (hSceneN_le 5 l) (by decide)
end Go.Proofs.Ythngkopcadlciaa
namespace Go.Proofs.Ythngkopcadlciaa
open Go.RowKit
attribute [local irreducible] AC AR DWalk
def lessRound (ray ray2 : Ray) (s : Shape) : Bool := (bif ((sceneHit s ray).2) != 0 then (bif ((sceneHit s ray2).2) != ((sceneHit s ray).2) then false else (bif ((sceneHit s ray).2) == 1 then (bif ivInside ((sceneHit s ray2).1) ((sceneHit s ray).1) then true else false) else true)) else (bif ((sceneHit s ray).2) == 1 then (bif ivInside ((sceneHit s ray2).1) ((sceneHit s ray).1) then true else false) else true))
set_option maxRecDepth 100000 in
set_option maxHeartbeats 4000000 in
theorem c_lessRound (g10 g11 gS M cS k : Nat) (ra : List Value) (ray ray2 : Ray) (s : Shape) (hk : k < M) (hs : (ra.drop (0 + k * 12)).take 12 = shapeC s) {Q : Exit → Env → List Box → Prop} {E : Env} {c : Code} {j : Nat} (hc : Try.f17.body.bind loopOf = some c) (q8 : E 8 = .bool false) (q9 : E 9 = .slice (some ⟨gS, 0, none⟩) M cS) (q10 : E 10 = .pointer (some ⟨g10, 0, none⟩)) (q11 : E 11 = .pointer (some ⟨g11, 0, none⟩)) (q32 : E 32 = .slice (some ⟨gS, 0, none⟩) M cS) (q33 : E 33 = .int .i64 (M : Int)) (q34 : E 34 = .int .i64 (k : Int)) (HG : (lessRound ray ray2 s) = true) (K : ∀ E' : Env, E' 8 = .bool false → E' 9 = .slice (some ⟨gS, 0, none⟩) M cS → E' 10 = .pointer (some ⟨g10, 0, none⟩) → E' 11 = .pointer (some ⟨g11, 0, none⟩) → E' 32 = .slice (some ⟨gS, 0, none⟩) M cS → E' 33 = .int .i64 (M : Int) → E' 34 = .int .i64 (w64 ((k : Int) + 1)) → ARounds Try.prog 116 c Q j E' [⟨g11, rayC ray2, 77, false⟩, ⟨g10, rayC ray, 77, false⟩, ⟨gS, ra, 86, false⟩]) : ARounds Try.prog 116 c Q (j + 1) E [⟨g11, rayC ray2, 77, false⟩, ⟨g10, rayC ray, 77, false⟩, ⟨gS, ra, 86, false⟩] := by
  rw [show Try.f17.body.bind loopOf = some _ from rfl] at hc
  cases hc
  obtain ⟨E0, rfl⟩ : ∃ E0 : Env, E = (((((((E0.put (some 8) (.bool false)).put (some 9) (.slice (some ⟨gS, 0, none⟩) M cS)).put (some 10) (.pointer (some ⟨g10, 0, none⟩))).put (some 11) (.pointer (some ⟨g11, 0, none⟩))).put (some 32) (.slice (some ⟨gS, 0, none⟩) M cS)).put (some 33) (.int .i64 (M : Int))).put (some 34) (.int .i64 (k : Int))) := ⟨E, by rw [put_self q8, put_self q9, put_self q10, put_self q11, put_self q32, put_self q33, put_self q34]⟩
  refine ar_round ?_
  refine ac_seq ?_
  refine ac_region_lit ?_
  refine ao 35 rfl rfl (st_bi (u := .int .i64 (k : Int)) (v := .int .i64 (M : Int)) (r := .bool (decide ((k : Int) < (M : Int)))) rfl rfl rfl (bi_lss rfl) ?_)
  refine ar_nil ?_
  refine ac_seq ?_
  refine ac_then' (b := decide ((k : Int) < (M : Int))) (decide_eq_true (show ((k : Int) < (M : Int)) by omega)) rfl ?_
  refine ac_skip ?_
  refine ac_seq ?_
  refine ac_block ?_
  refine ac_seq ?_
  refine ac_region_lit ?_
  refine ao 36 rfl rfl (st_sa (g := gS) (off := 0) (m := M) (c := cS) (s := 12) (i := k) rfl Try.underlying74 (by kernel_rfl) rfl rfl hk ?_)
  refine ao 37 rfl rfl (st_lda (g := gS) (off := 0 + k * 12) (vs := [.int .i64 s.kind, .int .i64 s.x.c, .int .i64 s.x.scale, .int .i64 s.y.c, .int .i64 s.y.scale, .int .i64 s.z.c, .int .i64 s.z.scale, .int .i64 s.r.c, .int .i64 s.r.scale, .int .i64 s.glow.a0, .int .i64 s.glow.a1, .int .i64 s.glow.a2]) agg86 2 rfl rfl rfl rfl rfl hs ?_)
  refine ao 13 rfl rfl (st_new zero86 rfl fun g0 => ?_)
  refine ar_op (d := none) rfl rfl (st_sta (g := g0) (off := 0) (us := [.int .i64 s.kind, .int .i64 s.x.c, .int .i64 s.x.scale, .int .i64 s.y.c, .int .i64 s.y.scale, .int .i64 s.z.c, .int .i64 s.z.scale, .int .i64 s.r.c, .int .i64 s.r.scale, .int .i64 s.glow.a0, .int .i64 s.glow.a1, .int .i64 s.glow.a2]) (cs := [.int .i64 s.kind, .int .i64 s.x.c, .int .i64 s.x.scale, .int .i64 s.y.c, .int .i64 s.y.scale, .int .i64 s.z.c, .int .i64 s.z.scale, .int .i64 s.r.c, .int .i64 s.r.scale, .int .i64 s.glow.a0, .int .i64 s.glow.a1, .int .i64 s.glow.a2]) agg86 0 rfl rfl rfl rfl rfl rfl rfl rfl rfl ?_)
  refine ar_nil ?_
  refine ac_seq ?_
  refine ac_region_lit ?_
  refine ao 39 rfl rfl (st_lda (g := g0) (off := 0) (vs := [.int .i64 s.kind, .int .i64 s.x.c, .int .i64 s.x.scale, .int .i64 s.y.c, .int .i64 s.y.scale, .int .i64 s.z.c, .int .i64 s.z.scale, .int .i64 s.r.c, .int .i64 s.r.scale, .int .i64 s.glow.a0, .int .i64 s.glow.a1, .int .i64 s.glow.a2]) agg86 0 rfl rfl rfl rfl rfl rfl ?_)
  refine ao 40 rfl rfl (st_lda (g := g10) (off := 0) (vs := [.int .i64 ray.o.x.lo, .int .i64 ray.o.x.hi, .bool ray.o.x.no, .int .i64 ray.o.y.lo, .int .i64 ray.o.y.hi, .bool ray.o.y.no, .int .i64 ray.o.z.lo, .int .i64 ray.o.z.hi, .bool ray.o.z.no, .int .i64 ray.d.x.lo, .int .i64 ray.d.x.hi, .bool ray.d.x.no, .int .i64 ray.d.y.lo, .int .i64 ray.d.y.hi, .bool ray.d.y.no, .int .i64 ray.d.z.lo, .int .i64 ray.d.z.hi, .bool ray.d.z.no]) agg77 2 rfl rfl rfl rfl rfl rfl ?_)
  refine ao 41 rfl rfl (st_cf (vs := [.agg #[.int .i64 s.kind, .int .i64 s.x.c, .int .i64 s.x.scale, .int .i64 s.y.c, .int .i64 s.y.scale, .int .i64 s.z.c, .int .i64 s.z.scale, .int .i64 s.r.c, .int .i64 s.r.scale, .int .i64 s.glow.a0, .int .i64 s.glow.a1, .int .i64 s.glow.a2], .agg #[.int .i64 ray.o.x.lo, .int .i64 ray.o.x.hi, .bool ray.o.x.no, .int .i64 ray.o.y.lo, .int .i64 ray.o.y.hi, .bool ray.o.y.no, .int .i64 ray.o.z.lo, .int .i64 ray.o.z.hi, .bool ray.o.z.no, .int .i64 ray.d.x.lo, .int .i64 ray.d.x.hi, .bool ray.d.x.no, .int .i64 ray.d.y.lo, .int .i64 ray.d.y.hi, .bool ray.d.y.no, .int .i64 ray.d.z.lo, .int .i64 ray.d.z.hi, .bool ray.d.z.no]]) (r := .tuple #[.agg #[.int .i64 (((sceneHit s ray).1).lo), .int .i64 (((sceneHit s ray).1).hi), .bool (((sceneHit s ray).1).no)], .int .i64 ((sceneHit s ray).2)]) (c_sceneHit s ray) Try.func58 rfl (by decide) rfl rfl rfl ?_)
  refine ao 38 rfl rfl (st_move (v := .tuple #[.agg #[.int .i64 (((sceneHit s ray).1).lo), .int .i64 (((sceneHit s ray).1).hi), .bool (((sceneHit s ray).1).no)], .int .i64 ((sceneHit s ray).2)]) rfl rfl ?_)
  refine ao 42 rfl rfl (st_ex (vs := [.agg #[.int .i64 (((sceneHit s ray).1).lo), .int .i64 (((sceneHit s ray).1).hi), .bool (((sceneHit s ray).1).no)], .int .i64 ((sceneHit s ray).2)]) (v := .agg #[.int .i64 (((sceneHit s ray).1).lo), .int .i64 (((sceneHit s ray).1).hi), .bool (((sceneHit s ray).1).no)]) rfl rfl rfl ?_)
  refine ao 43 rfl rfl (st_ex (vs := [.agg #[.int .i64 (((sceneHit s ray).1).lo), .int .i64 (((sceneHit s ray).1).hi), .bool (((sceneHit s ray).1).no)], .int .i64 ((sceneHit s ray).2)]) (v := .int .i64 ((sceneHit s ray).2)) rfl rfl rfl ?_)
  refine ao 14 rfl rfl (st_new zero26 rfl fun g1 => ?_)
  refine ar_op (d := none) rfl rfl (st_sta (g := g1) (off := 0) (us := [.int .i64 (((sceneHit s ray).1).lo), .int .i64 (((sceneHit s ray).1).hi), .bool (((sceneHit s ray).1).no)]) (cs := [.int .i64 (((sceneHit s ray).1).lo), .int .i64 (((sceneHit s ray).1).hi), .bool (((sceneHit s ray).1).no)]) agg26 0 rfl rfl rfl rfl rfl rfl rfl rfl rfl ?_)
  refine ao 15 rfl rfl (st_assign (v := .int .i64 ((sceneHit s ray).2)) rfl rfl ?_)
  refine ar_nil ?_
  refine ac_seq ?_
  refine ac_region_lit ?_
  refine ao 45 rfl rfl (st_lda (g := g0) (off := 0) (vs := [.int .i64 s.kind, .int .i64 s.x.c, .int .i64 s.x.scale, .int .i64 s.y.c, .int .i64 s.y.scale, .int .i64 s.z.c, .int .i64 s.z.scale, .int .i64 s.r.c, .int .i64 s.r.scale, .int .i64 s.glow.a0, .int .i64 s.glow.a1, .int .i64 s.glow.a2]) agg86 1 rfl rfl rfl rfl rfl rfl ?_)
  refine ao 46 rfl rfl (st_lda (g := g11) (off := 0) (vs := [.int .i64 ray2.o.x.lo, .int .i64 ray2.o.x.hi, .bool ray2.o.x.no, .int .i64 ray2.o.y.lo, .int .i64 ray2.o.y.hi, .bool ray2.o.y.no, .int .i64 ray2.o.z.lo, .int .i64 ray2.o.z.hi, .bool ray2.o.z.no, .int .i64 ray2.d.x.lo, .int .i64 ray2.d.x.hi, .bool ray2.d.x.no, .int .i64 ray2.d.y.lo, .int .i64 ray2.d.y.hi, .bool ray2.d.y.no, .int .i64 ray2.d.z.lo, .int .i64 ray2.d.z.hi, .bool ray2.d.z.no]) agg77 2 rfl rfl rfl rfl rfl rfl ?_)
  refine ao 47 rfl rfl (st_cf (vs := [.agg #[.int .i64 s.kind, .int .i64 s.x.c, .int .i64 s.x.scale, .int .i64 s.y.c, .int .i64 s.y.scale, .int .i64 s.z.c, .int .i64 s.z.scale, .int .i64 s.r.c, .int .i64 s.r.scale, .int .i64 s.glow.a0, .int .i64 s.glow.a1, .int .i64 s.glow.a2], .agg #[.int .i64 ray2.o.x.lo, .int .i64 ray2.o.x.hi, .bool ray2.o.x.no, .int .i64 ray2.o.y.lo, .int .i64 ray2.o.y.hi, .bool ray2.o.y.no, .int .i64 ray2.o.z.lo, .int .i64 ray2.o.z.hi, .bool ray2.o.z.no, .int .i64 ray2.d.x.lo, .int .i64 ray2.d.x.hi, .bool ray2.d.x.no, .int .i64 ray2.d.y.lo, .int .i64 ray2.d.y.hi, .bool ray2.d.y.no, .int .i64 ray2.d.z.lo, .int .i64 ray2.d.z.hi, .bool ray2.d.z.no]]) (r := .tuple #[.agg #[.int .i64 (((sceneHit s ray2).1).lo), .int .i64 (((sceneHit s ray2).1).hi), .bool (((sceneHit s ray2).1).no)], .int .i64 ((sceneHit s ray2).2)]) (c_sceneHit s ray2) Try.func58 rfl (by decide) rfl rfl rfl ?_)
  refine ao 44 rfl rfl (st_move (v := .tuple #[.agg #[.int .i64 (((sceneHit s ray2).1).lo), .int .i64 (((sceneHit s ray2).1).hi), .bool (((sceneHit s ray2).1).no)], .int .i64 ((sceneHit s ray2).2)]) rfl rfl ?_)
  refine ao 48 rfl rfl (st_ex (vs := [.agg #[.int .i64 (((sceneHit s ray2).1).lo), .int .i64 (((sceneHit s ray2).1).hi), .bool (((sceneHit s ray2).1).no)], .int .i64 ((sceneHit s ray2).2)]) (v := .agg #[.int .i64 (((sceneHit s ray2).1).lo), .int .i64 (((sceneHit s ray2).1).hi), .bool (((sceneHit s ray2).1).no)]) rfl rfl rfl ?_)
  refine ao 49 rfl rfl (st_ex (vs := [.agg #[.int .i64 (((sceneHit s ray2).1).lo), .int .i64 (((sceneHit s ray2).1).hi), .bool (((sceneHit s ray2).1).no)], .int .i64 ((sceneHit s ray2).2)]) (v := .int .i64 ((sceneHit s ray2).2)) rfl rfl rfl ?_)
  refine ao 16 rfl rfl (st_new zero26 rfl fun g2 => ?_)
  refine ar_op (d := none) rfl rfl (st_sta (g := g2) (off := 0) (us := [.int .i64 (((sceneHit s ray2).1).lo), .int .i64 (((sceneHit s ray2).1).hi), .bool (((sceneHit s ray2).1).no)]) (cs := [.int .i64 (((sceneHit s ray2).1).lo), .int .i64 (((sceneHit s ray2).1).hi), .bool (((sceneHit s ray2).1).no)]) agg26 0 rfl rfl rfl rfl rfl rfl rfl rfl rfl ?_)
  refine ao 17 rfl rfl (st_assign (v := .int .i64 ((sceneHit s ray2).2)) rfl rfl ?_)
  refine ar_nil ?_
  refine ac_seq ?_
  refine ac_region_lit ?_
  refine ao 50 rfl rfl (st_move (v := .int .i64 ((sceneHit s ray).2)) rfl rfl ?_)
  refine ao 51 rfl rfl (st_bi (u := .int .i64 ((sceneHit s ray).2)) (v := .int .i64 0) (r := .bool (((sceneHit s ray).2) != 0)) rfl rfl rfl (bi_neq rfl) ?_)
  refine ao 52 rfl rfl (st_move (v := .bool (((sceneHit s ray).2) != 0)) rfl rfl ?_)
  refine bool_split (((sceneHit s ray).2) != 0) (fun h1 => ?_) (fun h1 => ?_)
  · refine ar_gd (d := (some 53)) (by show ((((sceneHit s ray).2) != 0) == true) = true; rw [h1]; rfl) rfl (st_move (v := .int .i64 ((sceneHit s ray2).2)) rfl rfl ?_)
    refine ar_gd (d := (some 54)) (by show ((((sceneHit s ray).2) != 0) == true) = true; rw [h1]; rfl) rfl (st_move (v := .int .i64 ((sceneHit s ray).2)) rfl rfl ?_)
    refine ar_gd (d := (some 55)) (by show ((((sceneHit s ray).2) != 0) == true) = true; rw [h1]; rfl) rfl (st_bi (u := .int .i64 ((sceneHit s ray2).2)) (v := .int .i64 ((sceneHit s ray).2)) (r := .bool (((sceneHit s ray2).2) != ((sceneHit s ray).2))) rfl rfl rfl (bi_neq rfl) ?_)
    refine ao 56 rfl rfl (st_pkt' (b := ((sceneHit s ray).2) != 0) (v := .bool (((sceneHit s ray2).2) != ((sceneHit s ray).2))) h1 rfl rfl rfl ?_)
    refine ao 57 rfl rfl (st_move (v := .bool (((sceneHit s ray2).2) != ((sceneHit s ray).2))) rfl rfl ?_)
    refine bool_split (((sceneHit s ray2).2) != ((sceneHit s ray).2)) (fun h2 => nomatch (show false = true from (show (lessRound ray ray2 s) = _ from (eT h1 (eT h2 rfl))).symm.trans HG)) (fun h2 => ?_)
    refine ar_gd (d := (some 58)) (by show ((((sceneHit s ray2).2) != ((sceneHit s ray).2)) == false) = true; rw [h2]; rfl) rfl (st_move (v := .int .i64 ((sceneHit s ray).2)) rfl rfl ?_)
    refine ar_gd (d := (some 59)) (by show ((((sceneHit s ray2).2) != ((sceneHit s ray).2)) == false) = true; rw [h2]; rfl) rfl (st_bi (u := .int .i64 ((sceneHit s ray).2)) (v := .int .i64 1) (r := .bool (((sceneHit s ray).2) == 1)) rfl rfl rfl (bi_eql rfl) ?_)
    refine ar_gd (d := (some 60)) (by show ((((sceneHit s ray2).2) != ((sceneHit s ray).2)) == false) = true; rw [h2]; rfl) rfl (st_move (v := .bool (((sceneHit s ray).2) == 1)) rfl rfl ?_)
    refine bool_split (((sceneHit s ray).2) == 1) (fun h3 => ?_) (fun h3 => ?_)
    · refine ar_gd (d := (some 61)) (by show ((((sceneHit s ray).2) == 1) == true) = true; rw [h3]; rfl) rfl (st_lda (g := g2) (off := 0) (vs := [.int .i64 (((sceneHit s ray2).1).lo), .int .i64 (((sceneHit s ray2).1).hi), .bool (((sceneHit s ray2).1).no)]) agg26 0 rfl rfl rfl rfl rfl rfl ?_)
      refine ar_gd (d := (some 62)) (by show ((((sceneHit s ray).2) == 1) == true) = true; rw [h3]; rfl) rfl (st_lda (g := g1) (off := 0) (vs := [.int .i64 (((sceneHit s ray).1).lo), .int .i64 (((sceneHit s ray).1).hi), .bool (((sceneHit s ray).1).no)]) agg26 1 rfl rfl rfl rfl rfl rfl ?_)
      refine ar_gd (d := (some 63)) (by show ((((sceneHit s ray).2) == 1) == true) = true; rw [h3]; rfl) rfl (st_cf (vs := [.agg #[.int .i64 (((sceneHit s ray2).1).lo), .int .i64 (((sceneHit s ray2).1).hi), .bool (((sceneHit s ray2).1).no)], .agg #[.int .i64 (((sceneHit s ray).1).lo), .int .i64 (((sceneHit s ray).1).hi), .bool (((sceneHit s ray).1).no)]]) (r := .bool (ivInside ((sceneHit s ray2).1) ((sceneHit s ray).1))) (c_ivInside ((sceneHit s ray2).1) ((sceneHit s ray).1)) Try.func26 rfl (by decide) rfl rfl rfl ?_)
      refine ar_gd (d := (some 64)) (by show ((((sceneHit s ray).2) == 1) == true) = true; rw [h3]; rfl) rfl (st_un (u := .bool (ivInside ((sceneHit s ray2).1) ((sceneHit s ray).1))) (v := .bool (!(ivInside ((sceneHit s ray2).1) ((sceneHit s ray).1)))) rfl rfl (un_not rfl) ?_)
      refine ar_gd (d := (some 65)) (by show ((((sceneHit s ray2).2) != ((sceneHit s ray).2)) == false) = true; rw [h2]; rfl) rfl (st_pkt' (b := ((sceneHit s ray).2) == 1) (v := .bool (!(ivInside ((sceneHit s ray2).1) ((sceneHit s ray).1)))) h3 rfl rfl rfl ?_)
      refine ao 66 rfl rfl (st_pkf' (b := ((sceneHit s ray2).2) != ((sceneHit s ray).2)) (v := .bool (!(ivInside ((sceneHit s ray2).1) ((sceneHit s ray).1)))) h2 rfl rfl rfl ?_)
      refine ar_nil ?_
      refine bool_split (ivInside ((sceneHit s ray2).1) ((sceneHit s ray).1)) (fun h4 => ?_) (fun h4 => nomatch (show false = true from (show (lessRound ray ray2 s) = _ from (eT h1 (eF h2 (eT h3 (eF h4 rfl))))).symm.trans HG))
      refine ac_else' (b := !(ivInside ((sceneHit s ray2).1) ((sceneHit s ray).1))) (by rw [h4]; rfl) rfl ?_
      refine ac_skip ?_
      refine ac_region_lit ?_
      refine ao 67 rfl rfl (st_bi (u := .int .i64 (k : Int)) (v := .int .i64 1) (r := .int .i64 (w64 ((k : Int) + 1))) rfl rfl rfl (bi_add rfl) ?_)
      refine ao 34 rfl rfl (st_move (v := .int .i64 (w64 ((k : Int) + 1))) rfl rfl ?_)
      refine ar_nil ?_
      exact ar_dropR (List.Sublist.cons _ (List.Sublist.cons _ (List.Sublist.cons _ (List.Sublist.refl _)))) (K _ rfl rfl rfl rfl rfl rfl rfl)
    · refine ar_sk (d := (some 61)) (by show ((((sceneHit s ray).2) == 1) == true) = false; rw [h3]; rfl) rfl ?_
      refine ar_sk (d := (some 62)) (by show ((((sceneHit s ray).2) == 1) == true) = false; rw [h3]; rfl) rfl ?_
      refine ar_sk (d := (some 63)) (by show ((((sceneHit s ray).2) == 1) == true) = false; rw [h3]; rfl) rfl ?_
      refine ar_sk (d := (some 64)) (by show ((((sceneHit s ray).2) == 1) == true) = false; rw [h3]; rfl) rfl ?_
      refine ar_gd (d := (some 65)) (by show ((((sceneHit s ray2).2) != ((sceneHit s ray).2)) == false) = true; rw [h2]; rfl) rfl (st_pkf' (b := ((sceneHit s ray).2) == 1) (v := .bool false) h3 rfl rfl rfl ?_)
      refine ao 66 rfl rfl (st_pkf' (b := ((sceneHit s ray2).2) != ((sceneHit s ray).2)) (v := .bool false) h2 rfl rfl rfl ?_)
      refine ar_nil ?_
      refine ac_else rfl ?_
      refine ac_skip ?_
      refine ac_region_lit ?_
      refine ao 67 rfl rfl (st_bi (u := .int .i64 (k : Int)) (v := .int .i64 1) (r := .int .i64 (w64 ((k : Int) + 1))) rfl rfl rfl (bi_add rfl) ?_)
      refine ao 34 rfl rfl (st_move (v := .int .i64 (w64 ((k : Int) + 1))) rfl rfl ?_)
      refine ar_nil ?_
      exact ar_dropR (List.Sublist.cons _ (List.Sublist.cons _ (List.Sublist.cons _ (List.Sublist.refl _)))) (K _ rfl rfl rfl rfl rfl rfl rfl)
  · refine ar_sk (d := (some 53)) (by show ((((sceneHit s ray).2) != 0) == true) = false; rw [h1]; rfl) rfl ?_
    refine ar_sk (d := (some 54)) (by show ((((sceneHit s ray).2) != 0) == true) = false; rw [h1]; rfl) rfl ?_
    refine ar_sk (d := (some 55)) (by show ((((sceneHit s ray).2) != 0) == true) = false; rw [h1]; rfl) rfl ?_
    refine ao 56 rfl rfl (st_pkf' (b := ((sceneHit s ray).2) != 0) (v := .bool false) h1 rfl rfl rfl ?_)
    refine ao 57 rfl rfl (st_move (v := .bool false) rfl rfl ?_)
    refine ar_gd (d := (some 58)) rfl rfl (st_move (v := .int .i64 ((sceneHit s ray).2)) rfl rfl ?_)
    refine ar_gd (d := (some 59)) rfl rfl (st_bi (u := .int .i64 ((sceneHit s ray).2)) (v := .int .i64 1) (r := .bool (((sceneHit s ray).2) == 1)) rfl rfl rfl (bi_eql rfl) ?_)
    refine ar_gd (d := (some 60)) rfl rfl (st_move (v := .bool (((sceneHit s ray).2) == 1)) rfl rfl ?_)
    refine bool_split (((sceneHit s ray).2) == 1) (fun h2 => ?_) (fun h2 => ?_)
    · refine ar_gd (d := (some 61)) (by show ((((sceneHit s ray).2) == 1) == true) = true; rw [h2]; rfl) rfl (st_lda (g := g2) (off := 0) (vs := [.int .i64 (((sceneHit s ray2).1).lo), .int .i64 (((sceneHit s ray2).1).hi), .bool (((sceneHit s ray2).1).no)]) agg26 0 rfl rfl rfl rfl rfl rfl ?_)
      refine ar_gd (d := (some 62)) (by show ((((sceneHit s ray).2) == 1) == true) = true; rw [h2]; rfl) rfl (st_lda (g := g1) (off := 0) (vs := [.int .i64 (((sceneHit s ray).1).lo), .int .i64 (((sceneHit s ray).1).hi), .bool (((sceneHit s ray).1).no)]) agg26 1 rfl rfl rfl rfl rfl rfl ?_)
      refine ar_gd (d := (some 63)) (by show ((((sceneHit s ray).2) == 1) == true) = true; rw [h2]; rfl) rfl (st_cf (vs := [.agg #[.int .i64 (((sceneHit s ray2).1).lo), .int .i64 (((sceneHit s ray2).1).hi), .bool (((sceneHit s ray2).1).no)], .agg #[.int .i64 (((sceneHit s ray).1).lo), .int .i64 (((sceneHit s ray).1).hi), .bool (((sceneHit s ray).1).no)]]) (r := .bool (ivInside ((sceneHit s ray2).1) ((sceneHit s ray).1))) (c_ivInside ((sceneHit s ray2).1) ((sceneHit s ray).1)) Try.func26 rfl (by decide) rfl rfl rfl ?_)
      refine ar_gd (d := (some 64)) (by show ((((sceneHit s ray).2) == 1) == true) = true; rw [h2]; rfl) rfl (st_un (u := .bool (ivInside ((sceneHit s ray2).1) ((sceneHit s ray).1))) (v := .bool (!(ivInside ((sceneHit s ray2).1) ((sceneHit s ray).1)))) rfl rfl (un_not rfl) ?_)
      refine ar_gd (d := (some 65)) rfl rfl (st_pkt' (b := ((sceneHit s ray).2) == 1) (v := .bool (!(ivInside ((sceneHit s ray2).1) ((sceneHit s ray).1)))) h2 rfl rfl rfl ?_)
      refine ao 66 rfl rfl (st_pkf (v := .bool (!(ivInside ((sceneHit s ray2).1) ((sceneHit s ray).1)))) rfl rfl rfl ?_)
      refine ar_nil ?_
      refine bool_split (ivInside ((sceneHit s ray2).1) ((sceneHit s ray).1)) (fun h3 => ?_) (fun h3 => nomatch (show false = true from (show (lessRound ray ray2 s) = _ from (eF h1 (eT h2 (eF h3 rfl)))).symm.trans HG))
      refine ac_else' (b := !(ivInside ((sceneHit s ray2).1) ((sceneHit s ray).1))) (by rw [h3]; rfl) rfl ?_
      refine ac_skip ?_
      refine ac_region_lit ?_
      refine ao 67 rfl rfl (st_bi (u := .int .i64 (k : Int)) (v := .int .i64 1) (r := .int .i64 (w64 ((k : Int) + 1))) rfl rfl rfl (bi_add rfl) ?_)
      refine ao 34 rfl rfl (st_move (v := .int .i64 (w64 ((k : Int) + 1))) rfl rfl ?_)
      refine ar_nil ?_
      exact ar_dropR (List.Sublist.cons _ (List.Sublist.cons _ (List.Sublist.cons _ (List.Sublist.refl _)))) (K _ rfl rfl rfl rfl rfl rfl rfl)
    · refine ar_sk (d := (some 61)) (by show ((((sceneHit s ray).2) == 1) == true) = false; rw [h2]; rfl) rfl ?_
      refine ar_sk (d := (some 62)) (by show ((((sceneHit s ray).2) == 1) == true) = false; rw [h2]; rfl) rfl ?_
      refine ar_sk (d := (some 63)) (by show ((((sceneHit s ray).2) == 1) == true) = false; rw [h2]; rfl) rfl ?_
      refine ar_sk (d := (some 64)) (by show ((((sceneHit s ray).2) == 1) == true) = false; rw [h2]; rfl) rfl ?_
      refine ar_gd (d := (some 65)) rfl rfl (st_pkf' (b := ((sceneHit s ray).2) == 1) (v := .bool false) h2 rfl rfl rfl ?_)
      refine ao 66 rfl rfl (st_pkf (v := .bool false) rfl rfl rfl ?_)
      refine ar_nil ?_
      refine ac_else rfl ?_
      refine ac_skip ?_
      refine ac_region_lit ?_
      refine ao 67 rfl rfl (st_bi (u := .int .i64 (k : Int)) (v := .int .i64 1) (r := .int .i64 (w64 ((k : Int) + 1))) rfl rfl rfl (bi_add rfl) ?_)
      refine ao 34 rfl rfl (st_move (v := .int .i64 (w64 ((k : Int) + 1))) rfl rfl ?_)
      refine ar_nil ?_
      exact ar_dropR (List.Sublist.cons _ (List.Sublist.cons _ (List.Sublist.cons _ (List.Sublist.refl _)))) (K _ rfl rfl rfl rfl rfl rfl rfl)
set_option maxRecDepth 100000 in
theorem less_leave (g10 g11 gS M cS : Nat) (ra : List Value) (ray ray2 : Ray) {Q : Exit → Env → List Box → Prop} {E : Env} {c : Code} {j : Nat} (hc : Try.f17.body.bind loopOf = some c) (q8 : E 8 = .bool false) (q9 : E 9 = .slice (some ⟨gS, 0, none⟩) M cS) (q10 : E 10 = .pointer (some ⟨g10, 0, none⟩)) (q11 : E 11 = .pointer (some ⟨g11, 0, none⟩)) (q32 : E 32 = .slice (some ⟨gS, 0, none⟩) M cS) (q33 : E 33 = .int .i64 (M : Int)) (q34 : E 34 = .int .i64 (M : Int)) (K : ∀ E' : Env, E' 8 = .bool false → E' 9 = .slice (some ⟨gS, 0, none⟩) M cS → E' 10 = .pointer (some ⟨g10, 0, none⟩) → E' 11 = .pointer (some ⟨g11, 0, none⟩) → E' 32 = .slice (some ⟨gS, 0, none⟩) M cS → E' 33 = .int .i64 (M : Int) → E' 34 = .int .i64 (M : Int) → Q (.exit 0) E' [⟨g11, rayC ray2, 77, false⟩, ⟨g10, rayC ray, 77, false⟩, ⟨gS, ra, 86, false⟩]) : ARounds Try.prog 116 c Q (j + 1) E [⟨g11, rayC ray2, 77, false⟩, ⟨g10, rayC ray, 77, false⟩, ⟨gS, ra, 86, false⟩] := by
  rw [show Try.f17.body.bind loopOf = some _ from rfl] at hc
  cases hc
  obtain ⟨E0, rfl⟩ : ∃ E0 : Env, E = (((((((E0.put (some 8) (.bool false)).put (some 9) (.slice (some ⟨gS, 0, none⟩) M cS)).put (some 10) (.pointer (some ⟨g10, 0, none⟩))).put (some 11) (.pointer (some ⟨g11, 0, none⟩))).put (some 32) (.slice (some ⟨gS, 0, none⟩) M cS)).put (some 33) (.int .i64 (M : Int))).put (some 34) (.int .i64 (M : Int))) := ⟨E, by rw [put_self q8, put_self q9, put_self q10, put_self q11, put_self q32, put_self q33, put_self q34]⟩
  refine ar_round ?_
  refine ac_seq ?_
  refine ac_region_lit ?_
  refine ao 35 rfl rfl (st_bi (u := .int .i64 (M : Int)) (v := .int .i64 (M : Int)) (r := .bool (decide ((M : Int) < (M : Int)))) rfl rfl rfl (bi_lss rfl) ?_)
  refine ar_nil ?_
  refine ac_seq ?_
  refine ac_else' (b := decide ((M : Int) < (M : Int))) (decide_eq_false (show ¬ ((M : Int) < (M : Int)) by omega)) rfl ?_
  refine ac_exit ?_
  exact K _ rfl rfl rfl rfl rfl rfl rfl
theorem less_loop (g10 g11 gS M cS : Nat) (ra : List Value) (ray ray2 : Ray) {Q : Exit → Env → List Box → Prop} {c : Code} (hc : Try.f17.body.bind loopOf = some c) (hM : M ≤ 1000000) :
    ∀ (l : List Shape) (k : Nat) (E : Env), k + l.length = M → (∀ j s, l[j]? = some s → (ra.drop (0 + (k + j) * 12)).take 12 = shapeC s) → l.all (lessRound ray ray2) = true → E 8 = .bool false → E 9 = .slice (some ⟨gS, 0, none⟩) M cS → E 10 = .pointer (some ⟨g10, 0, none⟩) → E 11 = .pointer (some ⟨g11, 0, none⟩) → E 32 = .slice (some ⟨gS, 0, none⟩) M cS → E 33 = .int .i64 (M : Int) → E 34 = .int .i64 (k : Int) → (∀ E' : Env, E' 8 = .bool false → E' 9 = .slice (some ⟨gS, 0, none⟩) M cS → E' 10 = .pointer (some ⟨g10, 0, none⟩) → E' 11 = .pointer (some ⟨g11, 0, none⟩) → E' 32 = .slice (some ⟨gS, 0, none⟩) M cS → E' 33 = .int .i64 (M : Int) → E' 34 = .int .i64 (M : Int) → Q (.exit 0) E' [⟨g11, rayC ray2, 77, false⟩, ⟨g10, rayC ray, 77, false⟩, ⟨gS, ra, 86, false⟩]) → ARounds Try.prog 116 c Q (l.length + 1) E [⟨g11, rayC ray2, 77, false⟩, ⟨g10, rayC ray, 77, false⟩, ⟨gS, ra, 86, false⟩] := by
  intro l
  induction l with
  | nil =>
    intro k E hk hra hall q8 q9 q10 q11 q32 q33 q34 K
    obtain rfl : k = M := by simpa using hk
    exact less_leave g10 g11 gS k cS ra ray ray2 hc q8 q9 q10 q11 q32 q33 q34 K
  | cons s l ih =>
    intro k E hk hra hall q8 q9 q10 q11 q32 q33 q34 K
    simp only [List.all_cons, Bool.and_eq_true] at hall
    have hkM : k < M := by simp only [List.length_cons] at hk; omega
    refine c_lessRound g10 g11 gS M cS k ra ray ray2 s hkM (by have := hra 0 s rfl; simpa using this) hc q8 q9 q10 q11 q32 q33 q34 hall.1 ?_
    intro E' f8 f9 f10 f11 f32 f33 f34
    exact ih (k + 1) E' (by simp only [List.length_cons] at hk; omega) (fun j s hj => by have := hra (j + 1) s (by simpa using hj); rw [show k + 1 + j = k + (j + 1) from by omega]; exact this) hall.2 f8 f9 f10 f11 f32 f33 (by rw [f34, w64_id (by omega)]; rfl) K
end Go.Proofs.Ythngkopcadlciaa
namespace Go.Proofs.Ythngkopcadlciaa
open Go.RowKit
attribute [local irreducible] AC AR DWalk
def axis26 (h : Iv) : Ray := (⟨(vecOf h (ivPoint 0) (ivPoint 0)), (vecOf (ivPoint 0) (ivPoint 0) (ivWhole 1))⟩ : Ray)
set_option maxRecDepth 100000 in
theorem c_axis26 (h : Iv) : Gets Try.prog 60 #[.agg #[.int .i64 h.lo, .int .i64 h.hi, .bool h.no]] (Ray.v (axis26 h)) := by
  refine gets_fin Try.func60 rfl rfl rfl ?_
  refine ac_seq ?_
  refine ac_region_lit ?_
  refine ao 1 rfl rfl (st_box (v := .agg #[.int .i64 h.lo, .int .i64 h.hi, .bool h.no]) (cs := [.int .i64 h.lo, .int .i64 h.hi, .bool h.no]) rfl rfl rfl fun g0 => ?_)
  refine ao 2 rfl rfl (st_new zero77 rfl fun g1 => ?_)
  refine ar_nil ?_
  refine ac_seq ?_
  refine ac_draw0 (id := 1) [0, 1, 2, 3, 4, 5, 6, 7, 8] [9] _ (by kernel_rfl) follows rfl  ?_
  refine dw_op (d := (some 3)) (.agg #[.int .i64 h.lo, .int .i64 h.hi, .bool h.no]) rfl rfl rfl (st_lda (g := g0) (off := 0) (vs := [.int .i64 h.lo, .int .i64 h.hi, .bool h.no]) agg26 1 rfl rfl rfl rfl rfl rfl ⟨rfl, rfl⟩) ?_
  refine dw_op (d := (some 4)) (.agg #[.int .i64 ((ivPoint 0).lo), .int .i64 ((ivPoint 0).hi), .bool ((ivPoint 0).no)]) rfl rfl rfl (st_cf (vs := [.int .i64 0]) (r := .agg #[.int .i64 ((ivPoint 0).lo), .int .i64 ((ivPoint 0).hi), .bool ((ivPoint 0).no)]) (c_ivPoint 0) Try.func29 rfl (by decide) rfl rfl rfl ⟨rfl, rfl⟩) ?_
  refine dw_op (d := (some 5)) (.agg #[.int .i64 ((ivPoint 0).lo), .int .i64 ((ivPoint 0).hi), .bool ((ivPoint 0).no)]) rfl rfl rfl (st_cf (vs := [.int .i64 0]) (r := .agg #[.int .i64 ((ivPoint 0).lo), .int .i64 ((ivPoint 0).hi), .bool ((ivPoint 0).no)]) (c_ivPoint 0) Try.func29 rfl (by decide) rfl rfl rfl ⟨rfl, rfl⟩) ?_
  refine dw_op (d := (some 6)) (.agg #[.int .i64 (((vecOf h (ivPoint 0) (ivPoint 0)).x).lo), .int .i64 (((vecOf h (ivPoint 0) (ivPoint 0)).x).hi), .bool (((vecOf h (ivPoint 0) (ivPoint 0)).x).no), .int .i64 (((vecOf h (ivPoint 0) (ivPoint 0)).y).lo), .int .i64 (((vecOf h (ivPoint 0) (ivPoint 0)).y).hi), .bool (((vecOf h (ivPoint 0) (ivPoint 0)).y).no), .int .i64 (((vecOf h (ivPoint 0) (ivPoint 0)).z).lo), .int .i64 (((vecOf h (ivPoint 0) (ivPoint 0)).z).hi), .bool (((vecOf h (ivPoint 0) (ivPoint 0)).z).no)]) rfl rfl rfl (st_cf (vs := [.agg #[.int .i64 h.lo, .int .i64 h.hi, .bool h.no], .agg #[.int .i64 ((ivPoint 0).lo), .int .i64 ((ivPoint 0).hi), .bool ((ivPoint 0).no)], .agg #[.int .i64 ((ivPoint 0).lo), .int .i64 ((ivPoint 0).hi), .bool ((ivPoint 0).no)]]) (r := .agg #[.int .i64 (((vecOf h (ivPoint 0) (ivPoint 0)).x).lo), .int .i64 (((vecOf h (ivPoint 0) (ivPoint 0)).x).hi), .bool (((vecOf h (ivPoint 0) (ivPoint 0)).x).no), .int .i64 (((vecOf h (ivPoint 0) (ivPoint 0)).y).lo), .int .i64 (((vecOf h (ivPoint 0) (ivPoint 0)).y).hi), .bool (((vecOf h (ivPoint 0) (ivPoint 0)).y).no), .int .i64 (((vecOf h (ivPoint 0) (ivPoint 0)).z).lo), .int .i64 (((vecOf h (ivPoint 0) (ivPoint 0)).z).hi), .bool (((vecOf h (ivPoint 0) (ivPoint 0)).z).no)]) (c_vecOf h (ivPoint 0) (ivPoint 0)) Try.func44 rfl (by decide) rfl rfl rfl ⟨rfl, rfl⟩) ?_
  refine dw_op (d := (some 7)) (.agg #[.int .i64 ((ivPoint 0).lo), .int .i64 ((ivPoint 0).hi), .bool ((ivPoint 0).no)]) rfl rfl rfl (st_cf (vs := [.int .i64 0]) (r := .agg #[.int .i64 ((ivPoint 0).lo), .int .i64 ((ivPoint 0).hi), .bool ((ivPoint 0).no)]) (c_ivPoint 0) Try.func29 rfl (by decide) rfl rfl rfl ⟨rfl, rfl⟩) ?_
  refine dw_op (d := (some 8)) (.agg #[.int .i64 ((ivPoint 0).lo), .int .i64 ((ivPoint 0).hi), .bool ((ivPoint 0).no)]) rfl rfl rfl (st_cf (vs := [.int .i64 0]) (r := .agg #[.int .i64 ((ivPoint 0).lo), .int .i64 ((ivPoint 0).hi), .bool ((ivPoint 0).no)]) (c_ivPoint 0) Try.func29 rfl (by decide) rfl rfl rfl ⟨rfl, rfl⟩) ?_
  refine dw_op (d := (some 9)) (.agg #[.int .i64 ((ivWhole 1).lo), .int .i64 ((ivWhole 1).hi), .bool ((ivWhole 1).no)]) rfl rfl rfl (st_cf (vs := [.int .i64 1]) (r := .agg #[.int .i64 ((ivWhole 1).lo), .int .i64 ((ivWhole 1).hi), .bool ((ivWhole 1).no)]) (c_ivWhole 1) Try.func21 rfl (by decide) rfl rfl rfl ⟨rfl, rfl⟩) ?_
  refine dw_op (d := (some 10)) (.agg #[.int .i64 (((vecOf (ivPoint 0) (ivPoint 0) (ivWhole 1)).x).lo), .int .i64 (((vecOf (ivPoint 0) (ivPoint 0) (ivWhole 1)).x).hi), .bool (((vecOf (ivPoint 0) (ivPoint 0) (ivWhole 1)).x).no), .int .i64 (((vecOf (ivPoint 0) (ivPoint 0) (ivWhole 1)).y).lo), .int .i64 (((vecOf (ivPoint 0) (ivPoint 0) (ivWhole 1)).y).hi), .bool (((vecOf (ivPoint 0) (ivPoint 0) (ivWhole 1)).y).no), .int .i64 (((vecOf (ivPoint 0) (ivPoint 0) (ivWhole 1)).z).lo), .int .i64 (((vecOf (ivPoint 0) (ivPoint 0) (ivWhole 1)).z).hi), .bool (((vecOf (ivPoint 0) (ivPoint 0) (ivWhole 1)).z).no)]) rfl rfl rfl (st_cf (vs := [.agg #[.int .i64 ((ivPoint 0).lo), .int .i64 ((ivPoint 0).hi), .bool ((ivPoint 0).no)], .agg #[.int .i64 ((ivPoint 0).lo), .int .i64 ((ivPoint 0).hi), .bool ((ivPoint 0).no)], .agg #[.int .i64 ((ivWhole 1).lo), .int .i64 ((ivWhole 1).hi), .bool ((ivWhole 1).no)]]) (r := .agg #[.int .i64 (((vecOf (ivPoint 0) (ivPoint 0) (ivWhole 1)).x).lo), .int .i64 (((vecOf (ivPoint 0) (ivPoint 0) (ivWhole 1)).x).hi), .bool (((vecOf (ivPoint 0) (ivPoint 0) (ivWhole 1)).x).no), .int .i64 (((vecOf (ivPoint 0) (ivPoint 0) (ivWhole 1)).y).lo), .int .i64 (((vecOf (ivPoint 0) (ivPoint 0) (ivWhole 1)).y).hi), .bool (((vecOf (ivPoint 0) (ivPoint 0) (ivWhole 1)).y).no), .int .i64 (((vecOf (ivPoint 0) (ivPoint 0) (ivWhole 1)).z).lo), .int .i64 (((vecOf (ivPoint 0) (ivPoint 0) (ivWhole 1)).z).hi), .bool (((vecOf (ivPoint 0) (ivPoint 0) (ivWhole 1)).z).no)]) (c_vecOf (ivPoint 0) (ivPoint 0) (ivWhole 1)) Try.func44 rfl (by decide) rfl rfl rfl ⟨rfl, rfl⟩) ?_
  refine dw_op (d := (some 11)) (.agg #[.int .i64 (((vecOf h (ivPoint 0) (ivPoint 0)).x).lo), .int .i64 (((vecOf h (ivPoint 0) (ivPoint 0)).x).hi), .bool (((vecOf h (ivPoint 0) (ivPoint 0)).x).no), .int .i64 (((vecOf h (ivPoint 0) (ivPoint 0)).y).lo), .int .i64 (((vecOf h (ivPoint 0) (ivPoint 0)).y).hi), .bool (((vecOf h (ivPoint 0) (ivPoint 0)).y).no), .int .i64 (((vecOf h (ivPoint 0) (ivPoint 0)).z).lo), .int .i64 (((vecOf h (ivPoint 0) (ivPoint 0)).z).hi), .bool (((vecOf h (ivPoint 0) (ivPoint 0)).z).no), .int .i64 (((vecOf (ivPoint 0) (ivPoint 0) (ivWhole 1)).x).lo), .int .i64 (((vecOf (ivPoint 0) (ivPoint 0) (ivWhole 1)).x).hi), .bool (((vecOf (ivPoint 0) (ivPoint 0) (ivWhole 1)).x).no), .int .i64 (((vecOf (ivPoint 0) (ivPoint 0) (ivWhole 1)).y).lo), .int .i64 (((vecOf (ivPoint 0) (ivPoint 0) (ivWhole 1)).y).hi), .bool (((vecOf (ivPoint 0) (ivPoint 0) (ivWhole 1)).y).no), .int .i64 (((vecOf (ivPoint 0) (ivPoint 0) (ivWhole 1)).z).lo), .int .i64 (((vecOf (ivPoint 0) (ivPoint 0) (ivWhole 1)).z).hi), .bool (((vecOf (ivPoint 0) (ivPoint 0) (ivWhole 1)).z).no)]) rfl rfl rfl (st_bd (us := [(0, .agg #[.int .i64 (((vecOf h (ivPoint 0) (ivPoint 0)).x).lo), .int .i64 (((vecOf h (ivPoint 0) (ivPoint 0)).x).hi), .bool (((vecOf h (ivPoint 0) (ivPoint 0)).x).no), .int .i64 (((vecOf h (ivPoint 0) (ivPoint 0)).y).lo), .int .i64 (((vecOf h (ivPoint 0) (ivPoint 0)).y).hi), .bool (((vecOf h (ivPoint 0) (ivPoint 0)).y).no), .int .i64 (((vecOf h (ivPoint 0) (ivPoint 0)).z).lo), .int .i64 (((vecOf h (ivPoint 0) (ivPoint 0)).z).hi), .bool (((vecOf h (ivPoint 0) (ivPoint 0)).z).no)]), (1, .agg #[.int .i64 (((vecOf (ivPoint 0) (ivPoint 0) (ivWhole 1)).x).lo), .int .i64 (((vecOf (ivPoint 0) (ivPoint 0) (ivWhole 1)).x).hi), .bool (((vecOf (ivPoint 0) (ivPoint 0) (ivWhole 1)).x).no), .int .i64 (((vecOf (ivPoint 0) (ivPoint 0) (ivWhole 1)).y).lo), .int .i64 (((vecOf (ivPoint 0) (ivPoint 0) (ivWhole 1)).y).hi), .bool (((vecOf (ivPoint 0) (ivPoint 0) (ivWhole 1)).y).no), .int .i64 (((vecOf (ivPoint 0) (ivPoint 0) (ivWhole 1)).z).lo), .int .i64 (((vecOf (ivPoint 0) (ivPoint 0) (ivWhole 1)).z).hi), .bool (((vecOf (ivPoint 0) (ivPoint 0) (ivWhole 1)).z).no)])]) (v := .agg #[.int .i64 (((vecOf h (ivPoint 0) (ivPoint 0)).x).lo), .int .i64 (((vecOf h (ivPoint 0) (ivPoint 0)).x).hi), .bool (((vecOf h (ivPoint 0) (ivPoint 0)).x).no), .int .i64 (((vecOf h (ivPoint 0) (ivPoint 0)).y).lo), .int .i64 (((vecOf h (ivPoint 0) (ivPoint 0)).y).hi), .bool (((vecOf h (ivPoint 0) (ivPoint 0)).y).no), .int .i64 (((vecOf h (ivPoint 0) (ivPoint 0)).z).lo), .int .i64 (((vecOf h (ivPoint 0) (ivPoint 0)).z).hi), .bool (((vecOf h (ivPoint 0) (ivPoint 0)).z).no), .int .i64 (((vecOf (ivPoint 0) (ivPoint 0) (ivWhole 1)).x).lo), .int .i64 (((vecOf (ivPoint 0) (ivPoint 0) (ivWhole 1)).x).hi), .bool (((vecOf (ivPoint 0) (ivPoint 0) (ivWhole 1)).x).no), .int .i64 (((vecOf (ivPoint 0) (ivPoint 0) (ivWhole 1)).y).lo), .int .i64 (((vecOf (ivPoint 0) (ivPoint 0) (ivWhole 1)).y).hi), .bool (((vecOf (ivPoint 0) (ivPoint 0) (ivWhole 1)).y).no), .int .i64 (((vecOf (ivPoint 0) (ivPoint 0) (ivWhole 1)).z).lo), .int .i64 (((vecOf (ivPoint 0) (ivPoint 0) (ivWhole 1)).z).hi), .bool (((vecOf (ivPoint 0) (ivPoint 0) (ivWhole 1)).z).no)]) rfl rfl (bd77_0a_1a _ _ _ _ _ _ _ _ _ _ _ _ _ _ _ _ _ _) ⟨rfl, rfl⟩) ?_
  refine dw_nil ?_
  refine ar_op (d := none) rfl rfl (st_sta (g := g1) (off := 0) (us := [.int .i64 (((vecOf h (ivPoint 0) (ivPoint 0)).x).lo), .int .i64 (((vecOf h (ivPoint 0) (ivPoint 0)).x).hi), .bool (((vecOf h (ivPoint 0) (ivPoint 0)).x).no), .int .i64 (((vecOf h (ivPoint 0) (ivPoint 0)).y).lo), .int .i64 (((vecOf h (ivPoint 0) (ivPoint 0)).y).hi), .bool (((vecOf h (ivPoint 0) (ivPoint 0)).y).no), .int .i64 (((vecOf h (ivPoint 0) (ivPoint 0)).z).lo), .int .i64 (((vecOf h (ivPoint 0) (ivPoint 0)).z).hi), .bool (((vecOf h (ivPoint 0) (ivPoint 0)).z).no), .int .i64 (((vecOf (ivPoint 0) (ivPoint 0) (ivWhole 1)).x).lo), .int .i64 (((vecOf (ivPoint 0) (ivPoint 0) (ivWhole 1)).x).hi), .bool (((vecOf (ivPoint 0) (ivPoint 0) (ivWhole 1)).x).no), .int .i64 (((vecOf (ivPoint 0) (ivPoint 0) (ivWhole 1)).y).lo), .int .i64 (((vecOf (ivPoint 0) (ivPoint 0) (ivWhole 1)).y).hi), .bool (((vecOf (ivPoint 0) (ivPoint 0) (ivWhole 1)).y).no), .int .i64 (((vecOf (ivPoint 0) (ivPoint 0) (ivWhole 1)).z).lo), .int .i64 (((vecOf (ivPoint 0) (ivPoint 0) (ivWhole 1)).z).hi), .bool (((vecOf (ivPoint 0) (ivPoint 0) (ivWhole 1)).z).no)]) (cs := [.int .i64 (((vecOf h (ivPoint 0) (ivPoint 0)).x).lo), .int .i64 (((vecOf h (ivPoint 0) (ivPoint 0)).x).hi), .bool (((vecOf h (ivPoint 0) (ivPoint 0)).x).no), .int .i64 (((vecOf h (ivPoint 0) (ivPoint 0)).y).lo), .int .i64 (((vecOf h (ivPoint 0) (ivPoint 0)).y).hi), .bool (((vecOf h (ivPoint 0) (ivPoint 0)).y).no), .int .i64 (((vecOf h (ivPoint 0) (ivPoint 0)).z).lo), .int .i64 (((vecOf h (ivPoint 0) (ivPoint 0)).z).hi), .bool (((vecOf h (ivPoint 0) (ivPoint 0)).z).no), .int .i64 (((vecOf (ivPoint 0) (ivPoint 0) (ivWhole 1)).x).lo), .int .i64 (((vecOf (ivPoint 0) (ivPoint 0) (ivWhole 1)).x).hi), .bool (((vecOf (ivPoint 0) (ivPoint 0) (ivWhole 1)).x).no), .int .i64 (((vecOf (ivPoint 0) (ivPoint 0) (ivWhole 1)).y).lo), .int .i64 (((vecOf (ivPoint 0) (ivPoint 0) (ivWhole 1)).y).hi), .bool (((vecOf (ivPoint 0) (ivPoint 0) (ivWhole 1)).y).no), .int .i64 (((vecOf (ivPoint 0) (ivPoint 0) (ivWhole 1)).z).lo), .int .i64 (((vecOf (ivPoint 0) (ivPoint 0) (ivWhole 1)).z).hi), .bool (((vecOf (ivPoint 0) (ivPoint 0) (ivWhole 1)).z).no)]) agg77 0 rfl rfl rfl rfl rfl rfl rfl rfl rfl ?_)
  refine ar_nil ?_
  refine ac_ret ?_
  exact fin_eq (v := .agg #[.int .i64 (((vecOf h (ivPoint 0) (ivPoint 0)).x).lo), .int .i64 (((vecOf h (ivPoint 0) (ivPoint 0)).x).hi), .bool (((vecOf h (ivPoint 0) (ivPoint 0)).x).no), .int .i64 (((vecOf h (ivPoint 0) (ivPoint 0)).y).lo), .int .i64 (((vecOf h (ivPoint 0) (ivPoint 0)).y).hi), .bool (((vecOf h (ivPoint 0) (ivPoint 0)).y).no), .int .i64 (((vecOf h (ivPoint 0) (ivPoint 0)).z).lo), .int .i64 (((vecOf h (ivPoint 0) (ivPoint 0)).z).hi), .bool (((vecOf h (ivPoint 0) (ivPoint 0)).z).no), .int .i64 (((vecOf (ivPoint 0) (ivPoint 0) (ivWhole 1)).x).lo), .int .i64 (((vecOf (ivPoint 0) (ivPoint 0) (ivWhole 1)).x).hi), .bool (((vecOf (ivPoint 0) (ivPoint 0) (ivWhole 1)).x).no), .int .i64 (((vecOf (ivPoint 0) (ivPoint 0) (ivWhole 1)).y).lo), .int .i64 (((vecOf (ivPoint 0) (ivPoint 0) (ivWhole 1)).y).hi), .bool (((vecOf (ivPoint 0) (ivPoint 0) (ivWhole 1)).y).no), .int .i64 (((vecOf (ivPoint 0) (ivPoint 0) (ivWhole 1)).z).lo), .int .i64 (((vecOf (ivPoint 0) (ivPoint 0) (ivWhole 1)).z).hi), .bool (((vecOf (ivPoint 0) (ivPoint 0) (ivWhole 1)).z).no)]) rfl (fin_ret (res_c (vs := [.int .i64 (((vecOf h (ivPoint 0) (ivPoint 0)).x).lo), .int .i64 (((vecOf h (ivPoint 0) (ivPoint 0)).x).hi), .bool (((vecOf h (ivPoint 0) (ivPoint 0)).x).no), .int .i64 (((vecOf h (ivPoint 0) (ivPoint 0)).y).lo), .int .i64 (((vecOf h (ivPoint 0) (ivPoint 0)).y).hi), .bool (((vecOf h (ivPoint 0) (ivPoint 0)).y).no), .int .i64 (((vecOf h (ivPoint 0) (ivPoint 0)).z).lo), .int .i64 (((vecOf h (ivPoint 0) (ivPoint 0)).z).hi), .bool (((vecOf h (ivPoint 0) (ivPoint 0)).z).no), .int .i64 (((vecOf (ivPoint 0) (ivPoint 0) (ivWhole 1)).x).lo), .int .i64 (((vecOf (ivPoint 0) (ivPoint 0) (ivWhole 1)).x).hi), .bool (((vecOf (ivPoint 0) (ivPoint 0) (ivWhole 1)).x).no), .int .i64 (((vecOf (ivPoint 0) (ivPoint 0) (ivWhole 1)).y).lo), .int .i64 (((vecOf (ivPoint 0) (ivPoint 0) (ivWhole 1)).y).hi), .bool (((vecOf (ivPoint 0) (ivPoint 0) (ivWhole 1)).y).no), .int .i64 (((vecOf (ivPoint 0) (ivPoint 0) (ivWhole 1)).z).lo), .int .i64 (((vecOf (ivPoint 0) (ivPoint 0) (ivWhole 1)).z).hi), .bool (((vecOf (ivPoint 0) (ivPoint 0) (ivWhole 1)).z).no)]) agg77 0 rfl rfl rfl rfl rfl rfl))
def ball26 (z : Int) (r : Int) : Shape := (⟨1, (⟨0, 0⟩ : Dec), (⟨0, 0⟩ : Dec), (⟨z, 0⟩ : Dec), (⟨r, 0⟩ : Dec), (⟨1, 2, 3⟩ : A3)⟩ : Shape)
set_option maxRecDepth 100000 in
theorem c_ball26 (z : Int) (r : Int) : Gets Try.prog 61 #[.int .i64 z, .int .i64 r] (Shape.v (ball26 z r)) := by
  refine gets_fin Try.func61 rfl rfl rfl ?_
  refine ac_seq ?_
  refine ac_region_lit ?_
  refine ao 4 rfl rfl (st_new zero86 rfl fun g0 => ?_)
  refine ar_nil ?_
  refine ac_seq ?_
  refine ac_region_lit ?_
  refine ao 5 rfl rfl (st_move (v := .int .i64 z) rfl rfl ?_)
  refine ao 6 rfl rfl (st_bd (us := [(0, .int .i64 z)]) (v := .agg #[.int .i64 z, .int .i64 0]) rfl rfl (bd83_0 _) ?_)
  refine ao 7 rfl rfl (st_move (v := .int .i64 r) rfl rfl ?_)
  refine ao 8 rfl rfl (st_bd (us := [(0, .int .i64 r)]) (v := .agg #[.int .i64 r, .int .i64 0]) rfl rfl (bd83_0 _) ?_)
  refine ao 9 rfl rfl (st_bd (us := [(0, .int .i64 1), (1, .int .i64 2), (2, .int .i64 3)]) (v := .agg #[.int .i64 1, .int .i64 2, .int .i64 3]) rfl rfl (bd84_0_1_2 _ _ _) ?_)
  refine ao 10 rfl rfl (st_bd (us := [(0, .int .i64 1), (3, .agg #[.int .i64 z, .int .i64 0]), (4, .agg #[.int .i64 r, .int .i64 0]), (5, .agg #[.int .i64 1, .int .i64 2, .int .i64 3])]) (v := .agg #[.int .i64 1, .int .i64 0, .int .i64 0, .int .i64 0, .int .i64 0, .int .i64 z, .int .i64 0, .int .i64 r, .int .i64 0, .int .i64 1, .int .i64 2, .int .i64 3]) rfl rfl (bd86_0_3a_4a_5a _ _ _ _ _ _ _ _) ?_)
  refine ar_op (d := none) rfl rfl (st_sta (g := g0) (off := 0) (us := [.int .i64 1, .int .i64 0, .int .i64 0, .int .i64 0, .int .i64 0, .int .i64 z, .int .i64 0, .int .i64 r, .int .i64 0, .int .i64 1, .int .i64 2, .int .i64 3]) (cs := [.int .i64 1, .int .i64 0, .int .i64 0, .int .i64 0, .int .i64 0, .int .i64 z, .int .i64 0, .int .i64 r, .int .i64 0, .int .i64 1, .int .i64 2, .int .i64 3]) agg86 0 rfl rfl rfl rfl rfl rfl rfl rfl rfl ?_)
  refine ar_nil ?_
  refine ac_ret ?_
  exact fin_eq (v := .agg #[.int .i64 1, .int .i64 0, .int .i64 0, .int .i64 0, .int .i64 0, .int .i64 z, .int .i64 0, .int .i64 r, .int .i64 0, .int .i64 1, .int .i64 2, .int .i64 3]) rfl (fin_ret (res_c (vs := [.int .i64 1, .int .i64 0, .int .i64 0, .int .i64 0, .int .i64 0, .int .i64 z, .int .i64 0, .int .i64 r, .int .i64 0, .int .i64 1, .int .i64 2, .int .i64 3]) agg86 0 rfl rfl rfl rfl rfl rfl))
def wall26 (z : Int) : Shape := (⟨2, (⟨0, 0⟩ : Dec), (⟨0, 0⟩ : Dec), (⟨z, 0⟩ : Dec), (⟨0, 0⟩ : Dec), (⟨0, 0, 0⟩ : A3)⟩ : Shape)
set_option maxRecDepth 100000 in
theorem c_wall26 (z : Int) : Gets Try.prog 63 #[.int .i64 z] (Shape.v (wall26 z)) := by
  refine gets_fin Try.func63 rfl rfl rfl ?_
  refine ac_seq ?_
  refine ac_region_lit ?_
  refine ao 2 rfl rfl (st_new zero86 rfl fun g0 => ?_)
  refine ar_nil ?_
  refine ac_seq ?_
  refine ac_region_lit ?_
  refine ao 3 rfl rfl (st_move (v := .int .i64 z) rfl rfl ?_)
  refine ao 4 rfl rfl (st_bd (us := [(0, .int .i64 z)]) (v := .agg #[.int .i64 z, .int .i64 0]) rfl rfl (bd83_0 _) ?_)
  refine ao 5 rfl rfl (st_bd (us := [(0, .int .i64 2), (3, .agg #[.int .i64 z, .int .i64 0])]) (v := .agg #[.int .i64 2, .int .i64 0, .int .i64 0, .int .i64 0, .int .i64 0, .int .i64 z, .int .i64 0, .int .i64 0, .int .i64 0, .int .i64 0, .int .i64 0, .int .i64 0]) rfl rfl (bd86_0_3a _ _ _) ?_)
  refine ar_op (d := none) rfl rfl (st_sta (g := g0) (off := 0) (us := [.int .i64 2, .int .i64 0, .int .i64 0, .int .i64 0, .int .i64 0, .int .i64 z, .int .i64 0, .int .i64 0, .int .i64 0, .int .i64 0, .int .i64 0, .int .i64 0]) (cs := [.int .i64 2, .int .i64 0, .int .i64 0, .int .i64 0, .int .i64 0, .int .i64 z, .int .i64 0, .int .i64 0, .int .i64 0, .int .i64 0, .int .i64 0, .int .i64 0]) agg86 0 rfl rfl rfl rfl rfl rfl rfl rfl rfl ?_)
  refine ar_nil ?_
  refine ac_ret ?_
  exact fin_eq (v := .agg #[.int .i64 2, .int .i64 0, .int .i64 0, .int .i64 0, .int .i64 0, .int .i64 z, .int .i64 0, .int .i64 0, .int .i64 0, .int .i64 0, .int .i64 0, .int .i64 0]) rfl (fin_ret (res_c (vs := [.int .i64 2, .int .i64 0, .int .i64 0, .int .i64 0, .int .i64 0, .int .i64 z, .int .i64 0, .int .i64 0, .int .i64 0, .int .i64 0, .int .i64 0, .int .i64 0]) agg86 0 rfl rfl rfl rfl rfl rfl))
def known26  : Bool := (bif ((near0 (axis26 (ivPoint 0))).1) == (-1) then (bif decide (((near0 (axis26 (ivPoint 0))).2.1) = ivNone) then (bif ((near0 (axis26 (ivPoint 0))).2.2) == 2 then (bif ((sceneHit (ball26 20 5) (axis26 (ivPoint 0))).2) == 1 then decide (((sceneHit (ball26 20 5) (axis26 (ivPoint 0))).1) = (ivWhole 15)) else false) else false) else false) else false)
set_option maxRecDepth 100000 in
theorem c_known26  : Gets Try.prog 59 #[] ((fun (r : Bool) => (.bool r : Value)) known26) := by
  refine gets_fin Try.func59 rfl rfl rfl ?_
  refine ac_seq ?_
  refine ac_region_lit ?_
  refine ao 0 rfl rfl (st_assign (v := .bool false) rfl rfl ?_)
  refine ar_nil ?_
  refine ac_seq ?_
  refine ac_region_lit ?_
  refine ao 7 rfl rfl (st_cf (vs := [.int .i64 0]) (r := .agg #[.int .i64 ((ivPoint 0).lo), .int .i64 ((ivPoint 0).hi), .bool ((ivPoint 0).no)]) (c_ivPoint 0) Try.func29 rfl (by decide) rfl rfl rfl ?_)
  refine ao 8 rfl rfl (st_cf (vs := [.agg #[.int .i64 ((ivPoint 0).lo), .int .i64 ((ivPoint 0).hi), .bool ((ivPoint 0).no)]]) (r := .agg #[.int .i64 ((((axis26 (ivPoint 0)).o).x).lo), .int .i64 ((((axis26 (ivPoint 0)).o).x).hi), .bool ((((axis26 (ivPoint 0)).o).x).no), .int .i64 ((((axis26 (ivPoint 0)).o).y).lo), .int .i64 ((((axis26 (ivPoint 0)).o).y).hi), .bool ((((axis26 (ivPoint 0)).o).y).no), .int .i64 ((((axis26 (ivPoint 0)).o).z).lo), .int .i64 ((((axis26 (ivPoint 0)).o).z).hi), .bool ((((axis26 (ivPoint 0)).o).z).no), .int .i64 ((((axis26 (ivPoint 0)).d).x).lo), .int .i64 ((((axis26 (ivPoint 0)).d).x).hi), .bool ((((axis26 (ivPoint 0)).d).x).no), .int .i64 ((((axis26 (ivPoint 0)).d).y).lo), .int .i64 ((((axis26 (ivPoint 0)).d).y).hi), .bool ((((axis26 (ivPoint 0)).d).y).no), .int .i64 ((((axis26 (ivPoint 0)).d).z).lo), .int .i64 ((((axis26 (ivPoint 0)).d).z).hi), .bool ((((axis26 (ivPoint 0)).d).z).no)]) (c_axis26 (ivPoint 0)) Try.func60 rfl (by decide) rfl rfl rfl ?_)
  refine ao 9 rfl rfl (st_cf (vs := [.slice none 0 0, .agg #[.int .i64 ((((axis26 (ivPoint 0)).o).x).lo), .int .i64 ((((axis26 (ivPoint 0)).o).x).hi), .bool ((((axis26 (ivPoint 0)).o).x).no), .int .i64 ((((axis26 (ivPoint 0)).o).y).lo), .int .i64 ((((axis26 (ivPoint 0)).o).y).hi), .bool ((((axis26 (ivPoint 0)).o).y).no), .int .i64 ((((axis26 (ivPoint 0)).o).z).lo), .int .i64 ((((axis26 (ivPoint 0)).o).z).hi), .bool ((((axis26 (ivPoint 0)).o).z).no), .int .i64 ((((axis26 (ivPoint 0)).d).x).lo), .int .i64 ((((axis26 (ivPoint 0)).d).x).hi), .bool ((((axis26 (ivPoint 0)).d).x).no), .int .i64 ((((axis26 (ivPoint 0)).d).y).lo), .int .i64 ((((axis26 (ivPoint 0)).d).y).hi), .bool ((((axis26 (ivPoint 0)).d).y).no), .int .i64 ((((axis26 (ivPoint 0)).d).z).lo), .int .i64 ((((axis26 (ivPoint 0)).d).z).hi), .bool ((((axis26 (ivPoint 0)).d).z).no)]]) (r := .tuple #[.int .i64 ((near0 (axis26 (ivPoint 0))).1), .agg #[.int .i64 (((near0 (axis26 (ivPoint 0))).2.1).lo), .int .i64 (((near0 (axis26 (ivPoint 0))).2.1).hi), .bool (((near0 (axis26 (ivPoint 0))).2.1).no)], .int .i64 ((near0 (axis26 (ivPoint 0))).2.2)]) (c_near0 (axis26 (ivPoint 0))) Try.func57 rfl (by decide) rfl rfl rfl ?_)
  refine ao 6 rfl rfl (st_move (v := .tuple #[.int .i64 ((near0 (axis26 (ivPoint 0))).1), .agg #[.int .i64 (((near0 (axis26 (ivPoint 0))).2.1).lo), .int .i64 (((near0 (axis26 (ivPoint 0))).2.1).hi), .bool (((near0 (axis26 (ivPoint 0))).2.1).no)], .int .i64 ((near0 (axis26 (ivPoint 0))).2.2)]) rfl rfl ?_)
  refine ao 10 rfl rfl (st_ex (vs := [.int .i64 ((near0 (axis26 (ivPoint 0))).1), .agg #[.int .i64 (((near0 (axis26 (ivPoint 0))).2.1).lo), .int .i64 (((near0 (axis26 (ivPoint 0))).2.1).hi), .bool (((near0 (axis26 (ivPoint 0))).2.1).no)], .int .i64 ((near0 (axis26 (ivPoint 0))).2.2)]) (v := .int .i64 ((near0 (axis26 (ivPoint 0))).1)) rfl rfl rfl ?_)
  refine ao 11 rfl rfl (st_ex (vs := [.int .i64 ((near0 (axis26 (ivPoint 0))).1), .agg #[.int .i64 (((near0 (axis26 (ivPoint 0))).2.1).lo), .int .i64 (((near0 (axis26 (ivPoint 0))).2.1).hi), .bool (((near0 (axis26 (ivPoint 0))).2.1).no)], .int .i64 ((near0 (axis26 (ivPoint 0))).2.2)]) (v := .agg #[.int .i64 (((near0 (axis26 (ivPoint 0))).2.1).lo), .int .i64 (((near0 (axis26 (ivPoint 0))).2.1).hi), .bool (((near0 (axis26 (ivPoint 0))).2.1).no)]) rfl rfl rfl ?_)
  refine ao 12 rfl rfl (st_ex (vs := [.int .i64 ((near0 (axis26 (ivPoint 0))).1), .agg #[.int .i64 (((near0 (axis26 (ivPoint 0))).2.1).lo), .int .i64 (((near0 (axis26 (ivPoint 0))).2.1).hi), .bool (((near0 (axis26 (ivPoint 0))).2.1).no)], .int .i64 ((near0 (axis26 (ivPoint 0))).2.2)]) (v := .int .i64 ((near0 (axis26 (ivPoint 0))).2.2)) rfl rfl rfl ?_)
  refine ao 2 rfl rfl (st_new zero26 rfl fun g0 => ?_)
  refine ao 1 rfl rfl (st_assign (v := .int .i64 ((near0 (axis26 (ivPoint 0))).1)) rfl rfl ?_)
  refine ar_op (d := none) rfl rfl (st_sta (g := g0) (off := 0) (us := [.int .i64 (((near0 (axis26 (ivPoint 0))).2.1).lo), .int .i64 (((near0 (axis26 (ivPoint 0))).2.1).hi), .bool (((near0 (axis26 (ivPoint 0))).2.1).no)]) (cs := [.int .i64 (((near0 (axis26 (ivPoint 0))).2.1).lo), .int .i64 (((near0 (axis26 (ivPoint 0))).2.1).hi), .bool (((near0 (axis26 (ivPoint 0))).2.1).no)]) agg26 0 rfl rfl rfl rfl rfl rfl rfl rfl rfl ?_)
  refine ao 3 rfl rfl (st_assign (v := .int .i64 ((near0 (axis26 (ivPoint 0))).2.2)) rfl rfl ?_)
  refine ar_nil ?_
  refine ac_seq ?_
  refine ac_region_lit ?_
  refine ao 14 rfl rfl (st_cf (vs := [.int .i64 20, .int .i64 5]) (r := .agg #[.int .i64 ((ball26 20 5).kind), .int .i64 (((ball26 20 5).x).c), .int .i64 (((ball26 20 5).x).scale), .int .i64 (((ball26 20 5).y).c), .int .i64 (((ball26 20 5).y).scale), .int .i64 (((ball26 20 5).z).c), .int .i64 (((ball26 20 5).z).scale), .int .i64 (((ball26 20 5).r).c), .int .i64 (((ball26 20 5).r).scale), .int .i64 (((ball26 20 5).glow).a0), .int .i64 (((ball26 20 5).glow).a1), .int .i64 (((ball26 20 5).glow).a2)]) (c_ball26 20 5) Try.func61 rfl (by decide) rfl rfl rfl ?_)
  refine ao 15 rfl rfl (st_cf (vs := [.int .i64 0]) (r := .agg #[.int .i64 ((ivPoint 0).lo), .int .i64 ((ivPoint 0).hi), .bool ((ivPoint 0).no)]) (c_ivPoint 0) Try.func29 rfl (by decide) rfl rfl rfl ?_)
  refine ao 16 rfl rfl (st_cf (vs := [.agg #[.int .i64 ((ivPoint 0).lo), .int .i64 ((ivPoint 0).hi), .bool ((ivPoint 0).no)]]) (r := .agg #[.int .i64 ((((axis26 (ivPoint 0)).o).x).lo), .int .i64 ((((axis26 (ivPoint 0)).o).x).hi), .bool ((((axis26 (ivPoint 0)).o).x).no), .int .i64 ((((axis26 (ivPoint 0)).o).y).lo), .int .i64 ((((axis26 (ivPoint 0)).o).y).hi), .bool ((((axis26 (ivPoint 0)).o).y).no), .int .i64 ((((axis26 (ivPoint 0)).o).z).lo), .int .i64 ((((axis26 (ivPoint 0)).o).z).hi), .bool ((((axis26 (ivPoint 0)).o).z).no), .int .i64 ((((axis26 (ivPoint 0)).d).x).lo), .int .i64 ((((axis26 (ivPoint 0)).d).x).hi), .bool ((((axis26 (ivPoint 0)).d).x).no), .int .i64 ((((axis26 (ivPoint 0)).d).y).lo), .int .i64 ((((axis26 (ivPoint 0)).d).y).hi), .bool ((((axis26 (ivPoint 0)).d).y).no), .int .i64 ((((axis26 (ivPoint 0)).d).z).lo), .int .i64 ((((axis26 (ivPoint 0)).d).z).hi), .bool ((((axis26 (ivPoint 0)).d).z).no)]) (c_axis26 (ivPoint 0)) Try.func60 rfl (by decide) rfl rfl rfl ?_)
  refine ao 17 rfl rfl (st_cf (vs := [.agg #[.int .i64 ((ball26 20 5).kind), .int .i64 (((ball26 20 5).x).c), .int .i64 (((ball26 20 5).x).scale), .int .i64 (((ball26 20 5).y).c), .int .i64 (((ball26 20 5).y).scale), .int .i64 (((ball26 20 5).z).c), .int .i64 (((ball26 20 5).z).scale), .int .i64 (((ball26 20 5).r).c), .int .i64 (((ball26 20 5).r).scale), .int .i64 (((ball26 20 5).glow).a0), .int .i64 (((ball26 20 5).glow).a1), .int .i64 (((ball26 20 5).glow).a2)], .agg #[.int .i64 ((((axis26 (ivPoint 0)).o).x).lo), .int .i64 ((((axis26 (ivPoint 0)).o).x).hi), .bool ((((axis26 (ivPoint 0)).o).x).no), .int .i64 ((((axis26 (ivPoint 0)).o).y).lo), .int .i64 ((((axis26 (ivPoint 0)).o).y).hi), .bool ((((axis26 (ivPoint 0)).o).y).no), .int .i64 ((((axis26 (ivPoint 0)).o).z).lo), .int .i64 ((((axis26 (ivPoint 0)).o).z).hi), .bool ((((axis26 (ivPoint 0)).o).z).no), .int .i64 ((((axis26 (ivPoint 0)).d).x).lo), .int .i64 ((((axis26 (ivPoint 0)).d).x).hi), .bool ((((axis26 (ivPoint 0)).d).x).no), .int .i64 ((((axis26 (ivPoint 0)).d).y).lo), .int .i64 ((((axis26 (ivPoint 0)).d).y).hi), .bool ((((axis26 (ivPoint 0)).d).y).no), .int .i64 ((((axis26 (ivPoint 0)).d).z).lo), .int .i64 ((((axis26 (ivPoint 0)).d).z).hi), .bool ((((axis26 (ivPoint 0)).d).z).no)]]) (r := .tuple #[.agg #[.int .i64 (((sceneHit (ball26 20 5) (axis26 (ivPoint 0))).1).lo), .int .i64 (((sceneHit (ball26 20 5) (axis26 (ivPoint 0))).1).hi), .bool (((sceneHit (ball26 20 5) (axis26 (ivPoint 0))).1).no)], .int .i64 ((sceneHit (ball26 20 5) (axis26 (ivPoint 0))).2)]) (c_sceneHit (ball26 20 5) (axis26 (ivPoint 0))) Try.func58 rfl (by decide) rfl rfl rfl ?_)
  refine ao 13 rfl rfl (st_move (v := .tuple #[.agg #[.int .i64 (((sceneHit (ball26 20 5) (axis26 (ivPoint 0))).1).lo), .int .i64 (((sceneHit (ball26 20 5) (axis26 (ivPoint 0))).1).hi), .bool (((sceneHit (ball26 20 5) (axis26 (ivPoint 0))).1).no)], .int .i64 ((sceneHit (ball26 20 5) (axis26 (ivPoint 0))).2)]) rfl rfl ?_)
  refine ao 18 rfl rfl (st_ex (vs := [.agg #[.int .i64 (((sceneHit (ball26 20 5) (axis26 (ivPoint 0))).1).lo), .int .i64 (((sceneHit (ball26 20 5) (axis26 (ivPoint 0))).1).hi), .bool (((sceneHit (ball26 20 5) (axis26 (ivPoint 0))).1).no)], .int .i64 ((sceneHit (ball26 20 5) (axis26 (ivPoint 0))).2)]) (v := .agg #[.int .i64 (((sceneHit (ball26 20 5) (axis26 (ivPoint 0))).1).lo), .int .i64 (((sceneHit (ball26 20 5) (axis26 (ivPoint 0))).1).hi), .bool (((sceneHit (ball26 20 5) (axis26 (ivPoint 0))).1).no)]) rfl rfl rfl ?_)
  refine ao 19 rfl rfl (st_ex (vs := [.agg #[.int .i64 (((sceneHit (ball26 20 5) (axis26 (ivPoint 0))).1).lo), .int .i64 (((sceneHit (ball26 20 5) (axis26 (ivPoint 0))).1).hi), .bool (((sceneHit (ball26 20 5) (axis26 (ivPoint 0))).1).no)], .int .i64 ((sceneHit (ball26 20 5) (axis26 (ivPoint 0))).2)]) (v := .int .i64 ((sceneHit (ball26 20 5) (axis26 (ivPoint 0))).2)) rfl rfl rfl ?_)
  refine ao 4 rfl rfl (st_new zero26 rfl fun g1 => ?_)
  refine ar_op (d := none) rfl rfl (st_sta (g := g1) (off := 0) (us := [.int .i64 (((sceneHit (ball26 20 5) (axis26 (ivPoint 0))).1).lo), .int .i64 (((sceneHit (ball26 20 5) (axis26 (ivPoint 0))).1).hi), .bool (((sceneHit (ball26 20 5) (axis26 (ivPoint 0))).1).no)]) (cs := [.int .i64 (((sceneHit (ball26 20 5) (axis26 (ivPoint 0))).1).lo), .int .i64 (((sceneHit (ball26 20 5) (axis26 (ivPoint 0))).1).hi), .bool (((sceneHit (ball26 20 5) (axis26 (ivPoint 0))).1).no)]) agg26 0 rfl rfl rfl rfl rfl rfl rfl rfl rfl ?_)
  refine ao 5 rfl rfl (st_assign (v := .int .i64 ((sceneHit (ball26 20 5) (axis26 (ivPoint 0))).2)) rfl rfl ?_)
  refine ar_nil ?_
  refine ac_seq ?_
  refine ac_draw0 (id := 3) [0, 1, 2, 3, 4, 5, 6, 7, 8, 9, 10, 11, 12, 13, 14, 15, 16, 17, 18, 19, 20] [] _ (by kernel_rfl) follows rfl  ?_
  refine dw_op (d := (some 20)) (.int .i64 ((near0 (axis26 (ivPoint 0))).1)) rfl rfl rfl (st_move (v := .int .i64 ((near0 (axis26 (ivPoint 0))).1)) rfl rfl ⟨rfl, rfl⟩) ?_
  refine dw_op (d := (some 21)) (.bool (((near0 (axis26 (ivPoint 0))).1) == (-1))) rfl rfl rfl (st_bi (u := .int .i64 ((near0 (axis26 (ivPoint 0))).1)) (v := .int .i64 (-1)) (r := .bool (((near0 (axis26 (ivPoint 0))).1) == (-1))) rfl rfl rfl (bi_eql rfl) ⟨rfl, rfl⟩) ?_
  refine dw_op (d := (some 22)) (.bool (((near0 (axis26 (ivPoint 0))).1) == (-1))) rfl rfl rfl (st_move (v := .bool (((near0 (axis26 (ivPoint 0))).1) == (-1))) rfl rfl ⟨rfl, rfl⟩) ?_
  refine bool_split (((near0 (axis26 (ivPoint 0))).1) == (-1)) (fun h1 => ?_) (fun h1 => ?_)
  · refine dw_gd (d := (some 23)) (.agg #[.int .i64 (((near0 (axis26 (ivPoint 0))).2.1).lo), .int .i64 (((near0 (axis26 (ivPoint 0))).2.1).hi), .bool (((near0 (axis26 (ivPoint 0))).2.1).no)]) rfl (by show ((((near0 (axis26 (ivPoint 0))).1) == (-1)) == true) = true; rw [h1]; rfl) rfl (st_lda (g := g0) (off := 0) (vs := [.int .i64 (((near0 (axis26 (ivPoint 0))).2.1).lo), .int .i64 (((near0 (axis26 (ivPoint 0))).2.1).hi), .bool (((near0 (axis26 (ivPoint 0))).2.1).no)]) agg26 1 rfl rfl rfl rfl rfl rfl ⟨rfl, rfl⟩) ?_
    refine dw_gd (d := (some 24)) (.agg #[.int .i64 ivNone.lo, .int .i64 ivNone.hi, .bool ivNone.no]) rfl (by show ((((near0 (axis26 (ivPoint 0))).1) == (-1)) == true) = true; rw [h1]; rfl) rfl (st_cf (vs := []) (r := .agg #[.int .i64 ivNone.lo, .int .i64 ivNone.hi, .bool ivNone.no]) c_ivNone Try.func28 rfl (by decide) rfl rfl rfl ⟨rfl, rfl⟩) ?_
    refine dw_gd (d := (some 25)) (.bool (decide (((near0 (axis26 (ivPoint 0))).2.1) = ivNone))) rfl (by show ((((near0 (axis26 (ivPoint 0))).1) == (-1)) == true) = true; rw [h1]; rfl) rfl (st_bi (u := .agg #[.int .i64 (((near0 (axis26 (ivPoint 0))).2.1).lo), .int .i64 (((near0 (axis26 (ivPoint 0))).2.1).hi), .bool (((near0 (axis26 (ivPoint 0))).2.1).no)]) (v := .agg #[.int .i64 ivNone.lo, .int .i64 ivNone.hi, .bool ivNone.no]) (r := .bool (decide (((near0 (axis26 (ivPoint 0))).2.1) = ivNone))) rfl rfl rfl (beql_26 ((near0 (axis26 (ivPoint 0))).2.1) ivNone rfl) ⟨rfl, rfl⟩) ?_
    refine dw_op (d := (some 26)) (.bool (decide (((near0 (axis26 (ivPoint 0))).2.1) = ivNone))) rfl rfl rfl (st_pkt' (b := ((near0 (axis26 (ivPoint 0))).1) == (-1)) (v := .bool (decide (((near0 (axis26 (ivPoint 0))).2.1) = ivNone))) h1 rfl rfl rfl ⟨rfl, rfl⟩) ?_
    refine dw_op (d := (some 27)) (.bool (decide (((near0 (axis26 (ivPoint 0))).2.1) = ivNone))) rfl rfl rfl (st_move (v := .bool (decide (((near0 (axis26 (ivPoint 0))).2.1) = ivNone))) rfl rfl ⟨rfl, rfl⟩) ?_
    refine bool_split (decide (((near0 (axis26 (ivPoint 0))).2.1) = ivNone)) (fun h2 => ?_) (fun h2 => ?_)
    · refine dw_gd (d := (some 28)) (.int .i64 ((near0 (axis26 (ivPoint 0))).2.2)) rfl (by show ((decide (((near0 (axis26 (ivPoint 0))).2.1) = ivNone)) == true) = true; rw [h2]; rfl) rfl (st_move (v := .int .i64 ((near0 (axis26 (ivPoint 0))).2.2)) rfl rfl ⟨rfl, rfl⟩) ?_
      refine dw_gd (d := (some 29)) (.bool (((near0 (axis26 (ivPoint 0))).2.2) == 2)) rfl (by show ((decide (((near0 (axis26 (ivPoint 0))).2.1) = ivNone)) == true) = true; rw [h2]; rfl) rfl (st_bi (u := .int .i64 ((near0 (axis26 (ivPoint 0))).2.2)) (v := .int .i64 2) (r := .bool (((near0 (axis26 (ivPoint 0))).2.2) == 2)) rfl rfl rfl (bi_eql rfl) ⟨rfl, rfl⟩) ?_
      refine dw_op (d := (some 30)) (.bool (((near0 (axis26 (ivPoint 0))).2.2) == 2)) rfl rfl rfl (st_pkt' (b := decide (((near0 (axis26 (ivPoint 0))).2.1) = ivNone)) (v := .bool (((near0 (axis26 (ivPoint 0))).2.2) == 2)) h2 rfl rfl rfl ⟨rfl, rfl⟩) ?_
      refine dw_op (d := (some 31)) (.bool (((near0 (axis26 (ivPoint 0))).2.2) == 2)) rfl rfl rfl (st_move (v := .bool (((near0 (axis26 (ivPoint 0))).2.2) == 2)) rfl rfl ⟨rfl, rfl⟩) ?_
      refine bool_split (((near0 (axis26 (ivPoint 0))).2.2) == 2) (fun h3 => ?_) (fun h3 => ?_)
      · refine dw_gd (d := (some 32)) (.int .i64 ((sceneHit (ball26 20 5) (axis26 (ivPoint 0))).2)) rfl (by show ((((near0 (axis26 (ivPoint 0))).2.2) == 2) == true) = true; rw [h3]; rfl) rfl (st_move (v := .int .i64 ((sceneHit (ball26 20 5) (axis26 (ivPoint 0))).2)) rfl rfl ⟨rfl, rfl⟩) ?_
        refine dw_gd (d := (some 33)) (.bool (((sceneHit (ball26 20 5) (axis26 (ivPoint 0))).2) == 1)) rfl (by show ((((near0 (axis26 (ivPoint 0))).2.2) == 2) == true) = true; rw [h3]; rfl) rfl (st_bi (u := .int .i64 ((sceneHit (ball26 20 5) (axis26 (ivPoint 0))).2)) (v := .int .i64 1) (r := .bool (((sceneHit (ball26 20 5) (axis26 (ivPoint 0))).2) == 1)) rfl rfl rfl (bi_eql rfl) ⟨rfl, rfl⟩) ?_
        refine dw_op (d := (some 34)) (.bool (((sceneHit (ball26 20 5) (axis26 (ivPoint 0))).2) == 1)) rfl rfl rfl (st_pkt' (b := ((near0 (axis26 (ivPoint 0))).2.2) == 2) (v := .bool (((sceneHit (ball26 20 5) (axis26 (ivPoint 0))).2) == 1)) h3 rfl rfl rfl ⟨rfl, rfl⟩) ?_
        refine dw_op (d := (some 35)) (.bool (((sceneHit (ball26 20 5) (axis26 (ivPoint 0))).2) == 1)) rfl rfl rfl (st_move (v := .bool (((sceneHit (ball26 20 5) (axis26 (ivPoint 0))).2) == 1)) rfl rfl ⟨rfl, rfl⟩) ?_
        refine bool_split (((sceneHit (ball26 20 5) (axis26 (ivPoint 0))).2) == 1) (fun h4 => ?_) (fun h4 => ?_)
        · refine dw_gd (d := (some 36)) (.agg #[.int .i64 (((sceneHit (ball26 20 5) (axis26 (ivPoint 0))).1).lo), .int .i64 (((sceneHit (ball26 20 5) (axis26 (ivPoint 0))).1).hi), .bool (((sceneHit (ball26 20 5) (axis26 (ivPoint 0))).1).no)]) rfl (by show ((((sceneHit (ball26 20 5) (axis26 (ivPoint 0))).2) == 1) == true) = true; rw [h4]; rfl) rfl (st_lda (g := g1) (off := 0) (vs := [.int .i64 (((sceneHit (ball26 20 5) (axis26 (ivPoint 0))).1).lo), .int .i64 (((sceneHit (ball26 20 5) (axis26 (ivPoint 0))).1).hi), .bool (((sceneHit (ball26 20 5) (axis26 (ivPoint 0))).1).no)]) agg26 0 rfl rfl rfl rfl rfl rfl ⟨rfl, rfl⟩) ?_
          refine dw_gd (d := (some 37)) (.agg #[.int .i64 ((ivWhole 15).lo), .int .i64 ((ivWhole 15).hi), .bool ((ivWhole 15).no)]) rfl (by show ((((sceneHit (ball26 20 5) (axis26 (ivPoint 0))).2) == 1) == true) = true; rw [h4]; rfl) rfl (st_cf (vs := [.int .i64 15]) (r := .agg #[.int .i64 ((ivWhole 15).lo), .int .i64 ((ivWhole 15).hi), .bool ((ivWhole 15).no)]) (c_ivWhole 15) Try.func21 rfl (by decide) rfl rfl rfl ⟨rfl, rfl⟩) ?_
          refine dw_gd (d := (some 38)) (.bool (decide (((sceneHit (ball26 20 5) (axis26 (ivPoint 0))).1) = (ivWhole 15)))) rfl (by show ((((sceneHit (ball26 20 5) (axis26 (ivPoint 0))).2) == 1) == true) = true; rw [h4]; rfl) rfl (st_bi (u := .agg #[.int .i64 (((sceneHit (ball26 20 5) (axis26 (ivPoint 0))).1).lo), .int .i64 (((sceneHit (ball26 20 5) (axis26 (ivPoint 0))).1).hi), .bool (((sceneHit (ball26 20 5) (axis26 (ivPoint 0))).1).no)]) (v := .agg #[.int .i64 ((ivWhole 15).lo), .int .i64 ((ivWhole 15).hi), .bool ((ivWhole 15).no)]) (r := .bool (decide (((sceneHit (ball26 20 5) (axis26 (ivPoint 0))).1) = (ivWhole 15)))) rfl rfl rfl (beql_26 ((sceneHit (ball26 20 5) (axis26 (ivPoint 0))).1) (ivWhole 15) rfl) ⟨rfl, rfl⟩) ?_
          refine dw_op (d := (some 39)) (.bool (decide (((sceneHit (ball26 20 5) (axis26 (ivPoint 0))).1) = (ivWhole 15)))) rfl rfl rfl (st_pkt' (b := ((sceneHit (ball26 20 5) (axis26 (ivPoint 0))).2) == 1) (v := .bool (decide (((sceneHit (ball26 20 5) (axis26 (ivPoint 0))).1) = (ivWhole 15)))) h4 rfl rfl rfl ⟨rfl, rfl⟩) ?_
          refine dw_op (d := (some 0)) (.bool (decide (((sceneHit (ball26 20 5) (axis26 (ivPoint 0))).1) = (ivWhole 15)))) rfl rfl rfl (st_assign (v := .bool (decide (((sceneHit (ball26 20 5) (axis26 (ivPoint 0))).1) = (ivWhole 15)))) rfl rfl ⟨rfl, rfl⟩) ?_
          refine dw_nil ?_
          refine ar_nil ?_
          refine ac_ret ?_
          exact fin_eq (v := .bool (decide (((sceneHit (ball26 20 5) (axis26 (ivPoint 0))).1) = (ivWhole 15)))) (by show _ = (fun (r : Bool) => (.bool r : Value)) known26; rw [known26, h4, h3, h2, h1] <;> rfl) (fin_ret (res_tmp rfl rfl))
        · refine dw_sk (d := (some 36)) rfl (by show ((((sceneHit (ball26 20 5) (axis26 (ivPoint 0))).2) == 1) == true) = false; rw [h4]; rfl) rfl ?_
          refine dw_sk (d := (some 37)) rfl (by show ((((sceneHit (ball26 20 5) (axis26 (ivPoint 0))).2) == 1) == true) = false; rw [h4]; rfl) rfl ?_
          refine dw_sk (d := (some 38)) rfl (by show ((((sceneHit (ball26 20 5) (axis26 (ivPoint 0))).2) == 1) == true) = false; rw [h4]; rfl) rfl ?_
          refine dw_op (d := (some 39)) (.bool false) rfl rfl rfl (st_pkf' (b := ((sceneHit (ball26 20 5) (axis26 (ivPoint 0))).2) == 1) (v := .bool false) h4 rfl rfl rfl ⟨rfl, rfl⟩) ?_
          refine dw_op (d := (some 0)) (.bool false) rfl rfl rfl (st_assign (v := .bool false) rfl rfl ⟨rfl, rfl⟩) ?_
          refine dw_nil ?_
          refine ar_nil ?_
          refine ac_ret ?_
          exact fin_eq (v := .bool false) (by show _ = (fun (r : Bool) => (.bool r : Value)) known26; rw [known26, h4, h3, h2, h1] <;> rfl) (fin_ret (res_tmp rfl rfl))
      · refine dw_sk (d := (some 32)) rfl (by show ((((near0 (axis26 (ivPoint 0))).2.2) == 2) == true) = false; rw [h3]; rfl) rfl ?_
        refine dw_sk (d := (some 33)) rfl (by show ((((near0 (axis26 (ivPoint 0))).2.2) == 2) == true) = false; rw [h3]; rfl) rfl ?_
        refine dw_op (d := (some 34)) (.bool false) rfl rfl rfl (st_pkf' (b := ((near0 (axis26 (ivPoint 0))).2.2) == 2) (v := .bool false) h3 rfl rfl rfl ⟨rfl, rfl⟩) ?_
        refine dw_op (d := (some 35)) (.bool false) rfl rfl rfl (st_move (v := .bool false) rfl rfl ⟨rfl, rfl⟩) ?_
        refine dw_sk (d := (some 36)) rfl rfl rfl ?_
        refine dw_sk (d := (some 37)) rfl rfl rfl ?_
        refine dw_sk (d := (some 38)) rfl rfl rfl ?_
        refine dw_op (d := (some 39)) (.bool false) rfl rfl rfl (st_pkf (v := .bool false) rfl rfl rfl ⟨rfl, rfl⟩) ?_
        refine dw_op (d := (some 0)) (.bool false) rfl rfl rfl (st_assign (v := .bool false) rfl rfl ⟨rfl, rfl⟩) ?_
        refine dw_nil ?_
        refine ar_nil ?_
        refine ac_ret ?_
        exact fin_eq (v := .bool false) (by show _ = (fun (r : Bool) => (.bool r : Value)) known26; rw [known26, h3, h2, h1] <;> rfl) (fin_ret (res_tmp rfl rfl))
    · refine dw_sk (d := (some 28)) rfl (by show ((decide (((near0 (axis26 (ivPoint 0))).2.1) = ivNone)) == true) = false; rw [h2]; rfl) rfl ?_
      refine dw_sk (d := (some 29)) rfl (by show ((decide (((near0 (axis26 (ivPoint 0))).2.1) = ivNone)) == true) = false; rw [h2]; rfl) rfl ?_
      refine dw_op (d := (some 30)) (.bool false) rfl rfl rfl (st_pkf' (b := decide (((near0 (axis26 (ivPoint 0))).2.1) = ivNone)) (v := .bool false) h2 rfl rfl rfl ⟨rfl, rfl⟩) ?_
      refine dw_op (d := (some 31)) (.bool false) rfl rfl rfl (st_move (v := .bool false) rfl rfl ⟨rfl, rfl⟩) ?_
      refine dw_sk (d := (some 32)) rfl rfl rfl ?_
      refine dw_sk (d := (some 33)) rfl rfl rfl ?_
      refine dw_op (d := (some 34)) (.bool false) rfl rfl rfl (st_pkf (v := .bool false) rfl rfl rfl ⟨rfl, rfl⟩) ?_
      refine dw_op (d := (some 35)) (.bool false) rfl rfl rfl (st_move (v := .bool false) rfl rfl ⟨rfl, rfl⟩) ?_
      refine dw_sk (d := (some 36)) rfl rfl rfl ?_
      refine dw_sk (d := (some 37)) rfl rfl rfl ?_
      refine dw_sk (d := (some 38)) rfl rfl rfl ?_
      refine dw_op (d := (some 39)) (.bool false) rfl rfl rfl (st_pkf (v := .bool false) rfl rfl rfl ⟨rfl, rfl⟩) ?_
      refine dw_op (d := (some 0)) (.bool false) rfl rfl rfl (st_assign (v := .bool false) rfl rfl ⟨rfl, rfl⟩) ?_
      refine dw_nil ?_
      refine ar_nil ?_
      refine ac_ret ?_
      exact fin_eq (v := .bool false) (by show _ = (fun (r : Bool) => (.bool r : Value)) known26; rw [known26, h2, h1] <;> rfl) (fin_ret (res_tmp rfl rfl))
  · refine dw_sk (d := (some 23)) rfl (by show ((((near0 (axis26 (ivPoint 0))).1) == (-1)) == true) = false; rw [h1]; rfl) rfl ?_
    refine dw_sk (d := (some 24)) rfl (by show ((((near0 (axis26 (ivPoint 0))).1) == (-1)) == true) = false; rw [h1]; rfl) rfl ?_
    refine dw_sk (d := (some 25)) rfl (by show ((((near0 (axis26 (ivPoint 0))).1) == (-1)) == true) = false; rw [h1]; rfl) rfl ?_
    refine dw_op (d := (some 26)) (.bool false) rfl rfl rfl (st_pkf' (b := ((near0 (axis26 (ivPoint 0))).1) == (-1)) (v := .bool false) h1 rfl rfl rfl ⟨rfl, rfl⟩) ?_
    refine dw_op (d := (some 27)) (.bool false) rfl rfl rfl (st_move (v := .bool false) rfl rfl ⟨rfl, rfl⟩) ?_
    refine dw_sk (d := (some 28)) rfl rfl rfl ?_
    refine dw_sk (d := (some 29)) rfl rfl rfl ?_
    refine dw_op (d := (some 30)) (.bool false) rfl rfl rfl (st_pkf (v := .bool false) rfl rfl rfl ⟨rfl, rfl⟩) ?_
    refine dw_op (d := (some 31)) (.bool false) rfl rfl rfl (st_move (v := .bool false) rfl rfl ⟨rfl, rfl⟩) ?_
    refine dw_sk (d := (some 32)) rfl rfl rfl ?_
    refine dw_sk (d := (some 33)) rfl rfl rfl ?_
    refine dw_op (d := (some 34)) (.bool false) rfl rfl rfl (st_pkf (v := .bool false) rfl rfl rfl ⟨rfl, rfl⟩) ?_
    refine dw_op (d := (some 35)) (.bool false) rfl rfl rfl (st_move (v := .bool false) rfl rfl ⟨rfl, rfl⟩) ?_
    refine dw_sk (d := (some 36)) rfl rfl rfl ?_
    refine dw_sk (d := (some 37)) rfl rfl rfl ?_
    refine dw_sk (d := (some 38)) rfl rfl rfl ?_
    refine dw_op (d := (some 39)) (.bool false) rfl rfl rfl (st_pkf (v := .bool false) rfl rfl rfl ⟨rfl, rfl⟩) ?_
    refine dw_op (d := (some 0)) (.bool false) rfl rfl rfl (st_assign (v := .bool false) rfl rfl ⟨rfl, rfl⟩) ?_
    refine dw_nil ?_
    refine ar_nil ?_
    refine ac_ret ?_
    exact fin_eq (v := .bool false) (by show _ = (fun (r : Bool) => (.bool r : Value)) known26; rw [known26, h1] <;> rfl) (fin_ret (res_tmp rfl rfl))
end Go.Proofs.Ythngkopcadlciaa