import Derived.Test.YthngkopcadlciaaMSceneFirst7
import Derived.Test.YthngkopcadlciaaMSceneFirst6
import Derived.Test.YthngkopcadlciaaMSceneFirst5
import Derived.Test.YthngkopcadlciaaMSceneFirst0
set_option linter.unusedVariables false
set_option linter.unusedSimpArgs false
namespace Go.Proofs.Ythngkopcadlciaa
open Go.RowKit
attribute [local irreducible] AC AR DWalk
set_option maxRecDepth 100000 in
set_option maxHeartbeats 4000000 in
theorem c_near (l : List Shape) (ray : Ray) (b off cap ty : Nat) (cs : List Value) (hlen : l.length ≤ 1000000) (hcs : ∀ i s, l[i]? = some s → (cs.drop (off + i * 12)).take 12 = shapeC s) : Gives Try.prog 57 #[.slice (some ⟨b, off, none⟩) l.length cap, .agg #[.int .i64 ray.o.x.lo, .int .i64 ray.o.x.hi, .bool ray.o.x.no, .int .i64 ray.o.y.lo, .int .i64 ray.o.y.hi, .bool ray.o.y.no, .int .i64 ray.o.z.lo, .int .i64 ray.o.z.hi, .bool ray.o.z.no, .int .i64 ray.d.x.lo, .int .i64 ray.d.x.hi, .bool ray.d.x.no, .int .i64 ray.d.y.lo, .int .i64 ray.d.y.hi, .bool ray.d.y.no, .int .i64 ray.d.z.lo, .int .i64 ray.d.z.hi, .bool ray.d.z.no]] [⟨b, cs, ty, true⟩] (fun u N => u = nearV (sNear l ray) ∧ N = []) := by
  have hcs' : ∀ i s, l[i]? = some s → (cs.drop (off + (0 + i) * 12)).take 12 = shapeC s := fun i s h => by rw [Nat.zero_add]; exact hcs i s h
  refine gives_fin Try.func57 rfl rfl rfl rfl ?_
  refine ac_seq ?_
  refine ac_region_lit ?_
  refine ao 3 rfl rfl (st_box (v := .agg #[.int .i64 ray.o.x.lo, .int .i64 ray.o.x.hi, .bool ray.o.x.no, .int .i64 ray.o.y.lo, .int .i64 ray.o.y.hi, .bool ray.o.y.no, .int .i64 ray.o.z.lo, .int .i64 ray.o.z.hi, .bool ray.o.z.no, .int .i64 ray.d.x.lo, .int .i64 ray.d.x.hi, .bool ray.d.x.no, .int .i64 ray.d.y.lo, .int .i64 ray.d.y.hi, .bool ray.d.y.no, .int .i64 ray.d.z.lo, .int .i64 ray.d.z.hi, .bool ray.d.z.no]) (cs := [.int .i64 ray.o.x.lo, .int .i64 ray.o.x.hi, .bool ray.o.x.no, .int .i64 ray.o.y.lo, .int .i64 ray.o.y.hi, .bool ray.o.y.no, .int .i64 ray.o.z.lo, .int .i64 ray.o.z.hi, .bool ray.o.z.no, .int .i64 ray.d.x.lo, .int .i64 ray.d.x.hi, .bool ray.d.x.no, .int .i64 ray.d.y.lo, .int .i64 ray.d.y.hi, .bool ray.d.y.no, .int .i64 ray.d.z.lo, .int .i64 ray.d.z.hi, .bool ray.d.z.no]) rfl rfl rfl fun g0 => ?_)
  refine ao 4 rfl rfl (st_assign (v := .int .i64 0) rfl rfl ?_)
  refine ao 5 rfl rfl (st_new zero26 rfl fun g1 => ?_)
  refine ao 6 rfl rfl (st_assign (v := .int .i64 0) rfl rfl ?_)
  refine ar_nil ?_
  refine ac_seq ?_
  refine ac_region_lit ?_
  refine ao 17 rfl rfl (st_cf (vs := []) (r := .agg #[.int .i64 ivNone.lo, .int .i64 ivNone.hi, .bool ivNone.no]) c_ivNone Try.func28 rfl (by decide) rfl rfl rfl ?_)
  refine ao 8 rfl rfl (st_new zero26 rfl fun g2 => ?_)
  refine ao 7 rfl rfl (st_assign (v := .int .i64 (-1)) rfl rfl ?_)
  refine ar_op (d := none) rfl rfl (st_sta (g := g2) (off := 0) (us := [.int .i64 ivNone.lo, .int .i64 ivNone.hi, .bool ivNone.no]) (cs := [.int .i64 ivNone.lo, .int .i64 ivNone.hi, .bool ivNone.no]) agg26 0 rfl rfl rfl rfl rfl rfl rfl rfl rfl ?_)
  refine ar_nil ?_
  refine ac_seq ?_
  refine ac_region_lit ?_
  refine ao 9 rfl rfl (st_assign (v := .slice none 0 0) rfl rfl ?_)
  refine ar_nil ?_
  refine ac_seq ?_
  refine ac_seq ?_
  refine ac_region_lit ?_
  refine ao 18 rfl rfl (st_move (v := .slice (some ⟨b, off, none⟩) l.length cap) rfl rfl ?_)
  refine ao 19 rfl rfl (st_ln (a := some ⟨b, off, none⟩) (m := l.length) (c := cap) rfl Try.underlying74 rfl ?_)
  refine ao 20 rfl rfl (st_move (v := .int .i64 0) rfl rfl ?_)
  refine ar_nil ?_
  refine ac_block ?_
  refine ac_rounds (l.length + 1) ?_
  refine near_loop g0 g1 g2 b off l.length cap ty cs ray rfl hlen l 0 0 0 none [] (-1) ivNone [] [] _ (by omega) (Nat.le_refl _) (Row.nil _ _) rfl rfl hcs' rfl rfl rfl rfl rfl rfl rfl rfl (fun hL E' H' e4 e5 e6 hb => ?_) (fun best at_ all hL E' m ca aa NA xs hm hxs hmb hrow f3 f5 f7 f8 f9 f18 f19 f20 => ?_)
  · obtain ⟨i5, x5, hi5, hg5, hc5⟩ := hb
    exact fing_v (fin_ret (res_tct (x := .int .i64 (-1)) (y := .int .i64 0) (g := g1) (vs := cel ivNone) agg26 i5 rfl e4 e5 hi5 hg5 (by rw [hc5]; rfl) hc5 e6)) (congrArg nearV (show (-1, ivNone, 0) = sNear l ray from by rw [sNear, hL]))
  obtain ⟨E0, rfl⟩ : ∃ E0 : Env, E' = (((((E0.put (some 3) (.pointer (some ⟨g0, 0, none⟩))).put (some 5) (.pointer (some ⟨g1, 0, none⟩))).put (some 7) (.int .i64 best)).put (some 8) (.pointer (some ⟨g2, 0, none⟩))).put (some 9) (.slice aa m ca)) := ⟨E', by rw [put_self f3, put_self f5, put_self f7, put_self f8, put_self f9]⟩
  refine ac_seq ?_
  refine ac_seq ?_
  refine ac_region_lit ?_
  refine ao 55 rfl rfl (st_move (v := .int .i64 best) rfl rfl ?_)
  refine ao 56 rfl rfl (st_bi (u := .int .i64 best) (v := .int .i64 0) (r := .bool (decide (best < 0))) rfl rfl rfl (bi_lss rfl) ?_)
  refine ar_nil ?_
  refine bool_split (decide (best < 0)) (fun h1 => ?_) (fun h1 => ?_)
  · refine ac_then' (b := decide (best < 0)) h1 rfl ?_
    refine ac_seq ?_
    refine ac_region_lit ?_
    refine ao 57 rfl rfl (st_cf (vs := []) (r := .agg #[.int .i64 ivNone.lo, .int .i64 ivNone.hi, .bool ivNone.no]) c_ivNone Try.func28 rfl (by decide) rfl rfl rfl ?_)
    refine ao 4 rfl rfl (st_assign (v := .int .i64 (-1)) rfl rfl ?_)
    refine ar_op (d := none) rfl rfl (st_sta (g := g1) (off := 0) (us := [.int .i64 ivNone.lo, .int .i64 ivNone.hi, .bool ivNone.no]) (cs := [.int .i64 ivNone.lo, .int .i64 ivNone.hi, .bool ivNone.no]) agg26 1 rfl rfl rfl rfl rfl rfl rfl rfl rfl ?_)
    refine ao 6 rfl rfl (st_assign (v := .int .i64 2) rfl rfl ?_)
    refine ar_nil ?_
    refine ac_ret ?_
    exact fing_v (fin_ret (res_tct (vs := [.int .i64 ivNone.lo, .int .i64 ivNone.hi, .bool ivNone.no]) agg26 1 rfl rfl rfl rfl rfl rfl rfl rfl)) (congrArg nearV (show (((-1), ivNone, 2) : Int × Iv × Int) = sNear l ray from by rw [sNear, hL]; simp only [h1, cond_true, cond_false]))
  · refine ac_else' (b := decide (best < 0)) h1 rfl ?_
    refine ac_skip ?_
    refine ac_seq ?_
    refine ac_region_lit ?_
    refine ao 14 rfl rfl (st_assign (v := .int .i64 0) rfl rfl ?_)
    refine ar_nil ?_
    refine ac_seq ?_
    refine ac_seq ?_
    refine ac_region_lit ?_
    refine ao 58 rfl rfl (st_move (v := .slice aa m ca) rfl rfl ?_)
    refine ao 59 rfl rfl (st_ln (a := aa) (m := m) (c := ca) rfl Try.underlying24 rfl ?_)
    refine ao 60 rfl rfl (st_move (v := .int .i64 0) rfl rfl ?_)
    refine ar_nil ?_
    refine ac_block ?_
    refine ac_rounds (all.length + 1) ?_
    refine near_loop2 g1 g2 m ca aa NA best at_ all xs _ b g0 ty cs ray rfl hrow (by omega) hm hxs rfl rfl rfl rfl rfl rfl rfl rfl (fun cnt hcnt E' T f5 f7 f8 f9 f14 f58 f59 f60 => ?_)
    refine ac_drop (H := [⟨g2, cel at_, 26, false⟩, ⟨g1, [.int .i64 0, .int .i64 0, .bool false], 26, false⟩]) (List.sublist_append_left _ _) ?_
    obtain ⟨E0, rfl⟩ : ∃ E0 : Env, E' = (((((E0.put (some 5) (.pointer (some ⟨g1, 0, none⟩))).put (some 7) (.int .i64 best)).put (some 8) (.pointer (some ⟨g2, 0, none⟩))).put (some 9) (.slice aa m ca)).put (some 14) (.int .i64 cnt)) := ⟨E', by rw [put_self f5, put_self f7, put_self f8, put_self f9, put_self f14]⟩
    refine ac_seq ?_
    refine ac_seq ?_
    refine ac_region_lit ?_
    refine ao 72 rfl rfl (st_move (v := .int .i64 cnt) rfl rfl ?_)
    refine ao 73 rfl rfl (st_bi (u := .int .i64 cnt) (v := .int .i64 1) (r := .int .i64 (w64 (cnt + 1))) rfl rfl rfl (bi_add rfl) ?_)
    refine ao 74 rfl rfl (st_move (v := .slice aa m ca) rfl rfl ?_)
    refine ao 75 rfl rfl (st_ln (a := aa) (m := m) (c := ca) rfl Try.underlying24 rfl ?_)
    refine ao 76 rfl rfl (st_bi (u := .int .i64 (w64 (cnt + 1))) (v := .int .i64 (m : Int)) (r := .bool (decide ((w64 (cnt + 1)) < (m : Int)))) rfl rfl rfl (bi_lss rfl) ?_)
    refine ar_nil ?_
    refine bool_split (decide ((w64 (cnt + 1)) < (m : Int))) (fun h2 => ?_) (fun h2 => ?_)
    · refine ac_then' (b := decide ((w64 (cnt + 1)) < (m : Int))) h2 rfl ?_
      refine ac_seq ?_
      refine ac_region_lit ?_
      refine ao 77 rfl rfl (st_cf (vs := []) (r := .agg #[.int .i64 ivNone.lo, .int .i64 ivNone.hi, .bool ivNone.no]) c_ivNone Try.func28 rfl (by decide) rfl rfl rfl ?_)
      refine ao 4 rfl rfl (st_assign (v := .int .i64 (-1)) rfl rfl ?_)
      refine ar_op (d := none) rfl rfl (st_sta (g := g1) (off := 0) (us := [.int .i64 ivNone.lo, .int .i64 ivNone.hi, .bool ivNone.no]) (cs := [.int .i64 ivNone.lo, .int .i64 ivNone.hi, .bool ivNone.no]) agg26 1 rfl rfl rfl rfl rfl rfl rfl rfl rfl ?_)
      refine ao 6 rfl rfl (st_assign (v := .int .i64 0) rfl rfl ?_)
      refine ar_nil ?_
      refine ac_ret ?_
      exact fing_v (fin_ret (res_tct (vs := [.int .i64 ivNone.lo, .int .i64 ivNone.hi, .bool ivNone.no]) agg26 1 rfl rfl rfl rfl rfl rfl rfl rfl)) (congrArg nearV (show (((-1), ivNone, 0) : Int × Iv × Int) = sNear l ray from by rw [sNear, hL]; rw [hcnt, hm] at h2; simp only [h1, h2, cond_true, cond_false]))
    · refine ac_else' (b := decide ((w64 (cnt + 1)) < (m : Int))) h2 rfl ?_
      refine ac_skip ?_
      refine ac_seq ?_
      refine ac_draw0 (id := 25) [0, 1, 2] [3, 4] _ (by kernel_rfl) follows rfl  ?_
      refine dw_op (d := (some 78)) (.int .i64 best) rfl rfl rfl (st_move (v := .int .i64 best) rfl rfl ⟨rfl, rfl⟩) ?_
      refine dw_op (d := (some 79)) (.agg #[.int .i64 at_.lo, .int .i64 at_.hi, .bool at_.no]) rfl rfl rfl (st_lda (g := g2) (off := 0) (vs := [.int .i64 at_.lo, .int .i64 at_.hi, .bool at_.no]) agg26 0 rfl rfl rfl rfl rfl rfl ⟨rfl, rfl⟩) ?_
      refine dw_op (d := (some 4)) (.int .i64 best) rfl rfl rfl (st_assign (v := .int .i64 best) rfl rfl ⟨rfl, rfl⟩) ?_
      refine dw_nil ?_
      refine ar_op (d := none) rfl rfl (st_sta (g := g1) (off := 0) (us := [.int .i64 at_.lo, .int .i64 at_.hi, .bool at_.no]) (cs := [.int .i64 at_.lo, .int .i64 at_.hi, .bool at_.no]) agg26 1 rfl rfl rfl rfl rfl rfl rfl rfl rfl ?_)
      refine ao 6 rfl rfl (st_assign (v := .int .i64 1) rfl rfl ?_)
      refine ar_nil ?_
      refine ac_ret ?_
      exact fing_v (fin_ret (res_tct (vs := [.int .i64 at_.lo, .int .i64 at_.hi, .bool at_.no]) agg26 1 rfl rfl rfl rfl rfl rfl rfl rfl)) (congrArg nearV (show ((best, at_, 1) : Int × Iv × Int) = sNear l ray from by rw [sNear, hL]; rw [hcnt, hm] at h2; simp only [h1, h2, cond_true, cond_false]))
end Go.Proofs.Ythngkopcadlciaa
namespace Go.Proofs.Ythngkopcadlciaa
open Go.RowKit
def flatS (l : List Shape) : List Value := l.flatMap shapeC
theorem flatS_append (a b : List Shape) : flatS (a ++ b) = flatS a ++ flatS b := by simp [flatS]
theorem flatS_length (l : List Shape) : (flatS l).length = 12 * l.length := by
  induction l with
  | nil => rfl
  | cons a l ih =>
    have e : flatS (a :: l) = shapeC a ++ flatS l := rfl
    have h : (shapeC a).length = 12 := rfl
    rw [e, List.length_append, h, ih, List.length_cons]
    omega
theorem flatS_at : ∀ (zs : List Shape) (r : List Value) (m : Nat) (t : Shape), zs[m]? = some t → ((flatS zs ++ r).drop (m * 12)).take 12 = shapeC t := by
  intro zs
  induction zs with
  | nil => intro r m t h; simp at h
  | cons z zs ih =>
    intro r m t h
    cases m with
    | zero => simp at h; subst h; rfl
    | succ m =>
      have := ih r m t (by simpa using h)
      rw [show (m + 1) * 12 = m * 12 + 12 from by omega, Nat.add_comm (m * 12) 12, ← List.drop_drop]
      exact this
theorem c_nearF (l : List Shape) (ray : Ray) (g cap : Nat) (rest : List Value) (hlen : l.length ≤ 1000000) : Gives Try.prog 57 #[.slice (some ⟨g, 0, none⟩) l.length cap, .agg (rayC ray).toArray] [⟨g, flatS l ++ rest, 86, true⟩] (fun u N => u = nearV (sNear l ray) ∧ N = []) :=
  c_near l ray g 0 cap 86 (flatS l ++ rest) hlen (fun i s h => by rw [Nat.zero_add]; exact flatS_at l rest i s h)
end Go.Proofs.Ythngkopcadlciaa
namespace Go.Proofs.Ythngkopcadlciaa
def hitsL (ray : Ray) : List Shape → Nat → Option (List (Int × Iv))
  | [], _ => some []
  | s :: l, k => bif (sceneHit s ray).2 == 0 then none else bif (sceneHit s ray).2 == 2 then hitsL ray l (k + 1) else (hitsL ray l (k + 1)).map fun Y => ((k : Int), (sceneHit s ray).1) :: Y
def Inv1 (Y : List (Int × Iv)) (best : Int) (at_ : Iv) (all : List Iv) : Prop :=
  all = Y.map (·.2) ∧ ((Y = [] ∧ best = -1 ∧ at_ = ivNone) ∨ (0 ≤ best ∧ (best, at_) ∈ Y ∧ ∀ y ∈ Y, at_.hi ≤ y.2.hi))
theorem nearL_spec (ray : Ray) : ∀ (l : List Shape) (k : Nat) (best : Int) (at_ : Iv) (all : List Iv) (Y0 : List (Int × Iv)), Inv1 Y0 best at_ all →
    match hitsL ray l k with
    | none => nearL ray l k best at_ all = none
    | some Y => ∃ b a al, nearL ray l k best at_ all = some (b, a, al) ∧ Inv1 (Y0 ++ Y) b a al
  | [], k, best, at_, all, Y0, h => ⟨best, at_, all, rfl, by rw [List.append_nil]; exact h⟩
  | s :: l, k, best, at_, all, Y0, h => by
    simp only [hitsL, nearL]
    unfold nearStep
    cases h0 : (sceneHit s ray).2 == 0
    · simp only [cond_false]
      cases h2 : (sceneHit s ray).2 == 2
      · simp only [cond_false]
        obtain ⟨ha, hb⟩ := h
        cases hb0 : decide (best < 0)
        · simp only [cond_false]
          have hb0 := of_decide_eq_false hb0
          rcases hb with ⟨_, hb, _⟩ | ⟨hbn, hmem, hmin⟩
          · omega
          cases hlt : decide ((sceneHit s ray).1.hi < at_.hi)
          · simp only [cond_false]
            have hlt := of_decide_eq_false hlt
            have ih := nearL_spec ray l (k + 1) best at_ (all ++ [(sceneHit s ray).1]) (Y0 ++ [((k : Int), (sceneHit s ray).1)]) ⟨by rw [ha]; simp, .inr ⟨hbn, by simp [hmem], fun y hy => by
              rcases List.mem_append.1 hy with hy | hy
              · exact hmin y hy
              · obtain rfl := List.mem_singleton.1 hy
                simp only
                omega⟩⟩
            cases hY : hitsL ray l (k + 1) with
            | none => rw [hY] at ih; exact ih
            | some Y =>
              rw [hY] at ih
              simp only [Option.map_some]
              rw [show Y0 ++ ((k : Int), (sceneHit s ray).1) :: Y = Y0 ++ [((k : Int), (sceneHit s ray).1)] ++ Y from by simp]
              exact ih
          · simp only [cond_true]
            have hlt := of_decide_eq_true hlt
            have ih := nearL_spec ray l (k + 1) (k : Int) (sceneHit s ray).1 (all ++ [(sceneHit s ray).1]) (Y0 ++ [((k : Int), (sceneHit s ray).1)]) ⟨by rw [ha]; simp, .inr ⟨by omega, by simp, fun y hy => by
              rcases List.mem_append.1 hy with hy | hy
              · have := hmin y hy; omega
              · obtain rfl := List.mem_singleton.1 hy
                simp only
                omega⟩⟩
            cases hY : hitsL ray l (k + 1) with
            | none => rw [hY] at ih; exact ih
            | some Y =>
              rw [hY] at ih
              simp only [Option.map_some]
              rw [show Y0 ++ ((k : Int), (sceneHit s ray).1) :: Y = Y0 ++ [((k : Int), (sceneHit s ray).1)] ++ Y from by simp]
              exact ih
        · simp only [cond_true]
          have hb0 := of_decide_eq_true hb0
          rcases hb with ⟨rfl, _, _⟩ | ⟨hbn, _, _⟩
          · have ih := nearL_spec ray l (k + 1) (k : Int) (sceneHit s ray).1 (all ++ [(sceneHit s ray).1]) ([((k : Int), (sceneHit s ray).1)]) ⟨by rw [ha]; simp, .inr ⟨by omega, by simp, fun y hy => by
              obtain rfl := List.mem_singleton.1 hy
              simp only
              omega⟩⟩
            cases hY : hitsL ray l (k + 1) with
            | none => rw [hY] at ih; exact ih
            | some Y =>
              rw [hY] at ih
              exact ih
          · omega
      · simp only [cond_true]
        exact nearL_spec ray l (k + 1) best at_ all Y0 h
    · simp only [cond_true]
theorem nearC_spec (at_ : Iv) : ∀ (l : List Iv) (c : Int), 0 ≤ c ∧ c + l.length ≤ 1000000000 → nearC at_ l c = c + (l.countP fun t => decide (at_.hi < t.lo) : Nat)
  | [], c, _ => by simp [nearC]
  | t :: l, c, h => by
    simp only [List.length_cons] at h
    simp only [nearC]
    cases hd : decide (at_.hi < t.lo)
    · simp only [cond_false]
      rw [nearC_spec at_ l c (by omega), List.countP_cons_of_neg (by simp only [hd]; exact Bool.false_ne_true)]
    · simp only [cond_true]
      rw [w64_of (by omega) (by omega), nearC_spec at_ l (c + 1) (by omega), List.countP_cons_of_pos (by simpa using hd)]
      omega
theorem sNear_spec (l : List Shape) (ray : Ray) (hl : l.length ≤ 1000) :
    (hitsL ray l 0 = none ∧ sNear l ray = (-1, ivNone, 0)) ∨ (hitsL ray l 0 = some [] ∧ sNear l ray = (-1, ivNone, 2)) ∨
    ∃ Y b a, hitsL ray l 0 = some Y ∧ 0 ≤ b ∧ (b, a) ∈ Y ∧ (∀ y ∈ Y, a.hi ≤ y.2.hi) ∧ ((Y.countP fun y => decide (a.hi < y.2.lo)) + 1 < Y.length ∧ sNear l ray = (-1, ivNone, 0) ∨ Y.length ≤ (Y.countP fun y => decide (a.hi < y.2.lo)) + 1 ∧ sNear l ray = (b, a, 1)) := by
  have h := nearL_spec ray l 0 (-1) ivNone [] [] ⟨rfl, .inl ⟨rfl, rfl, rfl⟩⟩
  have hlen : ∀ (l : List Shape) (k : Nat) (Y : List (Int × Iv)), hitsL ray l k = some Y → Y.length ≤ l.length := by
    intro l
    induction l with
    | nil => intro k Y h; simp only [hitsL, Option.some.injEq] at h; subst h; exact Nat.le_refl _
    | cons s l ih =>
      intro k Y h
      simp only [hitsL] at h
      cases h0 : (sceneHit s ray).2 == 0 <;> rw [h0] at h
      · simp only [cond_false] at h
        cases h2 : (sceneHit s ray).2 == 2 <;> rw [h2] at h
        · simp only [cond_false, Option.map_eq_some_iff] at h
          obtain ⟨Z, hz, rfl⟩ := h
          have := ih _ Z hz
          simp only [List.length_cons]
          omega
        · have := ih _ Y h
          simp only [List.length_cons]
          omega
      · cases h
  cases hY : hitsL ray l 0 with
  | none =>
    rw [hY] at h
    exact .inl ⟨rfl, by unfold sNear; rw [h]⟩
  | some Y =>
    rw [hY] at h
    obtain ⟨b, a, al, hn, hal, hb⟩ := h
    rw [List.nil_append] at hal hb
    have hlY := hlen l 0 Y hY
    rcases hb with ⟨rfl, rfl, rfl⟩ | ⟨hb0, hm, hmin⟩
    · refine .inr (.inl ⟨rfl, ?_⟩)
      unfold sNear
      rw [hn]
      rfl
    · refine .inr (.inr ⟨Y, b, a, rfl, hb0, hm, hmin, ?_⟩)
      have hc := nearC_spec a al 0 (by rw [hal]; simp only [List.length_map]; omega)
      have hcp : (al.countP fun t => decide (a.hi < t.lo)) = Y.countP fun y => decide (a.hi < y.2.lo) := by
        rw [hal, List.countP_map]; rfl
      have hcl : (Y.countP fun y => decide (a.hi < y.2.lo)) ≤ Y.length := List.countP_le_length
      have hall : al.length = Y.length := by rw [hal]; simp
      have e : sNear l ray = (bif decide (b < 0) then (-1, ivNone, 2) else bif decide (w64 (nearC a al 0 + 1) < (al.length : Int)) then (-1, ivNone, 0) else (b, a, 1)) := by
        unfold sNear; rw [hn]
      rw [e, decide_eq_false (by omega : ¬ b < 0), hc, hcp, hall, w64_of (by omega) (by omega)]
      simp only [cond_false]
      by_cases hlt : (Y.countP fun y => decide (a.hi < y.2.lo)) + 1 < Y.length
      · rw [decide_eq_true (by omega)]
        exact .inl ⟨hlt, rfl⟩
      · rw [decide_eq_false (by omega)]
        exact .inr ⟨by omega, rfl⟩
theorem one_fails {α : Type} (P : α → Bool) (x : α) : ∀ (Y : List α), x ∈ Y → P x = false → Y.length ≤ Y.countP P + 1 → ∀ y ∈ Y, P y = true ∨ y = x
  | [], h, _, _ => by cases h
  | z :: Y, h, hx, hc => by
    intro y hy
    cases hz : P z
    · rw [List.countP_cons_of_neg (by rw [hz]; exact Bool.false_ne_true), List.length_cons] at hc
      have hle : Y.countP P ≤ Y.length := List.countP_le_length
      have hall : ∀ y ∈ Y, P y = true := List.countP_eq_length.1 (by omega)
      rcases List.mem_cons.1 h with rfl | h
      · rcases List.mem_cons.1 hy with rfl | hy
        · exact .inr rfl
        · exact .inl (hall y hy)
      · rw [hall x h] at hx; cases hx
    · rw [List.countP_cons_of_pos hz, List.length_cons] at hc
      have hxz : x ≠ z := fun e => by rw [e, hz] at hx; cases hx
      have hxY : x ∈ Y := (List.mem_cons.1 h).resolve_left hxz
      rcases List.mem_cons.1 hy with rfl | hy
      · exact .inl hz
      · exact one_fails P x Y hxY hx (by omega) y hy
def LeRay (q r : Ray) : Prop := LeV q.o r.o ∧ LeV q.d r.d
theorem meet_012 (s : Shape) (r : Ray) : (sceneMeet s r).2 = 0 ∨ (sceneMeet s r).2 = 1 ∨ (sceneMeet s r).2 = 2 := by
  unfold sceneMeet sceneMeet_e2
  cases s.kind == 1
  · cases s.kind == 2
    · exact .inl rfl
    · cases (ivDiv (ivSub (decOf s.z) r.o.z) r.d.z).no
      · exact .inr (.inl rfl)
      · exact .inl rfl
  · exact near_012 _ _ _
theorem meet_less (s : Shape) {q r : Ray} (h : LeRay q r) : ((sceneMeet s r).2 = 1 → (sceneMeet s q).2 = 1 ∧ ivInside (sceneMeet s q).1 (sceneMeet s r).1 = true) ∧ ((sceneMeet s r).2 = 2 → (sceneMeet s q).2 = 2) := by
  unfold sceneMeet sceneMeet_e2 sceneMeet_e1 sceneMeet_e0
  cases s.kind == 1
  · simp only [cond_false]
    cases s.kind == 2
    · exact ⟨fun h => absurd (show (0 : Int) = 1 from h) (by decide), fun h => absurd (show (0 : Int) = 2 from h) (by decide)⟩
    · simp only [cond_true]
      have hl := le_div (le_sub (Le.rfl' (decOf s.z)) h.1.2.2) h.2.2.2
      rw [div_no, div_no]
      generalize ivDiv (ivSub (decOf s.z) r.o.z) r.d.z = t at *
      generalize ivDiv (ivSub (decOf s.z) q.o.z) q.d.z = u at *
      by_cases hr : R t
      · have hu := hl hr
        rw [ivRight_t hr, ivRight_t hu.1]
        have ru := hu.1.2
        have rt := hr.2
        refine ⟨fun _ => ⟨rfl, (ivInside_iff _ _).2 ⟨R_mk ru.1 ru.2.1 ru.2.2, R_mk rt.1 rt.2.1 rt.2.2, hu.2⟩⟩, fun h => absurd (show (1 : Int) = 2 from h) (by decide)⟩
      · rw [ivRight_f hr]
        exact ⟨fun h => absurd (show (0 : Int) = 1 from h) (by decide), fun h => absurd (show (0 : Int) = 2 from h) (by decide)⟩
  · exact near_less (le_len2 h.2) (le_dot (leV_sub h.1 (LeV.rfl' _)) h.2) (le_sub (le_len2 (leV_sub h.1 (LeV.rfl' _))) (Le.rfl' _))
theorem hit_cases (s : Shape) (r : Ray) : ((sceneHit s r).2 = 0 ∧ (sceneHit s r).1 = ivNone) ∨ ((sceneHit s r).2 = 2 ∧ (sceneHit s r).1 = ivNone) ∨ ((sceneHit s r).2 = 1 ∧ (sceneHit s r).1 = (sceneMeet s r).1 ∧ (sceneMeet s r).2 = 1 ∧ 0 < (sceneMeet s r).1.lo ∧ 0 < (sceneMeet s r).1.hi) := by
  unfold sceneHit
  rcases meet_012 s r with h | h | h
  · rw [h]; exact .inl ⟨rfl, rfl⟩
  · rw [h]
    by_cases h1 : (sceneMeet s r).1.hi ≤ 0
    · rw [decide_eq_true h1]; exact .inr (.inl ⟨rfl, rfl⟩)
    · rw [decide_eq_false h1]
      by_cases h2 : (sceneMeet s r).1.lo ≤ 0
      · rw [decide_eq_true h2]; exact .inl ⟨rfl, rfl⟩
      · rw [decide_eq_false h2]; exact .inr (.inr ⟨rfl, rfl, rfl, by omega, by omega⟩)
  · rw [h]; exact .inr (.inl ⟨rfl, rfl⟩)
theorem hit_less (s : Shape) {q r : Ray} (h : LeRay q r) : ((sceneHit s r).2 = 1 → (sceneHit s q).2 = 1 ∧ ivInside (sceneHit s q).1 (sceneHit s r).1 = true) ∧ ((sceneHit s r).2 = 2 → (sceneHit s q).2 = 2) := by
  have hm := meet_less s h
  constructor
  · intro h1
    rcases hit_cases s r with ⟨e, _⟩ | ⟨e, _⟩ | ⟨_, e1, m1, lo, hi⟩
    · rw [e] at h1; cases h1
    · rw [e] at h1; cases h1
    obtain ⟨q1, hin⟩ := hm.1 m1
    have hi' := (ivInside_iff _ _).1 hin
    have rq := hi'.1.2
    have : sceneHit s q = ((sceneMeet s q).1, 1) := by
      unfold sceneHit
      rw [q1, decide_eq_false (by omega : ¬ (sceneMeet s q).1.hi ≤ 0), decide_eq_false (by omega : ¬ (sceneMeet s q).1.lo ≤ 0)]
      rfl
    rw [this, e1]
    exact ⟨rfl, hin⟩
  · intro h2
    unfold sceneHit at h2
    rcases meet_012 s r with h0 | h0 | h0
    · rw [h0] at h2; exact absurd (show (0 : Int) = 2 from h2) (by decide)
    · obtain ⟨q1, hin⟩ := hm.1 h0
      have hi' := (ivInside_iff _ _).1 hin
      by_cases h1 : (sceneMeet s r).1.hi ≤ 0
      · have : sceneHit s q = (ivNone, 2) := by
          unfold sceneHit
          rw [q1, decide_eq_true (by omega : (sceneMeet s q).1.hi ≤ 0)]
          rfl
        rw [this]
      · rw [h0, decide_eq_false h1] at h2
        by_cases h3 : (sceneMeet s r).1.lo ≤ 0
        · rw [decide_eq_true h3] at h2; exact absurd (show (0 : Int) = 2 from h2) (by decide)
        · rw [decide_eq_false h3] at h2; exact absurd (show (1 : Int) = 2 from h2) (by decide)
    · have q2 := hm.2 h0
      unfold sceneHit
      rw [q2]
      rfl
inductive Rel : List (Int × Iv) → List (Int × Iv) → Prop
  | nil : Rel [] []
  | cons {i : Int} {t u : Iv} {Y Z : List (Int × Iv)} : ivInside u t = true → Rel Y Z → Rel ((i, t) :: Y) ((i, u) :: Z)
theorem hits_less {q r : Ray} (h : LeRay q r) : ∀ (l : List Shape) (k : Nat) (Y : List (Int × Iv)), hitsL r l k = some Y → ∃ Z, hitsL q l k = some Z ∧ Rel Y Z
  | [], k, Y, hY => by
    simp only [hitsL, Option.some.injEq] at hY
    subst hY
    exact ⟨[], rfl, .nil⟩
  | s :: l, k, Y, hY => by
    have hl := hit_less s h
    simp only [hitsL] at hY ⊢
    rcases hit_cases s r with ⟨e, _⟩ | ⟨e, _⟩ | ⟨e, _⟩
    · rw [e] at hY; cases hY
    · rw [e] at hY
      rw [hl.2 e]
      exact hits_less h l (k + 1) Y hY
    · rw [e] at hY
      obtain ⟨e', hin⟩ := hl.1 e
      rw [e']
      have hY' : (hitsL r l (k + 1)).map (fun Y => ((k : Int), (sceneHit s r).1) :: Y) = some Y := hY
      rw [Option.map_eq_some_iff] at hY'
      obtain ⟨Y', hy, rfl⟩ := hY'
      obtain ⟨Z, hz, hr⟩ := hits_less h l (k + 1) Y' hy
      refine ⟨((k : Int), (sceneHit s q).1) :: Z, ?_, .cons hin hr⟩
      show (hitsL q l (k + 1)).map _ = _
      rw [hz]
      rfl
theorem Rel.length {Y Z : List (Int × Iv)} (h : Rel Y Z) : Y.length = Z.length := by
  induction h with
  | nil => rfl
  | cons _ _ ih => simp [ih]
theorem Rel.left {Y Z : List (Int × Iv)} (h : Rel Y Z) : ∀ y ∈ Y, ∃ u, (y.1, u) ∈ Z ∧ ivInside u y.2 = true := by
  induction h with
  | nil => intro y hy; cases hy
  | cons hin _ ih =>
    intro y hy
    rcases List.mem_cons.1 hy with rfl | hy
    · exact ⟨_, List.mem_cons_self, hin⟩
    · obtain ⟨u, h1, h2⟩ := ih y hy
      exact ⟨u, List.mem_cons_of_mem _ h1, h2⟩
theorem Rel.right {Y Z : List (Int × Iv)} (h : Rel Y Z) : ∀ z ∈ Z, ∃ t, (z.1, t) ∈ Y ∧ ivInside z.2 t = true := by
  induction h with
  | nil => intro y hy; cases hy
  | cons hin _ ih =>
    intro y hy
    rcases List.mem_cons.1 hy with rfl | hy
    · exact ⟨_, List.mem_cons_self, hin⟩
    · obtain ⟨u, h1, h2⟩ := ih y hy
      exact ⟨u, List.mem_cons_of_mem _ h1, h2⟩
theorem hits_index (r : Ray) : ∀ (l : List Shape) (k : Nat) (Y : List (Int × Iv)), hitsL r l k = some Y → (∀ y ∈ Y, (k : Int) ≤ y.1 ∧ y.1 < (k : Int) + l.length ∧ R y.2 ∨ (k : Int) ≤ y.1 ∧ y.1 < (k : Int) + l.length) ∧ (∀ y ∈ Y, ∀ z ∈ Y, y.1 = z.1 → y = z)
  | [], k, Y, hY => by
    simp only [hitsL, Option.some.injEq] at hY
    subst hY
    exact ⟨by simp, by simp⟩
  | s :: l, k, Y, hY => by
    simp only [hitsL] at hY
    have step : ∀ Y', hitsL r l (k + 1) = some Y' → (∀ y ∈ Y', (k : Int) + 1 ≤ y.1 ∧ y.1 < (k : Int) + 1 + l.length) := by
      intro Y' h y hy
      have := (hits_index r l (k + 1) Y' h).1 y hy
      omega
    simp only [List.length_cons]
    rcases hit_cases s r with ⟨e, _⟩ | ⟨e, _⟩ | ⟨e, _⟩
    · rw [e] at hY; cases hY
    · rw [e] at hY
      have hY : hitsL r l (k + 1) = some Y := hY
      refine ⟨fun y hy => .inr ?_, (hits_index r l (k + 1) Y hY).2⟩
      have := step Y hY y hy
      omega
    · rw [e] at hY
      have hY' : (hitsL r l (k + 1)).map (fun Y => ((k : Int), (sceneHit s r).1) :: Y) = some Y := hY
      rw [Option.map_eq_some_iff] at hY'
      obtain ⟨Y', hy', rfl⟩ := hY'
      have h1 := step Y' hy'
      have h2 := (hits_index r l (k + 1) Y' hy').2
      refine ⟨fun y hy => .inr ?_, ?_⟩
      · rcases List.mem_cons.1 hy with rfl | hy
        · simp only; omega
        · have := h1 y hy; omega
      · intro y hy z hz e
        rcases List.mem_cons.1 hy with rfl | hy <;> rcases List.mem_cons.1 hz with rfl | hz
        · rfl
        · have := h1 z hz; simp only at e; omega
        · have := h1 y hy; simp only at e; omega
        · exact h2 y hy z hz e
theorem sNear_less {q r : Ray} (h : LeRay q r) (l : List Shape) (hl : l.length ≤ 1000) :
    sNear l r = (-1, ivNone, 0) ∨ (sNear l r = (-1, ivNone, 2) ∧ sNear l q = (-1, ivNone, 2)) ∨ ∃ b a u, sNear l r = (b, a, 1) ∧ sNear l q = (b, u, 1) ∧ ivInside u a = true ∧ 0 ≤ b ∧ b < l.length := by
  rcases sNear_spec l r hl with ⟨_, e⟩ | ⟨hr, e⟩ | ⟨Y, b, a, hY, hb, hm, hmin, hc⟩
  · exact .inl e
  · obtain ⟨Z, hZ, hrel⟩ := hits_less h l 0 [] hr
    cases hrel
    rcases sNear_spec l q hl with ⟨k, _⟩ | ⟨_, e'⟩ | ⟨Z', _, _, hZ', _, hm, _⟩
    · rw [hZ] at k; cases k
    · exact .inr (.inl ⟨e, e'⟩)
    · rw [hZ] at hZ'; cases hZ'; cases hm
  · rcases hc with ⟨_, e⟩ | ⟨hc, e⟩
    · exact .inl e
    right
    right
    obtain ⟨Z, hZ, hrel⟩ := hits_less h l 0 Y hY
    obtain ⟨u, hu, hin⟩ := hrel.left (b, a) hm
    have hin' := (ivInside_iff _ _).1 hin
    simp only at hin' hin hu
    have hP : (fun y : Int × Iv => decide (a.hi < y.2.lo)) (b, a) = false := decide_eq_false (by have := hin'.2.1.2; simp only; omega)
    have one := one_fails _ (b, a) Y hm hP hc
    have idx := hits_index q l 0 Z hZ
    have idr := hits_index r l 0 Y hY
    have far : ∀ z ∈ Z, z = (b, u) ∨ a.hi < z.2.lo := by
      intro z hz
      obtain ⟨t, ht, hit⟩ := hrel.right z hz
      have hit' := (ivInside_iff _ _).1 hit
      rcases one (z.1, t) ht with k | k
      · right
        have := of_decide_eq_true k
        simp only at this
        omega
      · left
        have hz1 : z.1 = b := by simpa using congrArg Prod.fst k
        exact idx.2 z hz (b, u) hu hz1
    rcases sNear_spec l q hl with ⟨k, _⟩ | ⟨k, _⟩ | ⟨Z', b', a', hZ', hb', hm', hmin', hc'⟩
    · rw [hZ] at k; cases k
    · rw [hZ] at k; cases k; cases hu
    rw [hZ] at hZ'
    cases hZ'
    have eb : (b', a') = (b, u) := by
      rcases far (b', a') hm' with k | k
      · exact k
      · have k1 := hmin' (b, u) hu
        simp only at k1 k
        obtain ⟨t, ht, hit⟩ := hrel.right (b', a') hm'
        have := ((ivInside_iff _ _).1 hit).1.2
        simp only at this
        omega
    simp only [Prod.mk.injEq] at eb
    obtain ⟨rfl, rfl⟩ := eb
    refine ⟨b', a, a', e, ?_, hin, hb, by have := idr.1 (b', a) hm; simp only at this; omega⟩
    rcases hc' with ⟨hlt, _⟩ | ⟨_, e'⟩
    · exfalso
      have hle : Y.countP (fun y => decide (a.hi < y.2.lo)) ≤ Z.countP (fun y => decide (a'.hi < y.2.lo)) := by
        have gen : ∀ {Y Z : List (Int × Iv)}, Rel Y Z → Y.countP (fun y => decide (a.hi < y.2.lo)) ≤ Z.countP (fun y => decide (a'.hi < y.2.lo)) := by
          intro Y Z hr
          induction hr with
          | nil => exact Nat.le_refl _
          | cons hi _ ih =>
            rename_i i t v Y Z hrr
            have hi' := (ivInside_iff _ _).1 hi
            simp only [List.countP_cons]
            by_cases hd : a.hi < t.lo
            · rw [if_pos (decide_eq_true hd), if_pos (decide_eq_true (show a'.hi < v.lo by omega))]
              omega
            · rw [if_neg (by simpa using hd)]
              omega
        exact gen hrel
      have := hrel.length
      omega
    · exact e'
end Go.Proofs.Ythngkopcadlciaa
namespace Go.Proofs.Ythngkopcadlciaa
open Go.RowKit
attribute [local irreducible] AC AR DWalk
def hDec0 (c : Int) : Dec := (⟨c, 0⟩ : Dec)
set_option maxRecDepth 100000 in
theorem c_hDec0 (c : Int) : Gets Try.prog 97 #[.int .i64 c, .int .i64 0] (Dec.v (hDec0 c)) := by
  refine gets_fin Try.func97 rfl rfl rfl ?_
  refine ac_seq ?_
  refine ac_region_lit ?_
  refine ao 4 rfl rfl (st_new zero83 rfl fun g0 => ?_)
  refine ar_nil ?_
  refine ac_seq ?_
  refine ac_region_lit ?_
  refine ao 6 rfl rfl (st_move (v := .int .i64 c) rfl rfl ?_)
  refine ao 7 rfl rfl (st_move (v := .int .i64 0) rfl rfl ?_)
  refine ao 8 rfl rfl (st_bd (us := [(0, .int .i64 c), (1, .int .i64 0)]) (v := .agg #[.int .i64 c, .int .i64 0]) rfl rfl (bd83_0_1 _ _) ?_)
  refine ao 5 rfl rfl (st_new zero83 rfl fun g1 => ?_)
  refine ar_op (d := none) rfl rfl (st_sta (g := g1) (off := 0) (us := [.int .i64 c, .int .i64 0]) (cs := [.int .i64 c, .int .i64 0]) agg83 0 rfl rfl rfl rfl rfl rfl rfl rfl rfl ?_)
  refine ar_nil ?_
  refine ac_seq ?_
  refine ac_block ?_
  refine ac_rounds 61 ?_
  refine ar_round ?_
  refine ac_seq ?_
  refine ac_seq ?_
  refine ac_region_lit ?_
  refine ao 9 rfl rfl (st_fa (g := g1) (off := 0) rfl fa83_1 rfl ?_)
  refine ao 10 rfl rfl (st_ldc (g := g1) (off := 1) (v := .int .i64 0) cell3 0 rfl rfl rfl rfl rfl ?_)
  refine ao 11 rfl rfl (st_bi (u := .int .i64 0) (v := .int .i64 0) (r := .bool false) rfl rfl rfl (bi_gtr (by decide)) ?_)
  refine ao 12 rfl rfl (st_move (v := .bool false) rfl rfl ?_)
  refine ar_sk (d := (some 13)) rfl rfl ?_
  refine ar_sk (d := (some 14)) rfl rfl ?_
  refine ar_sk (d := (some 15)) rfl rfl ?_
  refine ar_sk (d := (some 16)) rfl rfl ?_
  refine ao 17 rfl rfl (st_pkf (v := .bool false) rfl rfl rfl ?_)
  refine ar_nil ?_
  refine ac_else rfl ?_
  refine ac_exit ?_
  refine ac_seq ?_
  refine ac_region_lit ?_
  refine ao 26 rfl rfl (st_lda (g := g1) (off := 0) (vs := [.int .i64 c, .int .i64 0]) agg83 0 rfl rfl rfl rfl rfl rfl ?_)
  refine ar_op (d := none) rfl rfl (st_sta (g := g0) (off := 0) (us := [.int .i64 c, .int .i64 0]) (cs := [.int .i64 c, .int .i64 0]) agg83 1 rfl rfl rfl rfl rfl rfl rfl rfl rfl ?_)
  refine ar_nil ?_
  refine ac_ret ?_
  exact fin_eq (v := .agg #[.int .i64 c, .int .i64 0]) rfl (fin_ret (res_c (vs := [.int .i64 c, .int .i64 0]) agg83 1 rfl rfl rfl rfl rfl rfl))
def hDec1 (c : Int) : Dec := (bif (Int.tmod c 10) == 0 then (⟨w64 (Int.tdiv c 10), 0⟩ : Dec) else (⟨c, 1⟩ : Dec))
set_option maxRecDepth 100000 in
theorem c_hDec1 (c : Int) : Gets Try.prog 97 #[.int .i64 c, .int .i64 1] (Dec.v (hDec1 c)) := by
  refine gets_fin Try.func97 rfl rfl rfl ?_
  refine ac_seq ?_
  refine ac_region_lit ?_
  refine ao 4 rfl rfl (st_new zero83 rfl fun g0 => ?_)
  refine ar_nil ?_
  refine ac_seq ?_
  refine ac_region_lit ?_
  refine ao 6 rfl rfl (st_move (v := .int .i64 c) rfl rfl ?_)
  refine ao 7 rfl rfl (st_move (v := .int .i64 1) rfl rfl ?_)
  refine ao 8 rfl rfl (st_bd (us := [(0, .int .i64 c), (1, .int .i64 1)]) (v := .agg #[.int .i64 c, .int .i64 1]) rfl rfl (bd83_0_1 _ _) ?_)
  refine ao 5 rfl rfl (st_new zero83 rfl fun g1 => ?_)
  refine ar_op (d := none) rfl rfl (st_sta (g := g1) (off := 0) (us := [.int .i64 c, .int .i64 1]) (cs := [.int .i64 c, .int .i64 1]) agg83 0 rfl rfl rfl rfl rfl rfl rfl rfl rfl ?_)
  refine ar_nil ?_
  refine ac_seq ?_
  refine ac_block ?_
  refine ac_rounds 61 ?_
  refine ar_round ?_
  refine ac_seq ?_
  refine ac_seq ?_
  refine ac_region_lit ?_
  refine ao 9 rfl rfl (st_fa (g := g1) (off := 0) rfl fa83_1 rfl ?_)
  refine ao 10 rfl rfl (st_ldc (g := g1) (off := 1) (v := .int .i64 1) cell3 0 rfl rfl rfl rfl rfl ?_)
  refine ao 11 rfl rfl (st_bi (u := .int .i64 1) (v := .int .i64 0) (r := .bool true) rfl rfl rfl (bi_gtr (by decide)) ?_)
  refine ao 12 rfl rfl (st_move (v := .bool true) rfl rfl ?_)
  refine ar_gd (d := (some 13)) rfl rfl (st_fa (g := g1) (off := 0) rfl fa83_0 rfl ?_)
  refine ar_gd (d := (some 14)) rfl rfl (st_ldc (g := g1) (off := 0) (v := .int .i64 c) cell3 0 rfl rfl rfl rfl rfl ?_)
  refine ar_gd (d := (some 15)) rfl rfl (st_bi (u := .int .i64 c) (v := .int .i64 10) (r := .int .i64 (Int.tmod c 10)) rfl rfl rfl (bi_rem (by decide) rfl) ?_)
  refine ar_gd (d := (some 16)) rfl rfl (st_bi (u := .int .i64 (Int.tmod c 10)) (v := .int .i64 0) (r := .bool ((Int.tmod c 10) == 0)) rfl rfl rfl (bi_eql rfl) ?_)
  refine ao 17 rfl rfl (st_pkt (v := .bool ((Int.tmod c 10) == 0)) rfl rfl rfl ?_)
  refine ar_nil ?_
  refine bool_split ((Int.tmod c 10) == 0) (fun h1 => ?_) (fun h1 => ?_)
  · refine ac_then' (b := (Int.tmod c 10) == 0) h1 rfl ?_
    refine ac_skip ?_
    refine ac_block ?_
    refine ac_seq ?_
    refine ac_region_lit ?_
    refine ao 18 rfl rfl (st_fa (g := g1) (off := 0) rfl fa83_0 rfl ?_)
    refine ao 19 rfl rfl (st_ldc (g := g1) (off := 0) (v := .int .i64 c) cell3 0 rfl rfl rfl rfl rfl ?_)
    refine ao 20 rfl rfl (st_bi (u := .int .i64 c) (v := .int .i64 10) (r := .int .i64 (w64 (Int.tdiv c 10))) rfl rfl rfl (bi_quo (by decide) rfl) ?_)
    refine ao 21 rfl rfl (st_fa (g := g1) (off := 0) rfl fa83_0 rfl ?_)
    refine ar_op (d := none) rfl rfl (st_stc (g := g1) (off := 0) (u := .int .i64 (w64 (Int.tdiv c 10))) (cs := [.int .i64 (w64 (Int.tdiv c 10)), .int .i64 1]) cell3 0 rfl rfl rfl rfl rfl rfl rfl rfl rfl ?_)
    refine ar_nil ?_
    refine ac_region_lit ?_
    refine ao 22 rfl rfl (st_fa (g := g1) (off := 0) rfl fa83_1 rfl ?_)
    refine ao 23 rfl rfl (st_ldc (g := g1) (off := 1) (v := .int .i64 1) cell3 0 rfl rfl rfl rfl rfl ?_)
    refine ao 24 rfl rfl (st_bi (u := .int .i64 1) (v := .int .i64 1) (r := .int .i64 0) rfl rfl rfl (bi_sub (by decide)) ?_)
    refine ao 25 rfl rfl (st_fa (g := g1) (off := 0) rfl fa83_1 rfl ?_)
    refine ar_op (d := none) rfl rfl (st_stc (g := g1) (off := 1) (u := .int .i64 0) (cs := [.int .i64 (w64 (Int.tdiv c 10)), .int .i64 0]) cell3 0 rfl rfl rfl rfl rfl rfl rfl rfl rfl ?_)
    refine ar_nil ?_
    refine ar_round ?_
    refine ac_seq ?_
    refine ac_seq ?_
    refine ac_region_lit ?_
    refine ao 9 rfl rfl (st_fa (g := g1) (off := 0) rfl fa83_1 rfl ?_)
    refine ao 10 rfl rfl (st_ldc (g := g1) (off := 1) (v := .int .i64 0) cell3 0 rfl rfl rfl rfl rfl ?_)
    refine ao 11 rfl rfl (st_bi (u := .int .i64 0) (v := .int .i64 0) (r := .bool false) rfl rfl rfl (bi_gtr (by decide)) ?_)
    refine ao 12 rfl rfl (st_move (v := .bool false) rfl rfl ?_)
    refine ar_sk (d := (some 13)) rfl rfl ?_
    refine ar_sk (d := (some 14)) rfl rfl ?_
    refine ar_sk (d := (some 15)) rfl rfl ?_
    refine ar_sk (d := (some 16)) rfl rfl ?_
    refine ao 17 rfl rfl (st_pkf (v := .bool false) rfl rfl rfl ?_)
    refine ar_nil ?_
    refine ac_else rfl ?_
    refine ac_exit ?_
    refine ac_seq ?_
    refine ac_region_lit ?_
    refine ao 26 rfl rfl (st_lda (g := g1) (off := 0) (vs := [.int .i64 (w64 (Int.tdiv c 10)), .int .i64 0]) agg83 0 rfl rfl rfl rfl rfl rfl ?_)
    refine ar_op (d := none) rfl rfl (st_sta (g := g0) (off := 0) (us := [.int .i64 (w64 (Int.tdiv c 10)), .int .i64 0]) (cs := [.int .i64 (w64 (Int.tdiv c 10)), .int .i64 0]) agg83 1 rfl rfl rfl rfl rfl rfl rfl rfl rfl ?_)
    refine ar_nil ?_
    refine ac_ret ?_
    exact fin_eq (v := .agg #[.int .i64 (w64 (Int.tdiv c 10)), .int .i64 0]) (by show _ = Dec.v (hDec1 c); rw [hDec1, h1] <;> rfl) (fin_ret (res_c (vs := [.int .i64 (w64 (Int.tdiv c 10)), .int .i64 0]) agg83 1 rfl rfl rfl rfl rfl rfl))
  · refine ac_else' (b := (Int.tmod c 10) == 0) h1 rfl ?_
    refine ac_exit ?_
    refine ac_seq ?_
    refine ac_region_lit ?_
    refine ao 26 rfl rfl (st_lda (g := g1) (off := 0) (vs := [.int .i64 c, .int .i64 1]) agg83 0 rfl rfl rfl rfl rfl rfl ?_)
    refine ar_op (d := none) rfl rfl (st_sta (g := g0) (off := 0) (us := [.int .i64 c, .int .i64 1]) (cs := [.int .i64 c, .int .i64 1]) agg83 1 rfl rfl rfl rfl rfl rfl rfl rfl rfl ?_)
    refine ar_nil ?_
    refine ac_ret ?_
    exact fin_eq (v := .agg #[.int .i64 c, .int .i64 1]) (by show _ = Dec.v (hDec1 c); rw [hDec1, h1] <;> rfl) (fin_ret (res_c (vs := [.int .i64 c, .int .i64 1]) agg83 1 rfl rfl rfl rfl rfl rfl))
end Go.Proofs.Ythngkopcadlciaa
namespace Go.Proofs.Ythngkopcadlciaa
open Go.RowKit
section
variable {p : Program} {n : Nat} {ops : Array Oper} {Q : Exit → Env → List Box → Prop}
def lookOk (ops : Array Oper) (B : List Nat) (o : Oper) : Bool :=
  (Oper.looksAt ops o).all fun t => B.contains t || ((List.range ops.size).any fun k => bindsOn o k && (match dstOf ops k with | some d => Nat.beq d t | none => false))
def stageOk (ops : Array Oper) (Ms B S todo nxt dn bl : List Nat) : Bool :=
  Region.noSelect ops
  && ((List.range ops.size).all fun i => match ops[i]? with | some o => (o.after.all fun e => !(Region.binds .any e) || Nat.blt e.on i) | none => false)
  && (todo.all fun i => !(Ms.contains i) && (match ops[i]? with | some o => lookOk ops B o | none => false))
  && (nxt.all fun i => Ms.contains i && !(S.contains i) && (match ops[i]? with | some o => lookOk ops B o | none => false))
  && (bl.all fun i => (List.range ops.size).any fun k => before_ ops i k && ((Ms.contains k && !(S.contains k)) || (bl.contains k && Nat.blt k i)))
  && (S.all fun i => Ms.contains i)
  && ((List.range ops.size).all fun i => S.contains i || dn.contains i || todo.contains i || nxt.contains i || bl.contains i)
def dnOk (ops : Array Oper) (m : Nat) (dn dn' : List Nat) : Bool :=
  dn'.all fun i => dn.contains i || (List.range ops.size).any fun k => before_ ops k i && (Nat.beq k m || (dn'.contains k && Nat.blt i k))
def SameAt (E F : Env) : List Nat → Prop
  | [] => True
  | t :: ts => E t = F t ∧ SameAt E F ts
theorem sameAt_mem {E F : Env} : ∀ {l : List Nat}, SameAt E F l → ∀ t ∈ l, E t = F t
  | [], _, _, h => by cases h
  | s :: l, h, t, ht => by
    rcases List.mem_cons.1 ht with rfl | ht
    · exact h.1
    · exact sameAt_mem h.2 t ht
theorem sameAt_of {E F : Env} : ∀ {l : List Nat}, (∀ t ∈ l, E t = F t) → SameAt E F l
  | [], _ => trivial
  | s :: l, h => ⟨h s List.mem_cons_self, sameAt_of fun t ht => h t (List.mem_cons_of_mem _ ht)⟩
def undone (ops : Array Oper) (L : Array Bool) : Nat := (List.range ops.size).countP fun i => !(L.getD i false)
theorem countP_one (f g : Nat → Bool) (i : Nat) : ∀ l : List Nat, l.Nodup → i ∈ l → (∀ j, j ≠ i → f j = g j) → f i = true → g i = false → l.countP f = l.countP g + 1
  | [], _, h, _, _, _ => by cases h
  | x :: l, hn, h, he, h1, h2 => by
    simp only [List.nodup_cons] at hn
    rcases List.mem_cons.1 h with rfl | h
    · rw [List.countP_cons_of_pos h1, List.countP_cons_of_neg (by rw [h2]; exact Bool.false_ne_true)]
      have : l.countP f = l.countP g := List.countP_congr fun j hj => by rw [he j (fun e => hn.1 (e ▸ hj))]
      omega
    · have hx : x ≠ i := fun e => hn.1 (e ▸ h)
      have ih := countP_one f g i l hn.2 h he h1 h2
      rw [List.countP_cons, List.countP_cons, he x hx, ih]
      omega
theorem undone_set {L : Array Bool} {i : Nat} (hs : L.size = ops.size) (hi : i < ops.size) (hl : L.getD i false = false) : undone ops L = undone ops (L.setIfInBounds i true) + 1 := by
  refine countP_one _ _ i _ List.nodup_range (List.mem_range.2 hi) (fun j hj => ?_) (by rw [hl]; rfl) ?_
  · rw [getD_set_ne false (Ne.symm hj)]
  · have : (L.setIfInBounds i true).getD i false = true := by simp [hs, hi]
    rw [this]; rfl
theorem look_congr {E F : Env} {o : Oper} {i : Nat} (ho : ops[i]? = some o) (hsel : Region.noSelect ops = true) (hl : ∀ t ∈ Oper.looksAt ops o, E t = F t) : execOp (ev n E) o = execOp (ev n F) o ∧ yld n ops E o = yld n ops F o := by
  have he : ∀ t, t ∈ Oper.looksAt ops o → ev n E (.tmp t) = ev n F (.tmp t) := fun t ht => by simp only [ev, hl t ht]
  refine ⟨execOp_congr o (fun cs b => Region.noSelect_spec hsel i o cs b ho) (fun x hx => ?_), ?_⟩
  · cases x with
    | tmp t => exact he t (List.mem_append_left _ (List.mem_filterMap.2 ⟨.tmp t, by simpa using hx, rfl⟩))
    | _ => rfl
  · unfold yld
    cases hg : o.guard with
    | none => rfl
    | some gw =>
      obtain ⟨j, want⟩ := gw
      cases hd : (ops[j]?).bind (·.dst) with
      | none => simp [hd]
      | some t =>
        simp only [hd]
        rw [he t (by simp [Oper.looksAt, hg, hd])]
def Stage (p : Program) (n : Nat) (ops : Array Oper) (Q : Exit → Env → List Box → Prop) (Ms B S dn : List Nat) (F : Env) (H : List Box) : Prop :=
  ∀ (L : Array Bool) (E : Env), L.size = ops.size → Down ops L → (∀ m ∈ Ms, L.getD m false = S.contains m) → (∀ i ∈ dn, L.getD i false = true) → (∀ t ∈ B, E t = F t) → (∀ i, L.getD i false = true → ∀ d, dstOf ops i = some d → E d = F d) →
    ∀ β w a, Own β H w → Keeps β w → Sees n E a → wpAny p .any ops (AQ n β Q) (undone ops L) L a w
def TellsF (p : Program) (n : Nat) (ops : Array Oper) (H : List Box) (F : Env) (i : Nat) : Prop := ∃ v, Tells p n ops H F i v ∧ ∀ d, dstOf ops i = some d → v = F d
def slotsOf (ops : Array Oper) (B : List Nat) (l : List Nat) : List Nat := B ++ l.filterMap (dstOf ops)
theorem stage_rule {Ms B S dn : List Nat} {F : Env} {H : List Box} (todo nxt bl : List Nat) (hok : stageOk ops Ms B S todo nxt dn bl = true)
    (hq : Each (TellsF p n ops H F) todo)
    (hm : Each (fun i => OpR p n ops F H i fun F1 H' => ∃ F' dn', SameAt F' F1 (slotsOf ops B (dn ++ todo ++ S ++ [i])) ∧ dnOk ops i dn dn' = true ∧ Stage p n ops Q Ms B (i :: S) dn' F' H') nxt)
    (hfin : nxt = [] → ∀ E, (∀ t ∈ slotsOf ops B (dn ++ todo ++ S), E t = F t) → Q .normal E H) : Stage p n ops Q Ms B S dn F H := by
  simp only [stageOk, Bool.and_eq_true, List.all_eq_true, List.mem_range] at hok
  obtain ⟨⟨⟨⟨⟨⟨hsel, hback⟩, htodo⟩, hnxt⟩, hbl⟩, hSM⟩, hcov⟩ := hok
  have back : ∀ i o, ops[i]? = some o → ∀ e ∈ o.after, Region.binds .any e = true → e.on < i := by
    intro i o ho e he hb
    have := hback i (Array.getElem?_eq_some_iff.1 ho).1
    rw [ho] at this
    have h := Array.all_eq_true_iff_forall_mem.1 this e he
    simpa [hb] using h
  suffices key : ∀ (fuel : Nat) (L : Array Bool) (E : Env), undone ops L = fuel → L.size = ops.size → Down ops L → (∀ m ∈ Ms, L.getD m false = S.contains m) → (∀ i ∈ dn, L.getD i false = true) → (∀ t ∈ B, E t = F t) → (∀ i, L.getD i false = true → ∀ d, dstOf ops i = some d → E d = F d) →
      ∀ β w a, Own β H w → Keeps β w → Sees n E a → wpAny p .any ops (AQ n β Q) fuel L a w by
    intro L E h1 h2 h3 h4 h5 h6
    exact key _ L E rfl h1 h2 h3 h4 h5 h6
  intro fuel
  induction fuel with
  | zero =>
    intro L E hu hs hd hM hdn hB hE β w a hO hK hse
    have all : ∀ i, i < ops.size → L.getD i false = true := by
      intro i hi
      have := (List.countP_eq_zero.1 hu) i (List.mem_range.2 hi)
      simpa using this
    have hr : Region.ready .any ops L = [] := by
      apply List.eq_nil_iff_forall_not_mem.2
      intro i hi
      obtain ⟨h0, o, ho, _⟩ := mem_ready.1 hi
      have hlt := (Array.getElem?_eq_some_iff.1 ho).1
      have := all i hlt
      simp only [Array.getD_eq_getD_getElem?] at this h0
      cases hq : L[i]? with
      | none => simp [hq] at this
      | some b => simp [hq] at this h0; rw [this] at h0; cases h0
    have hn : nxt = [] := by
      cases hx : nxt with
      | nil => rfl
      | cons m ms =>
        have h1 := hnxt m (by rw [hx]; exact List.mem_cons_self)
        simp only [Bool.and_eq_true, Bool.not_eq_true'] at h1
        have h2 := hM m (by simpa using h1.1.1)
        rw [h1.1.2] at h2
        cases ho : ops[m]? with
        | none => simp [ho] at h1
        | some o =>
          have := all m (Array.getElem?_eq_some_iff.1 ho).1
          rw [this] at h2
          cases h2
    refine ⟨hr, E, H, hfin hn E (fun t ht => ?_), hse, hO, hK⟩
    rcases List.mem_append.1 ht with ht | ht
    · exact hB t ht
    · obtain ⟨i, hi, hd⟩ := List.mem_filterMap.1 ht
      refine hE i ?_ t hd
      unfold dstOf at hd
      cases ho : ops[i]? with
      | none => simp [ho] at hd
      | some o => exact all i (Array.getElem?_eq_some_iff.1 ho).1
  | succ fuel ih =>
    intro L E hu hs hd hM hdn hB hE β w a hO hK hse
    have notbl : ∀ m i, i < m → i ∈ bl → L.getD i false = false := by
      intro m
      induction m with
      | zero => intro i h; omega
      | succ m ihm =>
        intro i him hi
        obtain ⟨k, hk, hb⟩ := List.any_eq_true.1 (hbl i hi)
        simp only [Bool.and_eq_true, Bool.or_eq_true, Bool.not_eq_true', Nat.blt_eq] at hb
        obtain ⟨o, ho, e, he, hbd, hon⟩ := before_spec hb.1
        have hkf : L.getD k false = false := by
          rcases hb.2 with h | h
          · rw [hM k (by simpa using h.1), h.2]
          · exact ihm k (by omega) (by simpa using h.1)
        cases hl : L.getD i false with
        | false => rfl
        | true =>
          have := hd i o ho hl e he hbd
          rw [hon, hkf] at this
          cases this
    refine ⟨fun hr => ?_, fun i hi => ?_⟩
    · -- something has not come up: something may
      exfalso
      have hex : ∃ i, i < ops.size ∧ L.getD i false = false := by
        refine Classical.byContradiction fun hc => ?_
        have : undone ops L = 0 := List.countP_eq_zero.2 fun i hi => by
          have hi' := List.mem_range.1 hi
          cases hl : L.getD i false with
          | true => simp
          | false => exact absurd ⟨i, hi', hl⟩ hc
        omega
      have rs : ∀ m i, i < m → i < ops.size → L.getD i false = false → ∃ j, j ∈ Region.ready .any ops L := by
        intro m
        induction m with
        | zero => intro i h; omega
        | succ m ihm =>
          intro i him hi hl
          obtain ⟨o, ho⟩ : ∃ o, ops[i]? = some o := ⟨_, Array.getElem?_eq_getElem hi⟩
          by_cases hall : ∀ e ∈ o.after, Region.binds .any e = true → L.getD e.on false = true
          · refine ⟨i, mem_ready.2 ⟨?_, o, ho, hall⟩⟩
            have hi' : i < L.size := by omega
            simpa [hi'] using hl
          · obtain ⟨e, he, hb, hne⟩ : ∃ e, e ∈ o.after ∧ Region.binds .any e = true ∧ ¬ L.getD e.on false = true := by
              refine Classical.byContradiction fun hc => hall fun e he hb => ?_
              exact Classical.byContradiction fun hn => hc ⟨e, he, hb, hn⟩
            have hlt := back i o ho e he hb
            exact ihm e.on (by omega) (by omega) (by simpa using hne)
      obtain ⟨i, hi, hl⟩ := hex
      obtain ⟨j, hj⟩ := rs (i + 1) i (by omega) hi hl
      rw [hr] at hj
      cases hj
    · obtain ⟨h0, o, ho, hall⟩ := mem_ready.1 hi
      have hlt := (Array.getElem?_eq_some_iff.1 ho).1
      have hl : L.getD i false = false := by
        have hi' : i < L.size := by omega
        simpa [hi'] using h0
      have hcnt := undone_set hs hlt hl
      have hs' : (L.setIfInBounds i true).size = ops.size := by simp [hs]
      have hd' := hd.set hi
      have hLi : (L.setIfInBounds i true).getD i false = true := by simp [hs, hlt]
      have hLj : ∀ j, j ≠ i → (L.setIfInBounds i true).getD j false = L.getD j false := fun j hj => getD_set_ne false (Ne.symm hj)
      have looks : lookOk ops B o = true → ∀ t ∈ Oper.looksAt ops o, E t = F t := by
        intro hlk t ht
        have := List.all_eq_true.1 hlk t ht
        rw [Bool.or_eq_true, List.any_eq_true] at this
        rcases this with h | ⟨k, hk, h⟩
        · exact hB t (by simpa using h)
        · simp only [Bool.and_eq_true] at h
          obtain ⟨hbo, hdt⟩ := h
          unfold bindsOn at hbo
          obtain ⟨e, he, hbb⟩ := Array.any_eq_true'.1 hbo
          simp only [Bool.and_eq_true, beq_iff_eq] at hbb
          have hlk := hall e he hbb.1
          rw [hbb.2] at hlk
          cases hdk : dstOf ops k with
          | none => simp [hdk] at hdt
          | some d =>
            simp only [hdk] at hdt
            have : d = t := Nat.eq_of_beq_eq_true hdt
            rw [← this]
            exact hE k hlk d hdk
      have hc := hcov i hlt
      simp only [Bool.or_eq_true] at hc
      have notS : S.contains i = false := by
        cases hS : S.contains i with
        | false => rfl
        | true =>
          have hm := hSM i (by simpa using hS)
          rw [hM i (by simpa using hm), hS] at hl
          cases hl
      have hfu : undone ops (L.setIfInBounds i true) = fuel := by omega
      unfold wpOp
      simp only [ho]
      rw [hse.yld]
      have htn : i ∈ todo ∨ i ∈ nxt := by
        rcases hc with (((h | h) | h) | h) | h
        · rw [notS] at h; cases h
        · have := hdn i (by simpa using h)
          rw [hl] at this; cases this
        · exact .inl (by simpa using h)
        · exact .inr (by simpa using h)
        · exfalso
          have hib : i ∈ bl := by simpa using h
          obtain ⟨k, hk, hb⟩ := List.any_eq_true.1 (hbl i hib)
          simp only [Bool.and_eq_true, Bool.or_eq_true, Bool.not_eq_true', Nat.blt_eq] at hb
          obtain ⟨o', ho', e, he, hbd, hon⟩ := before_spec hb.1
          rw [ho] at ho'
          cases ho'
          have h1 := hall e he hbd
          rw [hon] at h1
          rcases hb.2 with h | h
          · rw [hM k (by simpa using h.1), h.2] at h1; cases h1
          · rw [notbl (k + 1) k (by omega) (by simpa using h.1)] at h1; cases h1
      rcases htn with hti | hni
      · -- one that tells the same
        have ht := htodo i hti
        rw [ho] at ht
        simp only [Bool.and_eq_true, Bool.not_eq_true'] at ht
        have hl' := looks ht.2
        obtain ⟨v, hT, hv⟩ := each_mem hq i hti
        obtain ⟨o', ho', hT⟩ := tells_congr (E' := E) hsel hT (fun o' ho' t htl => by rw [ho] at ho'; cases ho'; exact hl' t htl)
        rw [ho] at ho'
        cases ho'
        have hdst : dstOf ops i = o.dst := by simp [dstOf, ho]
        have go : ∀ w' a' , Own β H w' → Keeps β w' → Sees n (E.put o.dst v) a' → wpAny p .any ops (AQ n β Q) fuel (L.setIfInBounds i true) a' w' := by
          intro w' a' hO' hK' hs2
          refine ih _ (E.put o.dst v) hfu hs' hd' (fun m hm => ?_) (fun j hj => getD_set_true (hdn j hj)) (fun t htB => ?_) (fun j hj d hdj => ?_) β w' a' hO' hK' hs2
          · have hne : m ≠ i := by
              intro e
              have := ht.1
              rw [← e] at this
              simp [hm] at this
            rw [hLj m hne]
            exact hM m hm
          · rw [put_apply]
            split
            · rename_i h; exact hv t (by rw [hdst]; exact h)
            · exact hB t htB
          · rw [put_apply]
            split
            · rename_i h; exact hv d (by rw [hdst]; exact h)
            · rename_i h
              by_cases hji : j = i
              · subst hji; rw [hdst] at hdj; exact absurd hdj h
              · rw [hLj j hji] at hj
                exact hE j hj d hdj
        rcases hT with ⟨hw, hstep⟩ | ⟨hw, hvu⟩
        · rw [hw, if_pos rfl]
          refine .inl (hstep.wp hse hO hK ?_)
          rintro v' H' w' ⟨rfl, rfl⟩ hO' hK'
          exact go w' _ hO' hK' (hse.put _ _)
        · rw [hw, if_neg (by simp)]
          subst hvu
          exact go w _ hO hK (hse.put _ _)
      · -- one that makes or writes
        have ht := hnxt i hni
        rw [ho] at ht
        simp only [Bool.and_eq_true, Bool.not_eq_true'] at ht
        have hl' := looks ht.2
        obtain ⟨o', ho', hT⟩ := each_mem hm i hni
        rw [ho] at ho'
        cases ho'
        obtain ⟨hx, hy⟩ := look_congr (n := n) ho hsel hl'
        have hdst : dstOf ops i = o.dst := by simp [dstOf, ho]
        have go : ∀ v w' a' H' F' dn', SameAt F' (F.put o.dst v) (slotsOf ops B (dn ++ todo ++ S ++ [i])) → dnOk ops i dn dn' = true → Stage p n ops Q Ms B (i :: S) dn' F' H' → Own β H' w' → Keeps β w' → Sees n (E.put o.dst v) a' → wpAny p .any ops (AQ n β Q) fuel (L.setIfInBounds i true) a' w' := by
          intro v w' a' H' F' dn' hsame hdn' hst hO' hK' hs2
          have hin : ∀ j, (L.setIfInBounds i true).getD j false = true → j ∈ dn ++ todo ++ S ++ [i] := by
            intro j hj
            by_cases hji : j = i
            · rw [hji]; simp
            · rw [hLj j hji] at hj
              have hjl : j < ops.size := by
                have : j < L.size := by
                  refine Nat.lt_of_not_le fun hle => ?_
                  simp [Array.getElem?_eq_none hle] at hj
                omega
              have hc2 := hcov j hjl
              simp only [Bool.or_eq_true] at hc2
              rcases hc2 with (((h | h) | h) | h) | h
              · have : j ∈ S := by simpa using h
                simp [this]
              · have : j ∈ dn := by simpa using h
                simp [this]
              · have : j ∈ todo := by simpa using h
                simp [this]
              · have h1 := hnxt j (by simpa using h)
                simp only [Bool.and_eq_true, Bool.not_eq_true'] at h1
                rw [hM j (by simpa using h1.1.1), h1.1.2] at hj
                cases hj
              · rw [notbl (j + 1) j (by omega) (by simpa using h)] at hj
                cases hj
          have hsm := sameAt_mem hsame
          have := hst (L.setIfInBounds i true) (E.put o.dst v) hs' hd' (fun m hm => ?_) ?_ (fun t htB => ?_) (fun j hj d hdj => ?_) β w' a' hO' hK' hs2
          · rw [hfu] at this; exact this
          · by_cases hmi : m = i
            · rw [hmi, hLi]; simp
            · rw [hLj m hmi, hM m hm]
              simp [hmi]
          · -- what is sure to have come up
            simp only [dnOk, List.all_eq_true] at hdn'
            have kd : ∀ q j, ops.size - j ≤ q → j ∈ dn' → (L.setIfInBounds i true).getD j false = true := by
              intro q
              induction q with
              | zero =>
                intro j hq hj
                have h := hdn' j hj
                rw [Bool.or_eq_true, List.any_eq_true] at h
                rcases h with h | ⟨k, hk, h⟩
                · exact getD_set_true (hdn j (by simpa using h))
                · simp only [Bool.and_eq_true] at h
                  obtain ⟨o2, ho2, e, he, hbd, hon⟩ := before_spec h.1
                  have h1 := back k o2 ho2 e he hbd
                  have h2 := (Array.getElem?_eq_some_iff.1 ho2).1
                  omega
              | succ q ihq =>
                intro j hq hj
                have h := hdn' j hj
                rw [Bool.or_eq_true, List.any_eq_true] at h
                rcases h with h | ⟨k, hk, h⟩
                · exact getD_set_true (hdn j (by simpa using h))
                · simp only [Bool.and_eq_true, Bool.or_eq_true, Nat.blt_eq] at h
                  obtain ⟨hbf, h⟩ := h
                  obtain ⟨o2, ho2, e, he, hbd, hon⟩ := before_spec hbf
                  have h1 := back k o2 ho2 e he hbd
                  have hkt : (L.setIfInBounds i true).getD k false = true := by
                    rcases h with h | h
                    · rw [Nat.eq_of_beq_eq_true h]; exact hLi
                    · exact ihq k (by omega) (by simpa using h.1)
                  have := hd' k o2 ho2 hkt e he hbd
                  rw [hon] at this
                  exact this
            exact fun j hj => kd _ j (Nat.le_refl _) hj
          · rw [hsm t (List.mem_append_left _ htB), put_apply, put_apply]
            split
            · rfl
            · exact hB t htB
          · have hmem : d ∈ slotsOf ops B (dn ++ todo ++ S ++ [i]) := List.mem_append_right _ (List.mem_filterMap.2 ⟨j, hin j hj, hdj⟩)
            rw [hsm d hmem, put_apply, put_apply]
            split
            · rfl
            · rename_i h
              by_cases hji : j = i
              · subst hji; rw [hdst] at hdj; exact absurd hdj h
              · rw [hLj j hji] at hj
                exact hE j hj d hdj
        rw [hy]
        rcases hT with ⟨hw, hstep⟩ | ⟨hw, hk⟩
        · rw [hw, if_pos rfl]
          have hstep' : Step p (ev n E) o H fun v H' => ∃ F' dn', SameAt F' (F.put o.dst v) (slotsOf ops B (dn ++ todo ++ S ++ [i])) ∧ dnOk ops i dn dn' = true ∧ Stage p n ops Q Ms B (i :: S) dn' F' H' := by
            unfold Step at hstep ⊢
            rw [hx]
            exact hstep
          refine .inl (hstep'.wp hse hO hK ?_)
          rintro v H' w' ⟨F', dn', h1, h2, h3⟩ hO' hK'
          exact go v w' _ H' F' dn' h1 h2 h3 hO' hK' (hse.put _ _)
        · rw [hw, if_neg (by simp)]
          obtain ⟨F', dn', h1, h2, h3⟩ := hk
          exact go undef w _ H F' dn' h1 h2 h3 hO hK (hse.put _ _)
def sameSet (Ms S S' : List Nat) : Bool := Ms.all fun m => S.contains m == S'.contains m
theorem Stage.other {Ms B S S' dn : List Nat} {F : Env} {H H' : List Box} (h : Stage p n ops Q Ms B S dn F H) (hs : sameSet Ms S S' = true) (hp : H.Perm H') : Stage p n ops Q Ms B S' dn F H' := by
  intro L E h1 h2 h3 h4 h5 h6 β w a hO hB hs2
  refine h L E h1 h2 (fun m hm => ?_) h4 h5 h6 β w a (hO.perm hp.symm) hB hs2
  have := List.all_eq_true.1 hs m hm
  rw [h3 m hm]
  exact (by simpa using this : S.contains m = S'.contains m).symm
def StageRule (p : Program) (n : Nat) (ops : Array Oper) (Ms B : List Nat) (Sg : List Nat → List Nat → Env → List Box → Prop) (Dn : Env → List Box → Prop) : Prop :=
  ∀ (S dn : List Nat) (F : Env) (H : List Box) (todo nxt bl W : List Nat), stageOk ops Ms B S todo nxt dn bl = true → slotsOf ops B (dn ++ todo ++ S) = W → Each (TellsF p n ops H F) todo →
    Each (fun i => OpR p n ops F H i fun F1 H' => ∃ F' dn' S' H2, Sg S' dn' F' H2 ∧ List.Perm H2 H' ∧ sameSet Ms S' (i :: S) = true ∧ ∃ W, slotsOf ops B (dn ++ todo ++ S ++ [i]) = W ∧ SameAt F' F1 W ∧ dnOk ops i dn dn' = true) nxt →
    (nxt.isEmpty = true → ∀ E, SameAt E F W → Dn E H) → Sg S dn F H
theorem each_mono {P P' : Nat → Prop} (h : ∀ i, P i → P' i) : ∀ {l : List Nat}, Each P l → Each P' l
  | [], _ => trivial
  | i :: l, ⟨h1, h2⟩ => ⟨h i h1, each_mono h h2⟩
theorem ac_stage {id : Nat} {E : Env} {H : List Box} (hm : p.follows .mixedOrders = true) (Ms B : List Nat) (F : Env)
    (h : ∀ Sg Dn, StageRule p n ops Ms B Sg Dn → (∀ E H, Q .normal E H → Dn E H) → Sg [] [] F H) (hF : SameAt F E B) : AC p n (.region id ops true) Q E H := by
  have h := h (Stage p n ops Q Ms B) (fun E H => Q .normal E H) (by
    intro S dn F H todo nxt bl W hok hW hq hm hfin
    refine stage_rule todo nxt bl hok hq (each_mono (fun i hi => ?_) hm) (fun hn E hE => hfin (by rw [hn]; rfl) E (sameAt_of (by rw [← hW]; exact hE)))
    obtain ⟨o, ho, hi⟩ := hi
    refine ⟨o, ho, ?_⟩
    rcases hi with ⟨hw, hst⟩ | ⟨hw, hk⟩
    · exact .inl ⟨hw, hst.mono fun v H' ⟨F', dn', S', H2, h1, hp, hss, W', h2, h3, h4⟩ => ⟨F', dn', by rw [h2]; exact h3, h4, h1.other hss hp⟩⟩
    · obtain ⟨F', dn', S', H2, h1, hp, hss, W', h2, h3, h4⟩ := hk
      exact .inr ⟨hw, F', dn', by rw [h2]; exact h3, h4, h1.other hss hp⟩) (fun E H h => h)
  intro β w a hO hB hs
  refine wp_region_any hm ?_
  have hnone : ∀ i, (Array.replicate ops.size false).getD i false = false := by
    intro i
    simp only [Array.getD_eq_getD_getElem?, Array.getElem?_replicate]
    split <;> rfl
  have := h (Array.replicate ops.size false) E (by simp) (fun i o ho hl => by rw [hnone] at hl; cases hl) (fun m hm => by rw [hnone]; rfl) (fun i hi => by cases hi) (fun t ht => (sameAt_mem hF t ht).symm) (fun i hi => by rw [hnone] at hi; cases hi) β { w with drawn := w.drawn + 1 } a hO.drew hB.drew hs
  have hu : undone ops (Array.replicate ops.size false) = ops.size := by
    unfold undone
    rw [List.countP_eq_length.2 (fun i _ => by rw [hnone]; rfl)]
    simp
  rw [hu] at this
  exact this
theorem tf_op {H : List Box} {F : Env} {i d : Nat} {o : Oper} (v : Value) (ho : ops[i]? = some o) (hg : o.guard = none) (hd : o.dst = some d) (hs : Step p (ev n F) o H fun v' H' => v' = v ∧ H' = H) (hF : v = F d) : TellsF p n ops H F i :=
  ⟨v, ⟨o, ho, .inl ⟨by unfold yld; rw [hg], hs⟩⟩, fun d' hd' => by simp only [dstOf, ho, Option.bind_some, hd, Option.some.injEq] at hd'; rw [← hd']; exact hF⟩
theorem tf_gd {H : List Box} {F : Env} {i d : Nat} {o : Oper} (v : Value) (ho : ops[i]? = some o) (hg : yld n ops F o = true) (hd : o.dst = some d) (hs : Step p (ev n F) o H fun v' H' => v' = v ∧ H' = H) (hF : v = F d) : TellsF p n ops H F i :=
  ⟨v, ⟨o, ho, .inl ⟨hg, hs⟩⟩, fun d' hd' => by simp only [dstOf, ho, Option.bind_some, hd, Option.some.injEq] at hd'; rw [← hd']; exact hF⟩
theorem tf_sk {H : List Box} {F : Env} {i d : Nat} {o : Oper} (ho : ops[i]? = some o) (hg : yld n ops F o = false) (hd : o.dst = some d) (hF : undef = F d) : TellsF p n ops H F i :=
  ⟨undef, ⟨o, ho, .inr ⟨hg, rfl⟩⟩, fun d' hd' => by simp only [dstOf, ho, Option.bind_some, hd, Option.some.injEq] at hd'; rw [← hd']; exact hF⟩
theorem ac_env {id : Nat} {E : Env} {H : List Box} (h : ∀ E1, E1 = E → AC p n (.region id ops true) Q E1 H) : AC p n (.region id ops true) Q E H := h E rfl
end
end Go.Proofs.Ythngkopcadlciaa
namespace Go.Proofs.Ythngkopcadlciaa
theorem w64_nat {i k : Nat} (h : i + k ≤ 1000000) : w64 ((i : Int) + (k : Int)) = ((i + k : Nat) : Int) := by
  rw [w64_id (by omega)]
  omega
end Go.Proofs.Ythngkopcadlciaa