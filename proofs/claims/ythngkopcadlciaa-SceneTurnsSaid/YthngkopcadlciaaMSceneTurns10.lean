import Derived.Test.YthngkopcadlciaaMSceneTurns9
set_option linter.unusedVariables false
set_option linter.unusedSimpArgs false
namespace Go.Proofs.Ythngkopcadlciaa
open Go.RowKit
attribute [local irreducible] AC AR DWalk
set_option maxRecDepth 100000 in
set_option maxHeartbeats 4000000 in
theorem c_near (l : List Shape) (ray : Ray) (b off cap ty : Nat) (cs : List Value) (hlen : l.length ≤ 1000000) (hcs : ∀ i s, l[i]? = some s → (cs.drop (off + i * 12)).take 12 = shapeC s) : Gives Try.prog 57 #[.slice (some ⟨b, off, none⟩) l.length cap, .agg #[.int .i64 ray.o.x.lo, .int .i64 ray.o.x.hi, .bool ray.o.x.no, .int .i64 ray.o.y.lo, .int .i64 ray.o.y.hi, .bool ray.o.y.no, .int .i64 ray.o.z.lo, .int .i64 ray.o.z.hi, .bool ray.o.z.no, .int .i64 ray.d.x.lo, .int .i64 ray.d.x.hi, .bool ray.d.x.no, .int .i64 ray.d.y.lo, .int .i64 ray.d.y.hi, .bool ray.d.y.no, .int .i64 ray.d.z.lo, .int .i64 ray.d.z.hi, .bool ray.d.z.no]] [⟨b, cs, ty, true⟩] (fun u N => u = nearV (sNear l ray) ∧ N = []) := by
  have hcs' : ∀ i s, l[i]? = some s → (cs.drop (off + (0 + i) * 12)).take 12 = shapeC s := fun i s h => by rw [Nat.zero_add]; exact hcs i s h
  refine gives_fin Try.func57 rfl rfl rfl rfl ?_
  refine ac_seq ?_
  refine ac_region_lit ?_
  refine ao 3 rfl rfl (st_box (v := .agg #[.int .i64 ray.o.x.lo, .int .i64 ray.o.x.hi, .bool ray.o.x.no, .int .i64 ray.o.y.lo, .int .i64 ray.o.y.hi, .bool ray.o.y.no, .int .i64 ray.o.z.lo, .int .i64 ray.o.z.hi, .bool ray.o.z.no, .int .i64 ray.d.x.lo, .int .i64 ray.d.x.hi, .bool ray.d.x.no, .int .i64 ray.d.y.lo, .int .i64 ray.d.y.hi, .bool ray.d.y.no, .int .i64 ray.d.z.lo, .int .i64 ray.d.z.hi, .bool ray.d.z.no]) (cs := [.int .i64 ray.o.x.lo, .int .i64 ray.o.x.hi, .bool ray.o.x.no, .int .i64 ray.o.y.lo, .int .i64 ray.o.y.hi, .bool ray.o.y.no, .int .i64 ray.o.z.lo, .int .i64 ray.o.z.hi, .bool ray.o.z.no, .int .i64 ray.d.x.lo, .int .i64 ray.d.x.hi, .bool ray.d.x.no, .int .i64 ray.d.y.lo, .int .i64 ray.d.y.hi, .bool ray.d.y.no, .int .i64 ray.d.z.lo, .int .i64 ray.d.z.hi, .bool ray.d.z.no]) rfl rfl rfl fun g0 => ?_)
  refine ao 4 rfl rfl (st_assign (v := .int .i64 0) rfl rfl ?_)
  refine ao 5 rfl rfl (st_new zero26 rfl fun g1 => ?_)
  refine ao 6 rfl rfl (st_assign (v := .int .i64 0) rfl rfl ?_)
  refine ar_nil ?_
  refine ac_seq ?_
  refine ac_region_lit ?_
  refine ao 17 rfl rfl (st_cf (vs := []) (r := .agg #[.int .i64 ivNone.lo, .int .i64 ivNone.hi, .bool ivNone.no]) c_ivNone Try.func28 rfl (by decide) rfl rfl rfl ?_)
  refine ao 8 rfl rfl (st_new zero26 rfl fun g2 => ?_)
  refine ao 7 rfl rfl (st_assign (v := .int .i64 (-1)) rfl rfl ?_)
  refine ar_op (d := none) rfl rfl (st_sta (g := g2) (off := 0) (us := [.int .i64 ivNone.lo, .int .i64 ivNone.hi, .bool ivNone.no]) (cs := [.int .i64 ivNone.lo, .int .i64 ivNone.hi, .bool ivNone.no]) agg26 0 rfl rfl rfl rfl rfl rfl rfl rfl rfl ?_)
  refine ar_nil ?_
  refine ac_seq ?_
  refine ac_region_lit ?_
  refine ao 9 rfl rfl (st_assign (v := .slice none 0 0) rfl rfl ?_)
  refine ar_nil ?_
  refine ac_seq ?_
  refine ac_seq ?_
  refine ac_region_lit ?_
  refine ao 18 rfl rfl (st_move (v := .slice (some ⟨b, off, none⟩) l.length cap) rfl rfl ?_)
  refine ao 19 rfl rfl (st_ln (a := some ⟨b, off, none⟩) (m := l.length) (c := cap) rfl Try.underlying74 rfl ?_)
  refine ao 20 rfl rfl (st_move (v := .int .i64 0) rfl rfl ?_)
  refine ar_nil ?_
  refine ac_block ?_
  refine ac_rounds (l.length + 1) ?_
  refine near_loop g0 g1 g2 b off l.length cap ty cs ray rfl hlen l 0 0 0 none [] (-1) ivNone [] [] _ (by omega) (Nat.le_refl _) (Row.nil _ _) rfl rfl hcs' rfl rfl rfl rfl rfl rfl rfl rfl (fun hL E' H' e4 e5 e6 hb => ?_) (fun best at_ all hL E' m ca aa NA xs hm hxs hmb hrow f3 f5 f7 f8 f9 f18 f19 f20 => ?_)
  · obtain ⟨i5, x5, hi5, hg5, hc5⟩ := hb
    exact fing_v (fin_ret (res_tct (x := .int .i64 (-1)) (y := .int .i64 0) (g := g1) (vs := cel ivNone) agg26 i5 rfl e4 e5 hi5 hg5 (by rw [hc5]; rfl) hc5 e6)) (congrArg nearV (show (-1, ivNone, 0) = sNear l ray from by rw [sNear, hL]))
  obtain ⟨E0, rfl⟩ : ∃ E0 : Env, E' = (((((E0.put (some 3) (.pointer (some ⟨g0, 0, none⟩))).put (some 5) (.pointer (some ⟨g1, 0, none⟩))).put (some 7) (.int .i64 best)).put (some 8) (.pointer (some ⟨g2, 0, none⟩))).put (some 9) (.slice aa m ca)) := ⟨E', by rw [put_self f3, put_self f5, put_self f7, put_self f8, put_self f9]⟩
  refine ac_seq ?_
  refine ac_seq ?_
  refine ac_region_lit ?_
  refine ao 55 rfl rfl (st_move (v := .int .i64 best) rfl rfl ?_)
  refine ao 56 rfl rfl (st_bi (u := .int .i64 best) (v := .int .i64 0) (r := .bool (decide (best < 0))) rfl rfl rfl (bi_lss rfl) ?_)
  refine ar_nil ?_
  refine bool_split (decide (best < 0)) (fun h1 => ?_) (fun h1 => ?_)
  · refine ac_then' (b := decide (best < 0)) h1 rfl ?_
    refine ac_seq ?_
    refine ac_region_lit ?_
    refine ao 57 rfl rfl (st_cf (vs := []) (r := .agg #[.int .i64 ivNone.lo, .int .i64 ivNone.hi, .bool ivNone.no]) c_ivNone Try.func28 rfl (by decide) rfl rfl rfl ?_)
    refine ao 4 rfl rfl (st_assign (v := .int .i64 (-1)) rfl rfl ?_)
    refine ar_op (d := none) rfl rfl (st_sta (g := g1) (off := 0) (us := [.int .i64 ivNone.lo, .int .i64 ivNone.hi, .bool ivNone.no]) (cs := [.int .i64 ivNone.lo, .int .i64 ivNone.hi, .bool ivNone.no]) agg26 1 rfl rfl rfl rfl rfl rfl rfl rfl rfl ?_)
    refine ao 6 rfl rfl (st_assign (v := .int .i64 2) rfl rfl ?_)
    refine ar_nil ?_
    refine ac_ret ?_
    exact fing_v (fin_ret (res_tct (vs := [.int .i64 ivNone.lo, .int .i64 ivNone.hi, .bool ivNone.no]) agg26 1 rfl rfl rfl rfl rfl rfl rfl rfl)) (congrArg nearV (show (((-1), ivNone, 2) : Int × Iv × Int) = sNear l ray from by rw [sNear, hL]; simp only [h1, cond_true, cond_false]))
  · refine ac_else' (b := decide (best < 0)) h1 rfl ?_
    refine ac_skip ?_
    refine ac_seq ?_
    refine ac_region_lit ?_
    refine ao 14 rfl rfl (st_assign (v := .int .i64 0) rfl rfl ?_)
    refine ar_nil ?_
    refine ac_seq ?_
    refine ac_seq ?_
    refine ac_region_lit ?_
    refine ao 58 rfl rfl (st_move (v := .slice aa m ca) rfl rfl ?_)
    refine ao 59 rfl rfl (st_ln (a := aa) (m := m) (c := ca) rfl Try.underlying24 rfl ?_)
    refine ao 60 rfl rfl (st_move (v := .int .i64 0) rfl rfl ?_)
    refine ar_nil ?_
    refine ac_block ?_
    refine ac_rounds (all.length + 1) ?_
    refine near_loop2 g1 g2 m ca aa NA best at_ all xs _ b g0 ty cs ray rfl hrow (by omega) hm hxs rfl rfl rfl rfl rfl rfl rfl rfl (fun cnt hcnt E' T f5 f7 f8 f9 f14 f58 f59 f60 => ?_)
    refine ac_drop (H := [⟨g2, cel at_, 26, false⟩, ⟨g1, [.int .i64 0, .int .i64 0, .bool false], 26, false⟩]) (List.sublist_append_left _ _) ?_
    obtain ⟨E0, rfl⟩ : ∃ E0 : Env, E' = (((((E0.put (some 5) (.pointer (some ⟨g1, 0, none⟩))).put (some 7) (.int .i64 best)).put (some 8) (.pointer (some ⟨g2, 0, none⟩))).put (some 9) (.slice aa m ca)).put (some 14) (.int .i64 cnt)) := ⟨E', by rw [put_self f5, put_self f7, put_self f8, put_self f9, put_self f14]⟩
    refine ac_seq ?_
    refine ac_seq ?_
    refine ac_region_lit ?_
    refine ao 72 rfl rfl (st_move (v := .int .i64 cnt) rfl rfl ?_)
    refine ao 73 rfl rfl (st_bi (u := .int .i64 cnt) (v := .int .i64 1) (r := .int .i64 (w64 (cnt + 1))) rfl rfl rfl (bi_add rfl) ?_)
    refine ao 74 rfl rfl (st_move (v := .slice aa m ca) rfl rfl ?_)
    refine ao 75 rfl rfl (st_ln (a := aa) (m := m) (c := ca) rfl Try.underlying24 rfl ?_)
    refine ao 76 rfl rfl (st_bi (u := .int .i64 (w64 (cnt + 1))) (v := .int .i64 (m : Int)) (r := .bool (decide ((w64 (cnt + 1)) < (m : Int)))) rfl rfl rfl (bi_lss rfl) ?_)
    refine ar_nil ?_
    refine bool_split (decide ((w64 (cnt + 1)) < (m : Int))) (fun h2 => ?_) (fun h2 => ?_)
    · refine ac_then' (b := decide ((w64 (cnt + 1)) < (m : Int))) h2 rfl ?_
      refine ac_seq ?_
      refine ac_region_lit ?_
      refine ao 77 rfl rfl (st_cf (vs := []) (r := .agg #[.int .i64 ivNone.lo, .int .i64 ivNone.hi, .bool ivNone.no]) c_ivNone Try.func28 rfl (by decide) rfl rfl rfl ?_)
      refine ao 4 rfl rfl (st_assign (v := .int .i64 (-1)) rfl rfl ?_)
      refine ar_op (d := none) rfl rfl (st_sta (g := g1) (off := 0) (us := [.int .i64 ivNone.lo, .int .i64 ivNone.hi, .bool ivNone.no]) (cs := [.int .i64 ivNone.lo, .int .i64 ivNone.hi, .bool ivNone.no]) agg26 1 rfl rfl rfl rfl rfl rfl rfl rfl rfl ?_)
      refine ao 6 rfl rfl (st_assign (v := .int .i64 0) rfl rfl ?_)
      refine ar_nil ?_
      refine ac_ret ?_
      exact fing_v (fin_ret (res_tct (vs := [.int .i64 ivNone.lo, .int .i64 ivNone.hi, .bool ivNone.no]) agg26 1 rfl rfl rfl rfl rfl rfl rfl rfl)) (congrArg nearV (show (((-1), ivNone, 0) : Int × Iv × Int) = sNear l ray from by rw [sNear, hL]; rw [hcnt, hm] at h2; simp only [h1, h2, cond_true, cond_false]))
    · refine ac_else' (b := decide ((w64 (cnt + 1)) < (m : Int))) h2 rfl ?_
      refine ac_skip ?_
      refine ac_seq ?_
      refine ac_draw0 (id := 25) [0, 1, 2] [3, 4] _ (by kernel_rfl) follows rfl  ?_
      refine dw_op (d := (some 78)) (.int .i64 best) rfl rfl rfl (st_move (v := .int .i64 best) rfl rfl ⟨rfl, rfl⟩) ?_
      refine dw_op (d := (some 79)) (.agg #[.int .i64 at_.lo, .int .i64 at_.hi, .bool at_.no]) rfl rfl rfl (st_lda (g := g2) (off := 0) (vs := [.int .i64 at_.lo, .int .i64 at_.hi, .bool at_.no]) agg26 0 rfl rfl rfl rfl rfl rfl ⟨rfl, rfl⟩) ?_
      refine dw_op (d := (some 4)) (.int .i64 best) rfl rfl rfl (st_assign (v := .int .i64 best) rfl rfl ⟨rfl, rfl⟩) ?_
      refine dw_nil ?_
      refine ar_op (d := none) rfl rfl (st_sta (g := g1) (off := 0) (us := [.int .i64 at_.lo, .int .i64 at_.hi, .bool at_.no]) (cs := [.int .i64 at_.lo, .int .i64 at_.hi, .bool at_.no]) agg26 1 rfl rfl rfl rfl rfl rfl rfl rfl rfl ?_)
      refine ao 6 rfl rfl (st_assign (v := .int .i64 1) rfl rfl ?_)
      refine ar_nil ?_
      refine ac_ret ?_
      exact fing_v (fin_ret (res_tct (vs := [.int .i64 at_.lo, .int .i64 at_.hi, .bool at_.no]) agg26 1 rfl rfl rfl rfl rfl rfl rfl rfl)) (congrArg nearV (show ((best, at_, 1) : Int × Iv × Int) = sNear l ray from by rw [sNear, hL]; rw [hcnt, hm] at h2; simp only [h1, h2, cond_true, cond_false]))
end Go.Proofs.Ythngkopcadlciaa
namespace Go.Proofs.Ythngkopcadlciaa
open Go.RowKit
def flatS (l : List Shape) : List Value := l.flatMap shapeC
theorem flatS_append (a b : List Shape) : flatS (a ++ b) = flatS a ++ flatS b := by simp [flatS]
theorem flatS_length (l : List Shape) : (flatS l).length = 12 * l.length := by
  induction l with
  | nil => rfl
  | cons a l ih =>
    have e : flatS (a :: l) = shapeC a ++ flatS l := rfl
    have h : (shapeC a).length = 12 := rfl
    rw [e, List.length_append, h, ih, List.length_cons]
    omega
theorem flatS_at : ∀ (zs : List Shape) (r : List Value) (m : Nat) (t : Shape), zs[m]? = some t → ((flatS zs ++ r).drop (m * 12)).take 12 = shapeC t := by
  intro zs
  induction zs with
  | nil => intro r m t h; simp at h
  | cons z zs ih =>
    intro r m t h
    cases m with
    | zero => simp at h; subst h; rfl
    | succ m =>
      have := ih r m t (by simpa using h)
      rw [show (m + 1) * 12 = m * 12 + 12 from by omega, Nat.add_comm (m * 12) 12, ← List.drop_drop]
      exact this
theorem c_nearF (l : List Shape) (ray : Ray) (g cap : Nat) (rest : List Value) (hlen : l.length ≤ 1000000) : Gives Try.prog 57 #[.slice (some ⟨g, 0, none⟩) l.length cap, .agg (rayC ray).toArray] [⟨g, flatS l ++ rest, 86, true⟩] (fun u N => u = nearV (sNear l ray) ∧ N = []) :=
  c_near l ray g 0 cap 86 (flatS l ++ rest) hlen (fun i s h => by rw [Nat.zero_add]; exact flatS_at l rest i s h)
end Go.Proofs.Ythngkopcadlciaa