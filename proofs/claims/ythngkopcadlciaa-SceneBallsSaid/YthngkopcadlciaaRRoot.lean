import Derived.Test.YthngkopcadlciaaRNum
set_option linter.unusedVariables false
set_option linter.unusedSimpArgs false
namespace Go.Proofs.Ythngkopcadlciaa
open Go.RowKit

attribute [local irreducible] AC AR DWalk
def rRootLoop (n : Int) : Nat → Int → Int
  | 0, r => r
  | j + 1, r => bif decide ((w64 ((w64 (r + (w64 (1 * 2 ^ (min (Int.toNat (IntKind.u64.wrap (j : Int))) 64))))) * (w64 (r + (w64 (1 * 2 ^ (min (Int.toNat (IntKind.u64.wrap (j : Int))) 64))))))) ≤ n) then rRootLoop n j (w64 (r + (w64 (1 * 2 ^ (min (Int.toNat (IntKind.u64.wrap (j : Int))) 64))))) else rRootLoop n j r
set_option maxRecDepth 100000 in
theorem c_rRoot_loop (n : Int) (up : Bool) {Q : Exit → Env → List Box → Prop} {H : List Box} {c : Code} (hc : Try.f113.body.bind loopOf = some c) : ∀ (j : Nat) (r k : Int) (E : Env), j ≤ 64 → k = (j : Int) - 1 → E 1 = .bool up → E 6 = .int .i64 n → E 7 = .int .i64 r → E 8 = .int .i64 k →
    (∀ E' : Env, E' 1 = .bool up → E' 6 = .int .i64 n → E' 7 = .int .i64 (rRootLoop n j r) → Q (.exit 0) E' H) → ARounds Try.prog 48 c Q (j + 1) E H := by
  rw [show Try.f113.body.bind loopOf = some _ from rfl] at hc
  cases hc
  intro j
  induction j with
  | zero =>
    intro r k E hj hk h1 h6 h7 h8 hn
    obtain rfl : k = -1 := by omega
    obtain ⟨E0, rfl⟩ := env4 h1 h6 h7 h8
    refine ar_round ?_
    refine ac_seq ?_
    refine ac_seq ?_
    refine ac_region_lit ?_
    refine ao 19 rfl rfl (st_move (v := .int .i64 (-1)) rfl rfl ?_)
    refine ao 20 rfl rfl (st_bi (u := .int .i64 (-1)) (v := .int .i64 0) (r := .bool false) rfl rfl rfl (bi_geq (by decide)) ?_)
    refine ar_nil ?_
    refine ac_else rfl ?_
    refine ac_exit ?_
    exact hn _ rfl rfl rfl
  | succ j ih =>
    intro r k E hj hk h1 h6 h7 h8 hn
    obtain rfl : k = (j : Int) := by omega
    obtain ⟨E0, rfl⟩ := env4 h1 h6 h7 h8
    have h0 : decide ((j : Int) ≥ 0) = true := decide_eq_true (by omega)
    refine ar_round ?_
    cases h9 : decide ((w64 ((w64 (r + (w64 (1 * 2 ^ (min (Int.toNat (IntKind.u64.wrap (j : Int))) 64))))) * (w64 (r + (w64 (1 * 2 ^ (min (Int.toNat (IntKind.u64.wrap (j : Int))) 64))))))) ≤ n) with
    | false =>
      refine ac_seq ?_
      refine ac_seq ?_
      refine ac_region_lit ?_
      refine ao 19 rfl rfl (st_move (v := .int .i64 (j : Int)) rfl rfl ?_)
      refine ao 20 rfl rfl (st_bi (u := .int .i64 (j : Int)) (v := .int .i64 0) (r := .bool (decide ((j : Int) ≥ 0))) rfl rfl rfl (bi_geq rfl) ?_)
      refine ar_nil ?_
      refine ac_then' (b := decide ((j : Int) ≥ 0)) h0 rfl ?_
      refine ac_skip ?_
      refine ac_seq ?_
      refine ac_block ?_
      refine ac_seq ?_
      refine ac_region_lit ?_
      refine ao 23 rfl rfl (st_move (v := .int .i64 r) rfl rfl ?_)
      refine ao 24 rfl rfl (st_move (v := .int .i64 (j : Int)) rfl rfl ?_)
      refine ao 25 rfl rfl (st_cv_int (k := .u64) (a := (j : Int)) (c := (IntKind.u64.wrap (j : Int))) Try.underlying144 Try.underlying3 rfl rfl rfl ?_)
      refine ao 26 rfl rfl (st_bi (u := .int .i64 1) (v := .int .u64 (IntKind.u64.wrap (j : Int))) (r := .int .i64 (w64 (1 * 2 ^ (min (Int.toNat (IntKind.u64.wrap (j : Int))) 64)))) rfl rfl rfl (bi_shl rfl (by rw [IntKind.wrap_u64]; omega)) ?_)
      refine ao 27 rfl rfl (st_bi (u := .int .i64 r) (v := .int .i64 (w64 (1 * 2 ^ (min (Int.toNat (IntKind.u64.wrap (j : Int))) 64)))) (r := .int .i64 (w64 (r + (w64 (1 * 2 ^ (min (Int.toNat (IntKind.u64.wrap (j : Int))) 64)))))) rfl rfl rfl (bi_add rfl) ?_)
      refine ao 9 rfl rfl (st_assign (v := .int .i64 (w64 (r + (w64 (1 * 2 ^ (min (Int.toNat (IntKind.u64.wrap (j : Int))) 64)))))) rfl rfl ?_)
      refine ar_nil ?_
      refine ac_seq ?_
      refine ac_region_lit ?_
      refine ao 28 rfl rfl (st_move (v := .int .i64 (w64 (r + (w64 (1 * 2 ^ (min (Int.toNat (IntKind.u64.wrap (j : Int))) 64)))))) rfl rfl ?_)
      refine ao 29 rfl rfl (st_move (v := .int .i64 (w64 (r + (w64 (1 * 2 ^ (min (Int.toNat (IntKind.u64.wrap (j : Int))) 64)))))) rfl rfl ?_)
      refine ao 30 rfl rfl (st_bi (u := .int .i64 (w64 (r + (w64 (1 * 2 ^ (min (Int.toNat (IntKind.u64.wrap (j : Int))) 64)))))) (v := .int .i64 (w64 (r + (w64 (1 * 2 ^ (min (Int.toNat (IntKind.u64.wrap (j : Int))) 64)))))) (r := .int .i64 (w64 ((w64 (r + (w64 (1 * 2 ^ (min (Int.toNat (IntKind.u64.wrap (j : Int))) 64))))) * (w64 (r + (w64 (1 * 2 ^ (min (Int.toNat (IntKind.u64.wrap (j : Int))) 64)))))))) rfl rfl rfl (bi_mul rfl) ?_)
      refine ao 31 rfl rfl (st_move (v := .int .i64 n) rfl rfl ?_)
      refine ao 32 rfl rfl (st_bi (u := .int .i64 (w64 ((w64 (r + (w64 (1 * 2 ^ (min (Int.toNat (IntKind.u64.wrap (j : Int))) 64))))) * (w64 (r + (w64 (1 * 2 ^ (min (Int.toNat (IntKind.u64.wrap (j : Int))) 64)))))))) (v := .int .i64 n) (r := .bool (decide ((w64 ((w64 (r + (w64 (1 * 2 ^ (min (Int.toNat (IntKind.u64.wrap (j : Int))) 64))))) * (w64 (r + (w64 (1 * 2 ^ (min (Int.toNat (IntKind.u64.wrap (j : Int))) 64))))))) ≤ n))) rfl rfl rfl (bi_leq rfl) ?_)
      refine ar_nil ?_
      refine ac_else' (b := decide ((w64 ((w64 (r + (w64 (1 * 2 ^ (min (Int.toNat (IntKind.u64.wrap (j : Int))) 64))))) * (w64 (r + (w64 (1 * 2 ^ (min (Int.toNat (IntKind.u64.wrap (j : Int))) 64))))))) ≤ n)) h9 rfl ?_
      refine ac_skip ?_
      refine ac_region_lit ?_
      refine ao 21 rfl rfl (st_move (v := .int .i64 (j : Int)) rfl rfl ?_)
      refine ao 22 rfl rfl (st_bi (u := .int .i64 (j : Int)) (v := .int .i64 1) (r := .int .i64 (w64 ((j : Int) - 1))) rfl rfl rfl (bi_sub rfl) ?_)
      refine ao 8 rfl rfl (st_assign (v := .int .i64 (w64 ((j : Int) - 1))) rfl rfl ?_)
      refine ar_nil ?_
      refine ih _ _ _ (by omega) (w64_id (by omega)) rfl rfl rfl rfl (fun E' a b c => hn E' a b ?_)
      rw [c, rRootLoop, h9]; rfl
    | true =>
      refine ac_seq ?_
      refine ac_seq ?_
      refine ac_region_lit ?_
      refine ao 19 rfl rfl (st_move (v := .int .i64 (j : Int)) rfl rfl ?_)
      refine ao 20 rfl rfl (st_bi (u := .int .i64 (j : Int)) (v := .int .i64 0) (r := .bool (decide ((j : Int) ≥ 0))) rfl rfl rfl (bi_geq rfl) ?_)
      refine ar_nil ?_
      refine ac_then' (b := decide ((j : Int) ≥ 0)) h0 rfl ?_
      refine ac_skip ?_
      refine ac_seq ?_
      refine ac_block ?_
      refine ac_seq ?_
      refine ac_region_lit ?_
      refine ao 23 rfl rfl (st_move (v := .int .i64 r) rfl rfl ?_)
      refine ao 24 rfl rfl (st_move (v := .int .i64 (j : Int)) rfl rfl ?_)
      refine ao 25 rfl rfl (st_cv_int (k := .u64) (a := (j : Int)) (c := (IntKind.u64.wrap (j : Int))) Try.underlying144 Try.underlying3 rfl rfl rfl ?_)
      refine ao 26 rfl rfl (st_bi (u := .int .i64 1) (v := .int .u64 (IntKind.u64.wrap (j : Int))) (r := .int .i64 (w64 (1 * 2 ^ (min (Int.toNat (IntKind.u64.wrap (j : Int))) 64)))) rfl rfl rfl (bi_shl rfl (by rw [IntKind.wrap_u64]; omega)) ?_)
      refine ao 27 rfl rfl (st_bi (u := .int .i64 r) (v := .int .i64 (w64 (1 * 2 ^ (min (Int.toNat (IntKind.u64.wrap (j : Int))) 64)))) (r := .int .i64 (w64 (r + (w64 (1 * 2 ^ (min (Int.toNat (IntKind.u64.wrap (j : Int))) 64)))))) rfl rfl rfl (bi_add rfl) ?_)
      refine ao 9 rfl rfl (st_assign (v := .int .i64 (w64 (r + (w64 (1 * 2 ^ (min (Int.toNat (IntKind.u64.wrap (j : Int))) 64)))))) rfl rfl ?_)
      refine ar_nil ?_
      refine ac_seq ?_
      refine ac_region_lit ?_
      refine ao 28 rfl rfl (st_move (v := .int .i64 (w64 (r + (w64 (1 * 2 ^ (min (Int.toNat (IntKind.u64.wrap (j : Int))) 64)))))) rfl rfl ?_)
      refine ao 29 rfl rfl (st_move (v := .int .i64 (w64 (r + (w64 (1 * 2 ^ (min (Int.toNat (IntKind.u64.wrap (j : Int))) 64)))))) rfl rfl ?_)
      refine ao 30 rfl rfl (st_bi (u := .int .i64 (w64 (r + (w64 (1 * 2 ^ (min (Int.toNat (IntKind.u64.wrap (j : Int))) 64)))))) (v := .int .i64 (w64 (r + (w64 (1 * 2 ^ (min (Int.toNat (IntKind.u64.wrap (j : Int))) 64)))))) (r := .int .i64 (w64 ((w64 (r + (w64 (1 * 2 ^ (min (Int.toNat (IntKind.u64.wrap (j : Int))) 64))))) * (w64 (r + (w64 (1 * 2 ^ (min (Int.toNat (IntKind.u64.wrap (j : Int))) 64)))))))) rfl rfl rfl (bi_mul rfl) ?_)
      refine ao 31 rfl rfl (st_move (v := .int .i64 n) rfl rfl ?_)
      refine ao 32 rfl rfl (st_bi (u := .int .i64 (w64 ((w64 (r + (w64 (1 * 2 ^ (min (Int.toNat (IntKind.u64.wrap (j : Int))) 64))))) * (w64 (r + (w64 (1 * 2 ^ (min (Int.toNat (IntKind.u64.wrap (j : Int))) 64)))))))) (v := .int .i64 n) (r := .bool (decide ((w64 ((w64 (r + (w64 (1 * 2 ^ (min (Int.toNat (IntKind.u64.wrap (j : Int))) 64))))) * (w64 (r + (w64 (1 * 2 ^ (min (Int.toNat (IntKind.u64.wrap (j : Int))) 64))))))) ≤ n))) rfl rfl rfl (bi_leq rfl) ?_)
      refine ar_nil ?_
      refine ac_then' (b := decide ((w64 ((w64 (r + (w64 (1 * 2 ^ (min (Int.toNat (IntKind.u64.wrap (j : Int))) 64))))) * (w64 (r + (w64 (1 * 2 ^ (min (Int.toNat (IntKind.u64.wrap (j : Int))) 64))))))) ≤ n)) h9 rfl ?_
      refine ac_region_lit ?_
      refine ao 33 rfl rfl (st_move (v := .int .i64 (w64 (r + (w64 (1 * 2 ^ (min (Int.toNat (IntKind.u64.wrap (j : Int))) 64)))))) rfl rfl ?_)
      refine ao 7 rfl rfl (st_assign (v := .int .i64 (w64 (r + (w64 (1 * 2 ^ (min (Int.toNat (IntKind.u64.wrap (j : Int))) 64)))))) rfl rfl ?_)
      refine ar_nil ?_
      refine ac_region_lit ?_
      refine ao 21 rfl rfl (st_move (v := .int .i64 (j : Int)) rfl rfl ?_)
      refine ao 22 rfl rfl (st_bi (u := .int .i64 (j : Int)) (v := .int .i64 1) (r := .int .i64 (w64 ((j : Int) - 1))) rfl rfl rfl (bi_sub rfl) ?_)
      refine ao 8 rfl rfl (st_assign (v := .int .i64 (w64 ((j : Int) - 1))) rfl rfl ?_)
      refine ar_nil ?_
      refine ih _ _ _ (by omega) (w64_id (by omega)) rfl rfl rfl rfl (fun E' a b c => hn E' a b ?_)
      rw [c, rRootLoop, h9]; rfl
def rRoot_e0 (a : Int) (up : Bool) : Int := (bif (w64 ((rRootLoop (w64 (a * 65536)) 24 0) * (rRootLoop (w64 (a * 65536)) 24 0))) != (w64 (a * 65536)) then (w64 ((rRootLoop (w64 (a * 65536)) 24 0) + 1)) else (rRootLoop (w64 (a * 65536)) 24 0))
def rRoot (a : Int) (up : Bool) : Int × Bool := (bif rIn a then (bif decide (a < 0) then (0, false) else (bif up then ((rTold (rRoot_e0 a up)).1, (rTold (rRoot_e0 a up)).2) else ((rTold (rRootLoop (w64 (a * 65536)) 24 0)).1, (rTold (rRootLoop (w64 (a * 65536)) 24 0)).2))) else (0, false))
set_option maxRecDepth 100000 in
theorem c_rRoot (a : Int) (up : Bool) : Gets Try.prog 113 #[.int .i64 a, .bool up] ((fun (r : Int × Bool) => (.tuple #[.int .i64 r.1, .bool r.2] : Value)) (rRoot a up)) := by
  refine gets_fin Try.func113 rfl rfl rfl ?_
  refine ac_seq ?_
  refine ac_region_lit ?_
  refine ao 4 rfl rfl (st_assign (v := .int .i64 0) rfl rfl ?_)
  refine ao 5 rfl rfl (st_assign (v := .bool false) rfl rfl ?_)
  refine ar_nil ?_
  refine ac_seq ?_
  refine ac_seq ?_
  refine ac_region_lit ?_
  refine ao 10 rfl rfl (st_move (v := .int .i64 a) rfl rfl ?_)
  refine ao 11 rfl rfl (st_cf (vs := [.int .i64 a]) (r := .bool (rIn a)) (c_rIn a) Try.func92 rfl (by decide) rfl rfl rfl ?_)
  refine ao 12 rfl rfl (st_un (u := .bool (rIn a)) (v := .bool (!(rIn a))) rfl rfl (un_not rfl) ?_)
  refine ao 13 rfl rfl (st_move (v := .bool (!(rIn a))) rfl rfl ?_)
  refine bool_split (rIn a) (fun h1 => ?_) (fun h1 => ?_)
  · refine ar_gd (d := (some 14)) (by show ((!(rIn a)) == false) = true; rw [h1]; rfl) rfl (st_move (v := .int .i64 a) rfl rfl ?_)
    refine ar_gd (d := (some 15)) (by show ((!(rIn a)) == false) = true; rw [h1]; rfl) rfl (st_bi (u := .int .i64 a) (v := .int .i64 0) (r := .bool (decide (a < 0))) rfl rfl rfl (bi_lss rfl) ?_)
    refine ao 16 rfl rfl (st_pkf' (b := !(rIn a)) (v := .bool (decide (a < 0))) (by rw [h1]; rfl) rfl rfl rfl ?_)
    refine ar_nil ?_
    refine bool_split (decide (a < 0)) (fun h2 => ?_) (fun h2 => ?_)
    · refine ac_then' (b := decide (a < 0)) h2 rfl ?_
      refine ac_seq ?_
      refine ac_region_lit ?_
      refine ao 4 rfl rfl (st_assign (v := .int .i64 0) rfl rfl ?_)
      refine ao 5 rfl rfl (st_assign (v := .bool false) rfl rfl ?_)
      refine ar_nil ?_
      refine ac_ret ?_
      exact fin_eq (v := .tuple #[.int .i64 0, .bool false]) (by show _ = (fun (r : Int × Bool) => (.tuple #[.int .i64 r.1, .bool r.2] : Value)) (rRoot a up); rw [rRoot, h2, h1] <;> rfl) (fin_ret (res_tt rfl rfl rfl))
    · refine ac_else' (b := decide (a < 0)) h2 rfl ?_
      refine ac_skip ?_
      refine ac_seq ?_
      refine ac_region_lit ?_
      refine ao 17 rfl rfl (st_move (v := .int .i64 a) rfl rfl ?_)
      refine ao 18 rfl rfl (st_bi (u := .int .i64 a) (v := .int .i64 65536) (r := .int .i64 (w64 (a * 65536))) rfl rfl rfl (bi_mul rfl) ?_)
      refine ao 6 rfl rfl (st_assign (v := .int .i64 (w64 (a * 65536))) rfl rfl ?_)
      refine ar_nil ?_
      refine ac_seq ?_
      refine ac_region_lit ?_
      refine ao 7 rfl rfl (st_assign (v := .int .i64 0) rfl rfl ?_)
      refine ar_nil ?_
      refine ac_seq ?_
      refine ac_seq ?_
      refine ac_region_lit ?_
      refine ao 8 rfl rfl (st_assign (v := .int .i64 23) rfl rfl ?_)
      refine ar_nil ?_
      refine ac_block ?_
      refine ac_rounds 25 ?_
      refine c_rRoot_loop (n := (w64 (a * 65536))) (up := up) rfl 24 0 _ _ (by decide) rfl rfl rfl rfl rfl (fun E1 q1 q6 q7 => ?_)
      obtain ⟨E0, rfl⟩ := env3 q1 q6 q7
      refine ac_seq ?_
      refine ac_seq ?_
      refine ac_region_lit ?_
      refine ao 34 rfl rfl (st_move (v := .bool up) rfl rfl ?_)
      refine ao 35 rfl rfl (st_move (v := .bool up) rfl rfl ?_)
      refine bool_split (up) (fun h3 => ?_) (fun h3 => ?_)
      · refine ar_gd (d := (some 36)) (by show (up == true) = true; rw [h3]; rfl) rfl (st_move (v := .int .i64 (rRootLoop (w64 (a * 65536)) 24 0)) rfl rfl ?_)
        refine ar_gd (d := (some 37)) (by show (up == true) = true; rw [h3]; rfl) rfl (st_move (v := .int .i64 (rRootLoop (w64 (a * 65536)) 24 0)) rfl rfl ?_)
        refine ar_gd (d := (some 38)) (by show (up == true) = true; rw [h3]; rfl) rfl (st_bi (u := .int .i64 (rRootLoop (w64 (a * 65536)) 24 0)) (v := .int .i64 (rRootLoop (w64 (a * 65536)) 24 0)) (r := .int .i64 (w64 ((rRootLoop (w64 (a * 65536)) 24 0) * (rRootLoop (w64 (a * 65536)) 24 0)))) rfl rfl rfl (bi_mul rfl) ?_)
        refine ar_gd (d := (some 39)) (by show (up == true) = true; rw [h3]; rfl) rfl (st_move (v := .int .i64 (w64 (a * 65536))) rfl rfl ?_)
        refine ar_gd (d := (some 40)) (by show (up == true) = true; rw [h3]; rfl) rfl (st_bi (u := .int .i64 (w64 ((rRootLoop (w64 (a * 65536)) 24 0) * (rRootLoop (w64 (a * 65536)) 24 0)))) (v := .int .i64 (w64 (a * 65536))) (r := .bool ((w64 ((rRootLoop (w64 (a * 65536)) 24 0) * (rRootLoop (w64 (a * 65536)) 24 0))) != (w64 (a * 65536)))) rfl rfl rfl (bi_neq rfl) ?_)
        refine ao 41 rfl rfl (st_pkt' (b := up) (v := .bool ((w64 ((rRootLoop (w64 (a * 65536)) 24 0) * (rRootLoop (w64 (a * 65536)) 24 0))) != (w64 (a * 65536)))) h3 rfl rfl rfl ?_)
        refine ar_nil ?_
        refine ac_mergeE (fun E9 => (((Env.put E9 (some 42) (.int .i64 (rRootLoop (w64 (a * 65536)) 24 0))).put (some 43) (.int .i64 (w64 ((rRootLoop (w64 (a * 65536)) 24 0) + 1)))).put (some 7) (.int .i64 (w64 ((rRootLoop (w64 (a * 65536)) 24 0) + 1))))) (fun E9 => (((Env.put E9 (some 42) (bif (w64 ((rRootLoop (w64 (a * 65536)) 24 0) * (rRootLoop (w64 (a * 65536)) 24 0))) != (w64 (a * 65536)) then (.int .i64 (rRootLoop (w64 (a * 65536)) 24 0) : Value) else E9 42)).put (some 43) (bif (w64 ((rRootLoop (w64 (a * 65536)) 24 0) * (rRootLoop (w64 (a * 65536)) 24 0))) != (w64 (a * 65536)) then (.int .i64 (w64 ((rRootLoop (w64 (a * 65536)) 24 0) + 1)) : Value) else E9 43)).put (some 7) (.int .i64 (rRoot_e0 a up)))) (b := (w64 ((rRootLoop (w64 (a * 65536)) 24 0) * (rRootLoop (w64 (a * 65536)) 24 0))) != (w64 (a * 65536))) rfl (fun hm => ?_) (fun hm => ?_) (fun hm => ?_) ?_
        · refine ac_region_lit ?_
          refine ao 42 rfl rfl (st_move (v := .int .i64 (rRootLoop (w64 (a * 65536)) 24 0)) rfl rfl ?_)
          refine ao 43 rfl rfl (st_bi (u := .int .i64 (rRootLoop (w64 (a * 65536)) 24 0)) (v := .int .i64 1) (r := .int .i64 (w64 ((rRootLoop (w64 (a * 65536)) 24 0) + 1))) rfl rfl rfl (bi_add rfl) ?_)
          refine ao 7 rfl rfl (st_assign (v := .int .i64 (w64 ((rRootLoop (w64 (a * 65536)) 24 0) + 1))) rfl rfl ?_)
          refine ar_nil ?_
          exact ⟨rfl, rfl, rfl⟩
        · unfold rRoot_e0; rw [hm]; rfl
        · unfold rRoot_e0; rw [hm]; exact ((put_self rfl).trans ((put_self rfl).trans (put_self rfl)))
        refine ac_seq ?_
        refine ac_region_lit ?_
        refine ao 44 rfl rfl (st_move (v := .int .i64 (rRoot_e0 a up)) rfl rfl ?_)
        refine ao 45 rfl rfl (st_cf (vs := [.int .i64 (rRoot_e0 a up)]) (r := .tuple #[.int .i64 ((rTold (rRoot_e0 a up)).1), .bool ((rTold (rRoot_e0 a up)).2)]) (c_rTold (rRoot_e0 a up)) Try.func131 rfl (by decide) rfl rfl rfl ?_)
        refine ao 46 rfl rfl (st_ex (vs := [.int .i64 ((rTold (rRoot_e0 a up)).1), .bool ((rTold (rRoot_e0 a up)).2)]) (v := .int .i64 ((rTold (rRoot_e0 a up)).1)) rfl rfl rfl ?_)
        refine ao 47 rfl rfl (st_ex (vs := [.int .i64 ((rTold (rRoot_e0 a up)).1), .bool ((rTold (rRoot_e0 a up)).2)]) (v := .bool ((rTold (rRoot_e0 a up)).2)) rfl rfl rfl ?_)
        refine ao 4 rfl rfl (st_assign (v := .int .i64 ((rTold (rRoot_e0 a up)).1)) rfl rfl ?_)
        refine ao 5 rfl rfl (st_assign (v := .bool ((rTold (rRoot_e0 a up)).2)) rfl rfl ?_)
        refine ar_nil ?_
        refine ac_ret ?_
        exact fin_eq (v := .tuple #[.int .i64 ((rTold (rRoot_e0 a up)).1), .bool ((rTold (rRoot_e0 a up)).2)]) (by show _ = (fun (r : Int × Bool) => (.tuple #[.int .i64 r.1, .bool r.2] : Value)) (rRoot a up); rw [rRoot, h3, h2, h1] <;> rfl) (fin_ret (res_tt rfl rfl rfl))
      · refine ar_sk (d := (some 36)) (by show (up == true) = false; rw [h3]; rfl) rfl ?_
        refine ar_sk (d := (some 37)) (by show (up == true) = false; rw [h3]; rfl) rfl ?_
        refine ar_sk (d := (some 38)) (by show (up == true) = false; rw [h3]; rfl) rfl ?_
        refine ar_sk (d := (some 39)) (by show (up == true) = false; rw [h3]; rfl) rfl ?_
        refine ar_sk (d := (some 40)) (by show (up == true) = false; rw [h3]; rfl) rfl ?_
        refine ao 41 rfl rfl (st_pkf' (b := up) (v := .bool false) h3 rfl rfl rfl ?_)
        refine ar_nil ?_
        refine ac_else rfl ?_
        refine ac_skip ?_
        refine ac_seq ?_
        refine ac_region_lit ?_
        refine ao 44 rfl rfl (st_move (v := .int .i64 (rRootLoop (w64 (a * 65536)) 24 0)) rfl rfl ?_)
        refine ao 45 rfl rfl (st_cf (vs := [.int .i64 (rRootLoop (w64 (a * 65536)) 24 0)]) (r := .tuple #[.int .i64 ((rTold (rRootLoop (w64 (a * 65536)) 24 0)).1), .bool ((rTold (rRootLoop (w64 (a * 65536)) 24 0)).2)]) (c_rTold (rRootLoop (w64 (a * 65536)) 24 0)) Try.func131 rfl (by decide) rfl rfl rfl ?_)
        refine ao 46 rfl rfl (st_ex (vs := [.int .i64 ((rTold (rRootLoop (w64 (a * 65536)) 24 0)).1), .bool ((rTold (rRootLoop (w64 (a * 65536)) 24 0)).2)]) (v := .int .i64 ((rTold (rRootLoop (w64 (a * 65536)) 24 0)).1)) rfl rfl rfl ?_)
        refine ao 47 rfl rfl (st_ex (vs := [.int .i64 ((rTold (rRootLoop (w64 (a * 65536)) 24 0)).1), .bool ((rTold (rRootLoop (w64 (a * 65536)) 24 0)).2)]) (v := .bool ((rTold (rRootLoop (w64 (a * 65536)) 24 0)).2)) rfl rfl rfl ?_)
        refine ao 4 rfl rfl (st_assign (v := .int .i64 ((rTold (rRootLoop (w64 (a * 65536)) 24 0)).1)) rfl rfl ?_)
        refine ao 5 rfl rfl (st_assign (v := .bool ((rTold (rRootLoop (w64 (a * 65536)) 24 0)).2)) rfl rfl ?_)
        refine ar_nil ?_
        refine ac_ret ?_
        exact fin_eq (v := .tuple #[.int .i64 ((rTold (rRootLoop (w64 (a * 65536)) 24 0)).1), .bool ((rTold (rRootLoop (w64 (a * 65536)) 24 0)).2)]) (by show _ = (fun (r : Int × Bool) => (.tuple #[.int .i64 r.1, .bool r.2] : Value)) (rRoot a up); rw [rRoot, h3, h2, h1] <;> rfl) (fin_ret (res_tt rfl rfl rfl))
  · refine ar_sk (d := (some 14)) (by show ((!(rIn a)) == false) = false; rw [h1]; rfl) rfl ?_
    refine ar_sk (d := (some 15)) (by show ((!(rIn a)) == false) = false; rw [h1]; rfl) rfl ?_
    refine ao 16 rfl rfl (st_pkt' (b := !(rIn a)) (v := .bool true) (by rw [h1]; rfl) rfl rfl rfl ?_)
    refine ar_nil ?_
    refine ac_then rfl ?_
    refine ac_seq ?_
    refine ac_region_lit ?_
    refine ao 4 rfl rfl (st_assign (v := .int .i64 0) rfl rfl ?_)
    refine ao 5 rfl rfl (st_assign (v := .bool false) rfl rfl ?_)
    refine ar_nil ?_
    refine ac_ret ?_
    exact fin_eq (v := .tuple #[.int .i64 0, .bool false]) (by show _ = (fun (r : Int × Bool) => (.tuple #[.int .i64 r.1, .bool r.2] : Value)) (rRoot a up); rw [rRoot, h1] <;> rfl) (fin_ret (res_tt rfl rfl rfl))
end Go.Proofs.Ythngkopcadlciaa
