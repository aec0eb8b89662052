import Derived.Test.YthngkopcadlciaaSlope
set_option linter.unusedVariables false
set_option linter.unusedSimpArgs false
namespace Go.Proofs.Ythngkopcadlciaa
open Go.RowKit

attribute [local irreducible] AC AR DWalk
def known4_b0  (g : Nat) : Box := ⟨g, [.int .i64 ((ivWhole 1).lo), .int .i64 ((ivWhole 1).hi), .bool ((ivWhole 1).no), .int .i64 ((ivWhole 2).lo), .int .i64 ((ivWhole 2).hi), .bool ((ivWhole 2).no), .int .i64 ((ivWhole 3).lo), .int .i64 ((ivWhole 3).hi), .bool ((ivWhole 3).no)], 26, true⟩
def known4  : Bool := (bif decide ((horner [(ivWhole 1), (ivWhole 2), (ivWhole 3)] (ivWhole 2)) = (ivWhole 17)) then ivRight (ivWhole 17) else false)
set_option maxRecDepth 100000 in
theorem c_known4  : Gets Try.prog 23 #[] ((fun (r : Bool) => (.bool r : Value)) known4) := by
  refine gets_fin Try.func23 rfl rfl rfl ?_
  refine ac_seq ?_
  refine ac_region_lit ?_
  refine ao 0 rfl rfl (st_assign (v := .bool false) rfl rfl ?_)
  refine ar_nil ?_
  refine ac_seq ?_
  refine ac_region_lit ?_
  refine ao 1 rfl rfl (st_cf (vs := [.int .i64 1]) (r := .agg #[.int .i64 ((ivWhole 1).lo), .int .i64 ((ivWhole 1).hi), .bool ((ivWhole 1).no)]) (c_ivWhole 1) Try.func21 rfl (by decide) rfl rfl rfl ?_)
  refine ao 2 rfl rfl (st_cf (vs := [.int .i64 2]) (r := .agg #[.int .i64 ((ivWhole 2).lo), .int .i64 ((ivWhole 2).hi), .bool ((ivWhole 2).no)]) (c_ivWhole 2) Try.func21 rfl (by decide) rfl rfl rfl ?_)
  refine ao 3 rfl rfl (st_cf (vs := [.int .i64 3]) (r := .agg #[.int .i64 ((ivWhole 3).lo), .int .i64 ((ivWhole 3).hi), .bool ((ivWhole 3).no)]) (c_ivWhole 3) Try.func21 rfl (by decide) rfl rfl rfl ?_)
  refine ao 4 rfl rfl (st_bs (us := [(0, .agg #[.int .i64 ((ivWhole 1).lo), .int .i64 ((ivWhole 1).hi), .bool ((ivWhole 1).no)]), (1, .agg #[.int .i64 ((ivWhole 2).lo), .int .i64 ((ivWhole 2).hi), .bool ((ivWhole 2).no)]), (2, .agg #[.int .i64 ((ivWhole 3).lo), .int .i64 ((ivWhole 3).hi), .bool ((ivWhole 3).no)])]) (cs := [.int .i64 ((ivWhole 1).lo), .int .i64 ((ivWhole 1).hi), .bool ((ivWhole 1).no), .int .i64 ((ivWhole 2).lo), .int .i64 ((ivWhole 2).hi), .bool ((ivWhole 2).no), .int .i64 ((ivWhole 3).lo), .int .i64 ((ivWhole 3).hi), .bool ((ivWhole 3).no)]) rfl rfl (bs24_3_0a_1a_2a _ _ _ _ _ _ _ _ _) fun g0 => ?_)
  refine ao 5 rfl rfl (st_cf (vs := [.int .i64 2]) (r := .agg #[.int .i64 ((ivWhole 2).lo), .int .i64 ((ivWhole 2).hi), .bool ((ivWhole 2).no)]) (c_ivWhole 2) Try.func21 rfl (by decide) rfl rfl rfl ?_)
  refine ao 6 rfl rfl (st_gr (vs := [.slice (some ⟨g0, 0, none⟩) 3 3, .agg #[.int .i64 ((ivWhole 2).lo), .int .i64 ((ivWhole 2).hi), .bool ((ivWhole 2).no)]]) (R := [(known4_b0 g0)]) (r := .agg #[.int .i64 ((horner [(ivWhole 1), (ivWhole 2), (ivWhole 3)] (ivWhole 2)).lo), .int .i64 ((horner [(ivWhole 1), (ivWhole 2), (ivWhole 3)] (ivWhole 2)).hi), .bool ((horner [(ivWhole 1), (ivWhole 2), (ivWhole 3)] (ivWhole 2)).no)]) (c_horner (ivWhole 1) [(ivWhole 2), (ivWhole 3)] 3 g0 ([]) (ivWhole 2) (Nat.le_of_ble_eq_true rfl) (Nat.le_of_ble_eq_true rfl)) Try.func22 rfl (by decide) rfl rfl rfl (has_cons 0 _ rfl rfl rfl rfl has_nil) (by simp) ?_)
  refine ao 7 rfl rfl (st_cf (vs := [.int .i64 17]) (r := .agg #[.int .i64 ((ivWhole 17).lo), .int .i64 ((ivWhole 17).hi), .bool ((ivWhole 17).no)]) (c_ivWhole 17) Try.func21 rfl (by decide) rfl rfl rfl ?_)
  refine ao 8 rfl rfl (st_bi (u := .agg #[.int .i64 ((horner [(ivWhole 1), (ivWhole 2), (ivWhole 3)] (ivWhole 2)).lo), .int .i64 ((horner [(ivWhole 1), (ivWhole 2), (ivWhole 3)] (ivWhole 2)).hi), .bool ((horner [(ivWhole 1), (ivWhole 2), (ivWhole 3)] (ivWhole 2)).no)]) (v := .agg #[.int .i64 ((ivWhole 17).lo), .int .i64 ((ivWhole 17).hi), .bool ((ivWhole 17).no)]) (r := .bool (decide ((horner [(ivWhole 1), (ivWhole 2), (ivWhole 3)] (ivWhole 2)) = (ivWhole 17)))) rfl rfl rfl (beql_26 (horner [(ivWhole 1), (ivWhole 2), (ivWhole 3)] (ivWhole 2)) (ivWhole 17) rfl) ?_)
  refine ao 9 rfl rfl (st_move (v := .bool (decide ((horner [(ivWhole 1), (ivWhole 2), (ivWhole 3)] (ivWhole 2)) = (ivWhole 17)))) rfl rfl ?_)
  refine bool_split (decide ((horner [(ivWhole 1), (ivWhole 2), (ivWhole 3)] (ivWhole 2)) = (ivWhole 17))) (fun h1 => ?_) (fun h1 => ?_)
  · refine ar_gd (d := (some 10)) (by show ((decide ((horner [(ivWhole 1), (ivWhole 2), (ivWhole 3)] (ivWhole 2)) = (ivWhole 17))) == true) = true; rw [h1]; rfl) rfl (st_cf (vs := [.int .i64 17]) (r := .agg #[.int .i64 ((ivWhole 17).lo), .int .i64 ((ivWhole 17).hi), .bool ((ivWhole 17).no)]) (c_ivWhole 17) Try.func21 rfl (by decide) rfl rfl rfl ?_)
    refine ar_gd (d := (some 11)) (by show ((decide ((horner [(ivWhole 1), (ivWhole 2), (ivWhole 3)] (ivWhole 2)) = (ivWhole 17))) == true) = true; rw [h1]; rfl) rfl (st_cf (vs := [.agg #[.int .i64 ((ivWhole 17).lo), .int .i64 ((ivWhole 17).hi), .bool ((ivWhole 17).no)]]) (r := .bool (ivRight (ivWhole 17))) (c_ivRight (ivWhole 17)) Try.func25 rfl (by decide) rfl rfl rfl ?_)
    refine ao 12 rfl rfl (st_pkt' (b := decide ((horner [(ivWhole 1), (ivWhole 2), (ivWhole 3)] (ivWhole 2)) = (ivWhole 17))) (v := .bool (ivRight (ivWhole 17))) h1 rfl rfl rfl ?_)
    refine ao 0 rfl rfl (st_assign (v := .bool (ivRight (ivWhole 17))) rfl rfl ?_)
    refine ar_nil ?_
    refine ac_ret ?_
    exact fin_eq (v := .bool (ivRight (ivWhole 17))) (by show _ = (fun (r : Bool) => (.bool r : Value)) known4; rw [known4, h1] <;> rfl) (fin_ret (res_tmp rfl rfl))
  · refine ar_sk (d := (some 10)) (by show ((decide ((horner [(ivWhole 1), (ivWhole 2), (ivWhole 3)] (ivWhole 2)) = (ivWhole 17))) == true) = false; rw [h1]; rfl) rfl ?_
    refine ar_sk (d := (some 11)) (by show ((decide ((horner [(ivWhole 1), (ivWhole 2), (ivWhole 3)] (ivWhole 2)) = (ivWhole 17))) == true) = false; rw [h1]; rfl) rfl ?_
    refine ao 12 rfl rfl (st_pkf' (b := decide ((horner [(ivWhole 1), (ivWhole 2), (ivWhole 3)] (ivWhole 2)) = (ivWhole 17))) (v := .bool false) h1 rfl rfl rfl ?_)
    refine ao 0 rfl rfl (st_assign (v := .bool false) rfl rfl ?_)
    refine ar_nil ?_
    refine ac_ret ?_
    exact fin_eq (v := .bool false) (by show _ = (fun (r : Bool) => (.bool r : Value)) known4; rw [known4, h1] <;> rfl) (fin_ret (res_tmp rfl rfl))
end Go.Proofs.Ythngkopcadlciaa
