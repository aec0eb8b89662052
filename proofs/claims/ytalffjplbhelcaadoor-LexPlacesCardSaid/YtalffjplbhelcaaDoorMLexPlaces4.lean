import Derived.Test.YtalffjplbhelcaaDoorMLexPlaces3
import Derived.Test.YtalffjplbhelcaaDoorMLexPlaces1
set_option linter.unusedVariables false
set_option linter.unusedSimpArgs false
namespace Go.Proofs.YtalffjplbhelcaaDoor
open Go.RowKit
attribute [local irreducible] AC AR DWalk
def txWords : List ByteArray := [(⟨#[97]⟩ : ByteArray), (⟨#[108, 101, 110, 115]⟩ : ByteArray), (⟨#[102, 97, 99, 101]⟩ : ByteArray), (⟨#[49]⟩ : ByteArray), (⟨#[45, 50, 46, 53, 48]⟩ : ByteArray), (⟨#[48, 46, 48, 48, 49]⟩ : ByteArray), (⟨#[32]⟩ : ByteArray), (⟨#[32, 32]⟩ : ByteArray), (⟨#[9]⟩ : ByteArray), (⟨#[10]⟩ : ByteArray), (⟨#[10]⟩ : ByteArray), (⟨#[35, 32, 120, 32, 121, 10]⟩ : ByteArray), (⟨#[120, 45, 49]⟩ : ByteArray), (⟨#[66, 95, 57]⟩ : ByteArray), (⟨#[49, 50, 51, 52, 53, 46, 54, 55, 56, 57, 48, 49]⟩ : ByteArray), (⟨#[45]⟩ : ByteArray), (⟨#[46]⟩ : ByteArray), (⟨#[33]⟩ : ByteArray)]
def txW (k : Int) : ByteArray := txWords.getD k.toNat ⟨#[]⟩
theorem tx_at (k : Int) (h : 0 ≤ k ∧ k < 18) : ([.string (⟨#[97]⟩ : ByteArray), .string (⟨#[108, 101, 110, 115]⟩ : ByteArray), .string (⟨#[102, 97, 99, 101]⟩ : ByteArray), .string (⟨#[49]⟩ : ByteArray), .string (⟨#[45, 50, 46, 53, 48]⟩ : ByteArray), .string (⟨#[48, 46, 48, 48, 49]⟩ : ByteArray), .string (⟨#[32]⟩ : ByteArray), .string (⟨#[32, 32]⟩ : ByteArray), .string (⟨#[9]⟩ : ByteArray), .string (⟨#[10]⟩ : ByteArray), .string (⟨#[10]⟩ : ByteArray), .string (⟨#[35, 32, 120, 32, 121, 10]⟩ : ByteArray), .string (⟨#[120, 45, 49]⟩ : ByteArray), .string (⟨#[66, 95, 57]⟩ : ByteArray), .string (⟨#[49, 50, 51, 52, 53, 46, 54, 55, 56, 57, 48, 49]⟩ : ByteArray), .string (⟨#[45]⟩ : ByteArray), .string (⟨#[46]⟩ : ByteArray), .string (⟨#[33]⟩ : ByteArray)] : List Value)[0 + k.toNat * 1]? = some (.string (txW k)) := by
 have h8 : k = 0 ∨ k = 1 ∨ k = 2 ∨ k = 3 ∨ k = 4 ∨ k = 5 ∨ k = 6 ∨ k = 7 ∨ k = 8 ∨ k = 9 ∨ k = 10 ∨ k = 11 ∨ k = 12 ∨ k = 13 ∨ k = 14 ∨ k = 15 ∨ k = 16 ∨ k = 17 := by omega
 rcases h8 with rfl | rfl | rfl | rfl | rfl | rfl | rfl | rfl | rfl | rfl | rfl | rfl | rfl | rfl | rfl | rfl | rfl | rfl <;> rfl
theorem tx_size (k : Int) : (txW k).size ≤ 12 := by
 unfold txW
 by_cases h : k.toNat < 18
 ·have h8 : k.toNat = 0 ∨ k.toNat = 1 ∨ k.toNat = 2 ∨ k.toNat = 3 ∨ k.toNat = 4 ∨ k.toNat = 5 ∨ k.toNat = 6 ∨ k.toNat = 7 ∨ k.toNat = 8 ∨ k.toNat = 9 ∨ k.toNat = 10 ∨ k.toNat = 11 ∨ k.toNat = 12 ∨ k.toNat = 13 ∨ k.toNat = 14 ∨ k.toNat = 15 ∨ k.toNat = 16 ∨ k.toNat = 17 := by omega
  rcases h8 with e | e | e | e | e | e | e | e | e | e | e | e | e | e | e | e | e | e <;> rw [e] <;> decide
 ·rw [List.getD_eq_getElem?_getD, List.getElem?_eq_none (by simp [txWords]; omega)]
  decide
theorem tx_k18 {x : Int} (h : decide (hPick x 60 < 18) = true) : 0 ≤ hPick x 60 ∧ hPick x 60 < 18 := ⟨(hPick_lt x (m := 60) (by omega) (by omega)).1, of_decide_eq_true h⟩
theorem tx_k14 (x : Int) : 0 ≤ Int.tmod (hPick x 60) 14 ∧ Int.tmod (hPick x 60) 14 < 18 := by
 have h := hPick_lt x (m := 60) (by omega) (by omega)
 rw [Int.tmod_eq_emod_of_nonneg h.1]
 omega
theorem abc_in (y : Int) : 0 ≤ w64 (15 + hPick y 11) ∧ w64 (15 + hPick y 11) ≤ (((⟨#[97, 98, 99, 100, 101, 102, 103, 104, 105, 106, 107, 108, 109, 110, 111, 112, 113, 114, 115, 116, 117, 118, 119, 120, 121, 122]⟩ : ByteArray)).size : Int) := by
 have h := hPick_lt y (m := 11) (by omega) (by omega)
 rw [w64_in (by omega)]
 exact ⟨by omega, by show 15 + hPick y 11 ≤ ((26 : Nat) : Int); omega⟩
def txStep (x : Int) (raw t : ByteArray) : ByteArray := (bif decide ((hPick x 60) < 18) then (t ++ (txW (hPick x 60))) else (bif (hPick x 60) == 18 then (t ++ raw) else (bif (hPick x 60) == 19 then (t ++ (subS (⟨#[97, 98, 99, 100, 101, 102, 103, 104, 105, 106, 107, 108, 109, 110, 111, 112, 113, 114, 115, 116, 117, 118, 119, 120, 121, 122]⟩ : ByteArray) 0 (w64 (15 + (hPick (w64 (Int.tdiv x 60)) 11))))) else ((t ++ (txW (Int.tmod (hPick x 60) 14))) ++ (⟨#[32]⟩ : ByteArray)))))
set_option maxRecDepth 100000 in
set_option maxHeartbeats 4000000 in
theorem tx_go (gw m1 c1 i g1 o1 t1 : Nat) (cs1 : List Value) (x1 : Nat → Int) (NA : List Box) (raw t : ByteArray) (hi : i < m1) (h40 : i < 40) (hraw : raw.size ≤ 140737488351232) (ht : t.size ≤ 5629499534050480) (hm1 : (⟨g1, cs1, t1, true⟩ : Box) ∈ NA) (hc1 : cs1[o1 + i * 1]? = some (.int .i64 (x1 i))) {Q : Exit → Env → List Box → Prop} {E : Env} {c : Code} {j : Nat} (hc : Tryd.f12.body.bind loopOf = some c) (q0 : E 0 = .slice (some ⟨g1, o1, none⟩) m1 c1) (q1 : E 1 = .string raw) (q5 : E 5 = .pointer (some ⟨gw, 0, none⟩)) (q6 : E 6 = .string t) (q7 : E 7 = .int .i64 (i : Int)) (K : ∀ E' : Env, E' 0 = .slice (some ⟨g1, o1, none⟩) m1 c1 → E' 1 = .string raw → E' 5 = .pointer (some ⟨gw, 0, none⟩) → E' 6 = .string (txStep (x1 i) raw t) → E' 7 = .int .i64 ((i + 1 : Nat) : Int) → ARounds Tryd.prog 60 c Q j E' ([⟨gw, [.string (⟨#[97]⟩ : ByteArray), .string (⟨#[108, 101, 110, 115]⟩ : ByteArray), .string (⟨#[102, 97, 99, 101]⟩ : ByteArray), .string (⟨#[49]⟩ : ByteArray), .string (⟨#[45, 50, 46, 53, 48]⟩ : ByteArray), .string (⟨#[48, 46, 48, 48, 49]⟩ : ByteArray), .string (⟨#[32]⟩ : ByteArray), .string (⟨#[32, 32]⟩ : ByteArray), .string (⟨#[9]⟩ : ByteArray), .string (⟨#[10]⟩ : ByteArray), .string (⟨#[10]⟩ : ByteArray), .string (⟨#[35, 32, 120, 32, 121, 10]⟩ : ByteArray), .string (⟨#[120, 45, 49]⟩ : ByteArray), .string (⟨#[66, 95, 57]⟩ : ByteArray), .string (⟨#[49, 50, 51, 52, 53, 46, 54, 55, 56, 57, 48, 49]⟩ : ByteArray), .string (⟨#[45]⟩ : ByteArray), .string (⟨#[46]⟩ : ByteArray), .string (⟨#[33]⟩ : ByteArray)], 69, false⟩] ++ NA)) : ARounds Tryd.prog 60 c Q (j + 1) E ([⟨gw, [.string (⟨#[97]⟩ : ByteArray), .string (⟨#[108, 101, 110, 115]⟩ : ByteArray), .string (⟨#[102, 97, 99, 101]⟩ : ByteArray), .string (⟨#[49]⟩ : ByteArray), .string (⟨#[45, 50, 46, 53, 48]⟩ : ByteArray), .string (⟨#[48, 46, 48, 48, 49]⟩ : ByteArray), .string (⟨#[32]⟩ : ByteArray), .string (⟨#[32, 32]⟩ : ByteArray), .string (⟨#[9]⟩ : ByteArray), .string (⟨#[10]⟩ : ByteArray), .string (⟨#[10]⟩ : ByteArray), .string (⟨#[35, 32, 120, 32, 121, 10]⟩ : ByteArray), .string (⟨#[120, 45, 49]⟩ : ByteArray), .string (⟨#[66, 95, 57]⟩ : ByteArray), .string (⟨#[49, 50, 51, 52, 53, 46, 54, 55, 56, 57, 48, 49]⟩ : ByteArray), .string (⟨#[45]⟩ : ByteArray), .string (⟨#[46]⟩ : ByteArray), .string (⟨#[33]⟩ : ByteArray)], 69, false⟩] ++ NA) := by
 rw [show Tryd.f12.body.bind loopOf = some _ from rfl] at hc
 cases hc
 obtain ⟨E0, rfl⟩ : ∃ E0 : Env, E = (((((E0.put (some 0) (.slice (some ⟨g1, o1, none⟩) m1 c1)).put (some 1) (.string raw)).put (some 5) (.pointer (some ⟨gw, 0, none⟩))).put (some 6) (.string t)).put (some 7) (.int .i64 (i : Int))) := ⟨E, by rw [put_self q0, put_self q1, put_self q5, put_self q6, put_self q7]⟩
 refine ar_round (aQ (aQ (aL (aM 10 (.int .i64 (i : Int)) rfl rfl (aM 11 (.slice (some ⟨g1, o1, none⟩) m1 c1) rfl rfl (ao 12 rfl rfl (st_ln (a := some ⟨g1, o1, none⟩) (m := m1) (c := c1) rfl Tryd.underlying33 rfl (aB 13 (.bool (decide ((i : Int) < (m1 : Int)))) rfl rfl rfl (bi_lss rfl) (aM 14 (.bool (decide ((i : Int) < (m1 : Int)))) rfl rfl (ar_gd (d := (some 15)) (by show ((decide ((i : Int) < (m1 : Int))) == true) = true; rw [(decide_eq_true (by omega))]; rfl) rfl (st_move (v := .int .i64 (i : Int)) rfl rfl ?_)))))))))))
 refine ar_gd (d := (some 16)) (by show ((decide ((i : Int) < (m1 : Int))) == true) = true; rw [(decide_eq_true (by omega))]; rfl) rfl (st_bi (r := .bool (decide ((i : Int) < 40))) rfl rfl rfl (bi_lss rfl) (ao 17 rfl rfl (st_pkt' (b := decide ((i : Int) < (m1 : Int))) (v := .bool (decide ((i : Int) < 40))) (decide_eq_true (by omega)) rfl rfl rfl (aN (ac_then' (b := decide ((i : Int) < 40)) (decide_eq_true (by omega)) rfl (ac_skip (aQ (ac_block (aQ (aL (aM 20 (.slice (some ⟨g1, o1, none⟩) m1 c1) rfl rfl (aM 21 (.int .i64 (i : Int)) rfl rfl ?_))))))))))))
 refine ao 22 rfl rfl (st_sa (g := g1) (off := o1) (m := m1) (c := c1) (s := 1) (i := i) rfl Tryd.underlying33 (by kernel_rfl) rfl rfl (by assumption) (ao 23 rfl rfl (st_ldm (g := g1) (off := o1 + i * 1) (v := .int .i64 (x1 i)) cell3 rfl rfl (List.mem_append_right _ hm1) hc1 (aC 24 (c_hPick (x1 i) 60 (by decide)) Tryd.func15 ⟨rfl, by decide⟩ rfl rfl (aA 8 (.int .i64 (hPick (x1 i) 60)) rfl rfl (aN (ac_block (aQ (aL (aM 33 (.int .i64 (hPick (x1 i) 60)) rfl rfl (aB 34 (.bool (decide ((hPick (x1 i) 60) < 18))) rfl rfl rfl (bi_lss rfl) (aA 32 (.bool (decide ((hPick (x1 i) 60) < 18))) rfl rfl (aN ?_)))))))))))))
 refine bool_split (decide ((hPick (x1 i) 60) < 18)) (fun h1 => ?_) (fun h1 => ?_)
 ·refine ac_then' (b := decide ((hPick (x1 i) 60) < 18)) h1 rfl (aL (aM 35 (.string t) rfl rfl (aM 36 (.int .i64 (hPick (x1 i) 60)) rfl rfl (ao 37 rfl rfl (st_iaA (g := gw) (off := 0) (m := 18) (s := 1) (i := (hPick (x1 i) 60)) rfl Tryd.underlying69 (by kernel_rfl) rfl rfl (tx_k18 h1) (aD 38 (.string (txW (hPick (x1 i) 60))) cell9 0 rfl rfl rfl (tx_at _ (tx_k18 h1)) (aB 39 (.string (t ++ (txW (hPick (x1 i) 60)))) rfl rfl rfl (bi_sadd (sz_two ht (tx_size _) (by decide))) (aA 6 (.string (t ++ (txW (hPick (x1 i) 60)))) rfl rfl (aN (aL (aM 18 (.int .i64 (i : Int)) rfl rfl (aB 19 (.int .i64 (w64 ((i : Int) + 1))) rfl rfl rfl (bi_add rfl) ?_))))))))))))
  refine aA 7 (.int .i64 (w64 ((i : Int) + 1))) rfl rfl (aN ?_)
  exact K _ rfl rfl rfl (congrArg Value.string (by rw [txStep, h1]; rfl)) (by show Value.int _ _ = _; rw [w64_in (by omega)]; rfl)
 ·refine ac_else' (b := decide ((hPick (x1 i) 60) < 18)) h1 rfl (aQ (aL (aM 41 (.int .i64 (hPick (x1 i) 60)) rfl rfl (aB 42 (.bool ((hPick (x1 i) 60) == 18)) rfl rfl rfl (bi_eql rfl) (aA 40 (.bool ((hPick (x1 i) 60) == 18)) rfl rfl (aN ?_))))))
  refine bool_split ((hPick (x1 i) 60) == 18) (fun h2 => ?_) (fun h2 => ?_)
  ·refine ac_then' (b := (hPick (x1 i) 60) == 18) h2 rfl (aL (aM 43 (.string t) rfl rfl (aM 44 (.string raw) rfl rfl (aB 45 (.string (t ++ raw)) rfl rfl rfl (bi_sadd (sz_two ht hraw (by decide))) (aA 6 (.string (t ++ raw)) rfl rfl (aN (aL (aM 18 (.int .i64 (i : Int)) rfl rfl (aB 19 (.int .i64 (w64 ((i : Int) + 1))) rfl rfl rfl (bi_add rfl) (aA 7 (.int .i64 (w64 ((i : Int) + 1))) rfl rfl (aN ?_)))))))))))
   exact K _ rfl rfl rfl (congrArg Value.string (by rw [txStep, h1, h2]; rfl)) (by show Value.int _ _ = _; rw [w64_in (by omega)]; rfl)
  ·refine ac_else' (b := (hPick (x1 i) 60) == 18) h2 rfl (aQ (aL (aM 47 (.int .i64 (hPick (x1 i) 60)) rfl rfl (aB 48 (.bool ((hPick (x1 i) 60) == 19)) rfl rfl rfl (bi_eql rfl) (aA 46 (.bool ((hPick (x1 i) 60) == 19)) rfl rfl (aN ?_))))))
   refine bool_split ((hPick (x1 i) 60) == 19) (fun h3 => ?_) (fun h3 => ?_)
   ·refine ac_then' (b := (hPick (x1 i) 60) == 19) h3 rfl (aL (aM 49 (.string t) rfl rfl (aM 50 (.slice (some ⟨g1, o1, none⟩) m1 c1) rfl rfl (aM 51 (.int .i64 (i : Int)) rfl rfl (ao 52 rfl rfl (st_sa (g := g1) (off := o1) (m := m1) (c := c1) (s := 1) (i := i) rfl Tryd.underlying33 (by kernel_rfl) rfl rfl (by assumption) (ao 53 rfl rfl (st_ldm (g := g1) (off := o1 + i * 1) (v := .int .i64 (x1 i)) cell3 rfl rfl (List.mem_append_right _ hm1) hc1 (aB 54 (.int .i64 (w64 (Int.tdiv (x1 i) 60))) rfl rfl rfl (bi_quo (by decide) rfl) (aC 55 (c_hPick (w64 (Int.tdiv (x1 i) 60)) 11 (by decide)) Tryd.func15 ⟨rfl, by decide⟩ rfl rfl ?_))))))))))
    refine aB 56 (.int .i64 (w64 (15 + (hPick (w64 (Int.tdiv (x1 i) 60)) 11)))) rfl rfl rfl (bi_add rfl) (ao 57 rfl rfl (st_ssh (abc_in _) rfl Tryd.underlying9 rfl rfl (aB 58 (.string (t ++ (subS (⟨#[97, 98, 99, 100, 101, 102, 103, 104, 105, 106, 107, 108, 109, 110, 111, 112, 113, 114, 115, 116, 117, 118, 119, 120, 121, 122]⟩ : ByteArray) 0 (w64 (15 + (hPick (w64 (Int.tdiv (x1 i) 60)) 11)))))) rfl rfl rfl (bi_sadd (sz_two ht (subS_le _ _ _ (show ((⟨#[97, 98, 99, 100, 101, 102, 103, 104, 105, 106, 107, 108, 109, 110, 111, 112, 113, 114, 115, 116, 117, 118, 119, 120, 121, 122]⟩ : ByteArray)).size ≤ 26 from Nat.le_refl _)) (by decide))) ?_)))
    refine aA 6 (.string (t ++ (subS (⟨#[97, 98, 99, 100, 101, 102, 103, 104, 105, 106, 107, 108, 109, 110, 111, 112, 113, 114, 115, 116, 117, 118, 119, 120, 121, 122]⟩ : ByteArray) 0 (w64 (15 + (hPick (w64 (Int.tdiv (x1 i) 60)) 11)))))) rfl rfl (aN (aL (aM 18 (.int .i64 (i : Int)) rfl rfl (aB 19 (.int .i64 (w64 ((i : Int) + 1))) rfl rfl rfl (bi_add rfl) (aA 7 (.int .i64 (w64 ((i : Int) + 1))) rfl rfl (aN ?_))))))
    exact K _ rfl rfl rfl (congrArg Value.string (by rw [txStep, h1, h2, h3]; rfl)) (by show Value.int _ _ = _; rw [w64_in (by omega)]; rfl)
   ·refine ac_else' (b := (hPick (x1 i) 60) == 19) h3 rfl (aL (aM 25 (.string t) rfl rfl (aM 26 (.int .i64 (hPick (x1 i) 60)) rfl rfl (aB 27 (.int .i64 (Int.tmod (hPick (x1 i) 60) 14)) rfl rfl rfl (bi_rem (by decide) rfl) (ao 28 rfl rfl (st_iaA (g := gw) (off := 0) (m := 18) (s := 1) (i := (Int.tmod (hPick (x1 i) 60) 14)) rfl Tryd.underlying69 (by kernel_rfl) rfl rfl (tx_k14 _) (aD 29 (.string (txW (Int.tmod (hPick (x1 i) 60) 14))) cell9 0 rfl rfl rfl (tx_at _ (tx_k14 _)) (aB 30 (.string (t ++ (txW (Int.tmod (hPick (x1 i) 60) 14)))) rfl rfl rfl (bi_sadd (sz_two ht (tx_size _) (by decide))) ?_))))))))
    refine aB 31 (.string ((t ++ (txW (Int.tmod (hPick (x1 i) 60) 14))) ++ (⟨#[32]⟩ : ByteArray))) rfl rfl rfl (bi_sadd (sz_two (sz_add ht (tx_size _)) (show ((⟨#[32]⟩ : ByteArray)).size ≤ 1 from Nat.le_refl _) (by decide))) (aA 6 (.string ((t ++ (txW (Int.tmod (hPick (x1 i) 60) 14))) ++ (⟨#[32]⟩ : ByteArray))) rfl rfl (aN (aL (aM 18 (.int .i64 (i : Int)) rfl rfl (aB 19 (.int .i64 (w64 ((i : Int) + 1))) rfl rfl rfl (bi_add rfl) (aA 7 (.int .i64 (w64 ((i : Int) + 1))) rfl rfl (aN ?_)))))))
    exact K _ rfl rfl rfl (congrArg Value.string (by rw [txStep, h1, h2, h3]; rfl)) (by show Value.int _ _ = _; rw [w64_in (by omega)]; rfl)
set_option maxRecDepth 100000 in
theorem tx_end1 (m1 c1 i : Nat) (a1 : Option Addr) (t : ByteArray) (hi : m1 ≤ i) {H : List Box} {Q : Exit → Env → List Box → Prop} {E : Env} {c : Code} {j : Nat} (hc : Tryd.f12.body.bind loopOf = some c) (q0 : E 0 = .slice a1 m1 c1) (q6 : E 6 = .string t) (q7 : E 7 = .int .i64 (i : Int)) (K : ∀ E' : Env, E' 6 = .string t → Q (.exit 0) E' H) : ARounds Tryd.prog 60 c Q (j + 1) E H := by
 rw [show Tryd.f12.body.bind loopOf = some _ from rfl] at hc
 cases hc
 obtain ⟨E0, rfl⟩ : ∃ E0 : Env, E = (((E0.put (some 0) (.slice a1 m1 c1)).put (some 6) (.string t)).put (some 7) (.int .i64 (i : Int))) := ⟨E, by rw [put_self q0, put_self q6, put_self q7]⟩
 refine ar_round (aQ (aQ (aL (aM 10 (.int .i64 (i : Int)) rfl rfl (aM 11 (.slice a1 m1 c1) rfl rfl (ao 12 rfl rfl (st_ln (a := a1) (m := m1) (c := c1) rfl Tryd.underlying33 rfl (aB 13 (.bool (decide ((i : Int) < (m1 : Int)))) rfl rfl rfl (bi_lss rfl) (aM 14 (.bool (decide ((i : Int) < (m1 : Int)))) rfl rfl (aK 15 (by show ((decide ((i : Int) < (m1 : Int))) == true) = false; rw [(decide_eq_false (by omega))]; rfl) rfl (aK 16 (by show ((decide ((i : Int) < (m1 : Int))) == true) = false; rw [(decide_eq_false (by omega))]; rfl) rfl (ao 17 rfl rfl (st_pkf' (b := decide ((i : Int) < (m1 : Int))) (v := .bool false) (decide_eq_false (by omega)) rfl rfl rfl (aN ?_))))))))))))))
 refine ac_else rfl (ac_exit ?_)
 exact K _ rfl
set_option maxRecDepth 100000 in
theorem tx_end2 (m1 c1 i : Nat) (a1 : Option Addr) (t : ByteArray) (hi : i < m1) (h40 : 40 ≤ i) {H : List Box} {Q : Exit → Env → List Box → Prop} {E : Env} {c : Code} {j : Nat} (hc : Tryd.f12.body.bind loopOf = some c) (q0 : E 0 = .slice a1 m1 c1) (q6 : E 6 = .string t) (q7 : E 7 = .int .i64 (i : Int)) (K : ∀ E' : Env, E' 6 = .string t → Q (.exit 0) E' H) : ARounds Tryd.prog 60 c Q (j + 1) E H := by
 rw [show Tryd.f12.body.bind loopOf = some _ from rfl] at hc
 cases hc
 obtain ⟨E0, rfl⟩ : ∃ E0 : Env, E = (((E0.put (some 0) (.slice a1 m1 c1)).put (some 6) (.string t)).put (some 7) (.int .i64 (i : Int))) := ⟨E, by rw [put_self q0, put_self q6, put_self q7]⟩
 refine ar_round (aQ (aQ (aL (aM 10 (.int .i64 (i : Int)) rfl rfl (aM 11 (.slice a1 m1 c1) rfl rfl (ao 12 rfl rfl (st_ln (a := a1) (m := m1) (c := c1) rfl Tryd.underlying33 rfl (aB 13 (.bool (decide ((i : Int) < (m1 : Int)))) rfl rfl rfl (bi_lss rfl) (aM 14 (.bool (decide ((i : Int) < (m1 : Int)))) rfl rfl (ar_gd (d := (some 15)) (by show ((decide ((i : Int) < (m1 : Int))) == true) = true; rw [(decide_eq_true (by omega))]; rfl) rfl (st_move (v := .int .i64 (i : Int)) rfl rfl ?_)))))))))))
 refine ar_gd (d := (some 16)) (by show ((decide ((i : Int) < (m1 : Int))) == true) = true; rw [(decide_eq_true (by omega))]; rfl) rfl (st_bi (r := .bool (decide ((i : Int) < 40))) rfl rfl rfl (bi_lss rfl) (ao 17 rfl rfl (st_pkt' (b := decide ((i : Int) < (m1 : Int))) (v := .bool (decide ((i : Int) < 40))) (decide_eq_true (by omega)) rfl rfl rfl (aN (ac_else' (b := decide ((i : Int) < 40)) (decide_eq_false (by omega)) rfl (ac_exit ?_))))))
 exact K _ rfl
theorem txStep_size (x : Int) (raw t : ByteArray) : (txStep x raw t).size ≤ t.size + raw.size + 30 := by
 have h1 := tx_size (hPick x 60)
 have h2 := tx_size (Int.tmod (hPick x 60) 14)
 have h3 := subS_le (⟨#[97, 98, 99, 100, 101, 102, 103, 104, 105, 106, 107, 108, 109, 110, 111, 112, 113, 114, 115, 116, 117, 118, 119, 120, 121, 122]⟩ : ByteArray) 0 (w64 (15 + hPick (w64 (Int.tdiv x 60)) 11)) (m := 26) (by decide)
 unfold txStep
 cases decide ((hPick x 60) < 18) <;> cases (hPick x 60) == 18 <;> cases (hPick x 60) == 19 <;> simp only [cond_true, cond_false, ByteArray.size_append'] <;> first | omega | (show t.size + _ + 1 ≤ _; omega)
def txRun (m1 : Nat) (x1 : Nat → Int) (raw : ByteArray) : Nat → Nat → ByteArray → ByteArray
 | 0, _, t => t
 | k + 1, i, t => bif decide (i < m1) then txRun m1 x1 raw k (i + 1) (txStep (x1 i) raw t) else t
theorem tx_loop (gw m1 c1 : Nat) (a1 : Option Addr) (x1 : Nat → Int) (raw : ByteArray) (NA : List Box) (hraw : raw.size ≤ 140737488351232) (hl1 : SlI a1 m1 x1 NA) {Q : Exit → Env → List Box → Prop} {c : Code} (hc : Tryd.f12.body.bind loopOf = some c) :
  ∀ (k i : Nat) (t : ByteArray) (E : Env), i + k = 40 → t.size ≤ (140737488351232 + 30) * i → E 0 = .slice a1 m1 c1 → E 1 = .string raw → E 5 = .pointer (some ⟨gw, 0, none⟩) → E 6 = .string t → E 7 = .int .i64 (i : Int) →
   (∀ E' : Env, E' 6 = .string (txRun m1 x1 raw k i t) → Q (.exit 0) E' ([⟨gw, [.string (⟨#[97]⟩ : ByteArray), .string (⟨#[108, 101, 110, 115]⟩ : ByteArray), .string (⟨#[102, 97, 99, 101]⟩ : ByteArray), .string (⟨#[49]⟩ : ByteArray), .string (⟨#[45, 50, 46, 53, 48]⟩ : ByteArray), .string (⟨#[48, 46, 48, 48, 49]⟩ : ByteArray), .string (⟨#[32]⟩ : ByteArray), .string (⟨#[32, 32]⟩ : ByteArray), .string (⟨#[9]⟩ : ByteArray), .string (⟨#[10]⟩ : ByteArray), .string (⟨#[10]⟩ : ByteArray), .string (⟨#[35, 32, 120, 32, 121, 10]⟩ : ByteArray), .string (⟨#[120, 45, 49]⟩ : ByteArray), .string (⟨#[66, 95, 57]⟩ : ByteArray), .string (⟨#[49, 50, 51, 52, 53, 46, 54, 55, 56, 57, 48, 49]⟩ : ByteArray), .string (⟨#[45]⟩ : ByteArray), .string (⟨#[46]⟩ : ByteArray), .string (⟨#[33]⟩ : ByteArray)], 69, false⟩] ++ NA)) → ARounds Tryd.prog 60 c Q (k + 1) E ([⟨gw, [.string (⟨#[97]⟩ : ByteArray), .string (⟨#[108, 101, 110, 115]⟩ : ByteArray), .string (⟨#[102, 97, 99, 101]⟩ : ByteArray), .string (⟨#[49]⟩ : ByteArray), .string (⟨#[45, 50, 46, 53, 48]⟩ : ByteArray), .string (⟨#[48, 46, 48, 48, 49]⟩ : ByteArray), .string (⟨#[32]⟩ : ByteArray), .string (⟨#[32, 32]⟩ : ByteArray), .string (⟨#[9]⟩ : ByteArray), .string (⟨#[10]⟩ : ByteArray), .string (⟨#[10]⟩ : ByteArray), .string (⟨#[35, 32, 120, 32, 121, 10]⟩ : ByteArray), .string (⟨#[120, 45, 49]⟩ : ByteArray), .string (⟨#[66, 95, 57]⟩ : ByteArray), .string (⟨#[49, 50, 51, 52, 53, 46, 54, 55, 56, 57, 48, 49]⟩ : ByteArray), .string (⟨#[45]⟩ : ByteArray), .string (⟨#[46]⟩ : ByteArray), .string (⟨#[33]⟩ : ByteArray)], 69, false⟩] ++ NA) := by
 intro k
 induction k with
 | zero =>
  intro i t E hk ht q0 q1 q5 q6 q7 K
  by_cases hi : i < m1
  ·exact tx_end2 m1 c1 i a1 t hi (by omega) hc q0 q6 q7 K
  ·exact tx_end1 m1 c1 i a1 t (by omega) hc q0 q6 q7 K
 | succ k ih =>
  intro i t E hk ht q0 q1 q5 q6 q7 K
  by_cases hi : i < m1
  ·obtain ⟨g1, o1, cs1, t1, rfl, hm1, hc1⟩ := hl1 i hi
   rw [txRun, decide_eq_true hi, cond_true] at K
   have hp' := txStep_size (x1 i) raw t
   exact tx_go gw m1 c1 i g1 o1 t1 cs1 x1 NA raw t hi (by omega) hraw (by omega) hm1 hc1 hc q0 q1 q5 q6 q7 (fun E' f0 f1 f5 f6 f7 => ih (i + 1) _ E' (by omega) (by omega) f0 f1 f5 f6 f7 K)
  ·rw [txRun, decide_eq_false hi, cond_false] at K
   exact tx_end1 m1 c1 i a1 t (by omega) hc q0 q6 q7 K
set_option maxRecDepth 100000 in
theorem c_text (m1 c1 : Nat) (a1 : Option Addr) (x1 : Nat → Int) (raw : ByteArray) (NA : List Box) (hraw : raw.size ≤ 140737488351232) (hl1 : SlI a1 m1 x1 NA) (hro : (NA.all fun b => b.ro) = true) : Gives Tryd.prog 12 #[.slice a1 m1 c1, .string raw] NA (fun v N => v = .string (txRun m1 x1 raw 40 0 (⟨#[]⟩ : ByteArray)) ∧ N = []) := by
 refine gives_fin Tryd.func12 rfl rfl rfl hro (aQ (aL (aA 4 (.string (⟨#[]⟩ : ByteArray)) rfl rfl (aN (aQ (aL ?_))))))
 refine ao 9 rfl rfl (st_bd (us := [(0, .string (⟨#[97]⟩ : ByteArray)), (1, .string (⟨#[108, 101, 110, 115]⟩ : ByteArray)), (2, .string (⟨#[102, 97, 99, 101]⟩ : ByteArray)), (3, .string (⟨#[49]⟩ : ByteArray)), (4, .string (⟨#[45, 50, 46, 53, 48]⟩ : ByteArray)), (5, .string (⟨#[48, 46, 48, 48, 49]⟩ : ByteArray)), (6, .string (⟨#[32]⟩ : ByteArray)), (7, .string (⟨#[32, 32]⟩ : ByteArray)), (8, .string (⟨#[9]⟩ : ByteArray)), (9, .string (⟨#[10]⟩ : ByteArray)), (10, .string (⟨#[10]⟩ : ByteArray)), (11, .string (⟨#[35, 32, 120, 32, 121, 10]⟩ : ByteArray)), (12, .string (⟨#[120, 45, 49]⟩ : ByteArray)), (13, .string (⟨#[66, 95, 57]⟩ : ByteArray)), (14, .string (⟨#[49, 50, 51, 52, 53, 46, 54, 55, 56, 57, 48, 49]⟩ : ByteArray)), (15, .string (⟨#[45]⟩ : ByteArray)), (16, .string (⟨#[46]⟩ : ByteArray)), (17, .string (⟨#[33]⟩ : ByteArray))]) (v := .agg #[.string (⟨#[97]⟩ : ByteArray), .string (⟨#[108, 101, 110, 115]⟩ : ByteArray), .string (⟨#[102, 97, 99, 101]⟩ : ByteArray), .string (⟨#[49]⟩ : ByteArray), .string (⟨#[45, 50, 46, 53, 48]⟩ : ByteArray), .string (⟨#[48, 46, 48, 48, 49]⟩ : ByteArray), .string (⟨#[32]⟩ : ByteArray), .string (⟨#[32, 32]⟩ : ByteArray), .string (⟨#[9]⟩ : ByteArray), .string (⟨#[10]⟩ : ByteArray), .string (⟨#[10]⟩ : ByteArray), .string (⟨#[35, 32, 120, 32, 121, 10]⟩ : ByteArray), .string (⟨#[120, 45, 49]⟩ : ByteArray), .string (⟨#[66, 95, 57]⟩ : ByteArray), .string (⟨#[49, 50, 51, 52, 53, 46, 54, 55, 56, 57, 48, 49]⟩ : ByteArray), .string (⟨#[45]⟩ : ByteArray), .string (⟨#[46]⟩ : ByteArray), .string (⟨#[33]⟩ : ByteArray)]) rfl rfl (bd69_0_1_2_3_4_5_6_7_8_9_10_11_12_13_14_15_16_17 _ _ _ _ _ _ _ _ _ _ _ _ _ _ _ _ _ _) ?_)
 refine ao 5 rfl rfl (st_new zero69 rfl fun g0 => ?_)
 refine aS [.string (⟨#[97]⟩ : ByteArray), .string (⟨#[108, 101, 110, 115]⟩ : ByteArray), .string (⟨#[102, 97, 99, 101]⟩ : ByteArray), .string (⟨#[49]⟩ : ByteArray), .string (⟨#[45, 50, 46, 53, 48]⟩ : ByteArray), .string (⟨#[48, 46, 48, 48, 49]⟩ : ByteArray), .string (⟨#[32]⟩ : ByteArray), .string (⟨#[32, 32]⟩ : ByteArray), .string (⟨#[9]⟩ : ByteArray), .string (⟨#[10]⟩ : ByteArray), .string (⟨#[10]⟩ : ByteArray), .string (⟨#[35, 32, 120, 32, 121, 10]⟩ : ByteArray), .string (⟨#[120, 45, 49]⟩ : ByteArray), .string (⟨#[66, 95, 57]⟩ : ByteArray), .string (⟨#[49, 50, 51, 52, 53, 46, 54, 55, 56, 57, 48, 49]⟩ : ByteArray), .string (⟨#[45]⟩ : ByteArray), .string (⟨#[46]⟩ : ByteArray), .string (⟨#[33]⟩ : ByteArray)] agg69 0 rfl rfl rfl rfl rfl rfl ?_
 refine aN (aQ (aL (aA 6 (.string (⟨#[]⟩ : ByteArray)) rfl rfl (aN (aQ (aQ (aL (aA 7 (.int .i64 0) rfl rfl (aN (ac_block ?_))))))))))
 refine ac_rounds 41 ?_
 refine tx_loop g0 m1 c1 a1 x1 raw NA hraw hl1 rfl 40 0 _ _ rfl (Nat.zero_le _) rfl rfl rfl rfl (by rfl) (fun E9 f6 => ?_)
 obtain ⟨E0, rfl⟩ : ∃ E0 : Env, E9 = (E0.put (some 6) (.string (txRun m1 x1 raw 40 0 (⟨#[]⟩ : ByteArray)))) := ⟨E9, by rw [put_self f6]⟩
 refine aQ (aL (aM 59 (.string (txRun m1 x1 raw 40 0 (⟨#[]⟩ : ByteArray))) rfl rfl (aA 4 (.string (txRun m1 x1 raw 40 0 (⟨#[]⟩ : ByteArray))) rfl rfl (aN (ac_ret ?_)))))
 exact fing_ret (N := []) ⟨rfl, rfl⟩ (List.nil_sublist _) rfl (res_tmp rfl rfl)
end Go.Proofs.YtalffjplbhelcaaDoor
namespace Go.Proofs.YtalffjplbhelcaaDoor
open Go.RowKit
attribute [local irreducible] AC AR DWalk
def known10  : Bool := (bif cxEq (⟨0, 0⟩ : Cx) (⟨0, 0⟩ : Cx) then (bif tokEq (⟨1, (⟨#[97]⟩ : ByteArray), (⟨4607182418800017408, 4607182418800017408⟩ : Cx)⟩ : Tok) (⟨1, (⟨#[97]⟩ : ByteArray), (⟨4607182418800017408, 4607182418800017408⟩ : Cx)⟩ : Tok) then (bif tokEq (⟨2, (⟨#[49, 46, 53]⟩ : ByteArray), (⟨4607182418800017408, 4613937818241073152⟩ : Cx)⟩ : Tok) (⟨2, (⟨#[49, 46, 53]⟩ : ByteArray), (⟨4607182418800017408, 4613937818241073152⟩ : Cx)⟩ : Tok) then tokEq (⟨3, (⟨#[]⟩ : ByteArray), (⟨4607182418800017408, 4618441417868443648⟩ : Cx)⟩ : Tok) (⟨3, (⟨#[]⟩ : ByteArray), (⟨4607182418800017408, 4618441417868443648⟩ : Cx)⟩ : Tok) else false) else false) else false)
set_option maxRecDepth 100000 in
theorem c_known10  : Gets Tryd.prog 10 #[] ((fun (r : Bool) => (.bool r : Value)) known10) := by
 refine gets_fin Tryd.func10 rfl rfl rfl (aQ (aL (aA 0 (.bool false) rfl rfl (aN (aQ (aL (ao 5 rfl rfl (st_gv (R := []) (c_tokens (⟨#[97, 32, 49, 46, 53]⟩ : ByteArray)) Tryd.func9 rfl (by decide) rfl rfl rfl has_nil (by simp) fun v9 N9 R9 => ?_))))))))
 obtain ⟨gT1, cgT1, rgT1, rfl, rfl⟩ := tok_closed [⟨1, (⟨#[97]⟩ : ByteArray), (⟨4607182418800017408, 4607182418800017408⟩ : Cx)⟩, ⟨2, (⟨#[49, 46, 53]⟩ : ByteArray), (⟨4607182418800017408, 4613937818241073152⟩ : Cx)⟩, ⟨3, (⟨#[]⟩ : ByteArray), (⟨4607182418800017408, 4618441417868443648⟩ : Cx)⟩] (⟨0, 0⟩ : Cx) 0 3 [.int .i64 1, .string (⟨#[97]⟩ : ByteArray), .complex .f64 ((⟨4607182418800017408, 4607182418800017408⟩ : Cx)).re ((⟨4607182418800017408, 4607182418800017408⟩ : Cx)).im, .int .i64 2, .string (⟨#[49, 46, 53]⟩ : ByteArray), .complex .f64 ((⟨4607182418800017408, 4613937818241073152⟩ : Cx)).re ((⟨4607182418800017408, 4613937818241073152⟩ : Cx)).im, .int .i64 3, .string (⟨#[]⟩ : ByteArray), .complex .f64 ((⟨4607182418800017408, 4618441417868443648⟩ : Cx)).re ((⟨4607182418800017408, 4618441417868443648⟩ : Cx)).im] R9 (by decide +kernel) rfl rfl rfl
 refine aM 4 (.tuple #[.slice (some ⟨gT1, 0, none⟩) 3 cgT1, .complex .f64 ((⟨0, 0⟩ : Cx)).re ((⟨0, 0⟩ : Cx)).im, .int .i64 0]) rfl rfl (aX 6 (.slice (some ⟨gT1, 0, none⟩) 3 cgT1) rfl rfl rfl (aX 7 (.complex .f64 ((⟨0, 0⟩ : Cx)).re ((⟨0, 0⟩ : Cx)).im) rfl rfl rfl (aX 8 (.int .i64 0) rfl rfl rfl (aA 1 (.slice (some ⟨gT1, 0, none⟩) 3 cgT1) rfl rfl (aA 2 (.complex .f64 ((⟨0, 0⟩ : Cx)).re ((⟨0, 0⟩ : Cx)).im) rfl rfl (aA 3 (.int .i64 0) rfl rfl (aN (aQ (aL (aM 9 (.int .i64 0) rfl rfl (aB 10 (.bool true) rfl rfl rfl (bi_eql (by decide)) (aM 11 (.bool true) rfl rfl (ar_gd (d := (some 12)) rfl rfl (st_move (v := .complex .f64 ((⟨0, 0⟩ : Cx)).re ((⟨0, 0⟩ : Cx)).im) rfl rfl ?_))))))))))))))
 refine ar_gd (d := (some 13)) rfl rfl (st_bi (r := .bool (cxEq (⟨0, 0⟩ : Cx) (⟨0, 0⟩ : Cx))) rfl rfl rfl (bi_ceql (a := (⟨0, 0⟩ : Cx)) (b := (⟨0, 0⟩ : Cx)) rfl) (ao 14 rfl rfl (st_pkt (v := .bool (cxEq (⟨0, 0⟩ : Cx) (⟨0, 0⟩ : Cx))) rfl rfl rfl (aM 15 (.bool (cxEq (⟨0, 0⟩ : Cx) (⟨0, 0⟩ : Cx))) rfl rfl ?_))))
 refine bool_split (cxEq (⟨0, 0⟩ : Cx) (⟨0, 0⟩ : Cx)) (fun h1 => ?_) (fun h1 => ?_)
 ·refine ar_gd (d := (some 16)) (by show ((cxEq (⟨0, 0⟩ : Cx) (⟨0, 0⟩ : Cx)) == true) = true; rw [h1]; rfl) rfl (st_move (v := .slice (some ⟨gT1, 0, none⟩) 3 cgT1) rfl rfl (ar_gd (d := (some 17)) (by show ((cxEq (⟨0, 0⟩ : Cx) (⟨0, 0⟩ : Cx)) == true) = true; rw [h1]; rfl) rfl (st_ln (a := some ⟨gT1, 0, none⟩) (m := 3) (c := cgT1) rfl Tryd.underlying22 rfl (ar_gd (d := (some 18)) (by show ((cxEq (⟨0, 0⟩ : Cx) (⟨0, 0⟩ : Cx)) == true) = true; rw [h1]; rfl) rfl (st_bi (r := .bool true) rfl rfl rfl (bi_eql (by decide)) (ao 19 rfl rfl (st_pkt' (b := cxEq (⟨0, 0⟩ : Cx) (⟨0, 0⟩ : Cx)) (v := .bool true) h1 rfl rfl rfl (aM 20 (.bool true) rfl rfl ?_))))))))
  refine ar_gd (d := (some 21)) rfl rfl (st_move (v := .slice (some ⟨gT1, 0, none⟩) 3 cgT1) rfl rfl (ar_gd (d := (some 22)) rfl rfl (st_sa (g := gT1) (off := 0) (m := 3) (c := cgT1) (s := 3) (i := 0) rfl Tryd.underlying22 (by kernel_rfl) rfl rfl (by decide) (ar_gd (d := (some 23)) rfl rfl (st_lda (vs := [.int .i64 1, .string (⟨#[97]⟩ : ByteArray), .complex .f64 ((⟨4607182418800017408, 4607182418800017408⟩ : Cx)).re ((⟨4607182418800017408, 4607182418800017408⟩ : Cx)).im]) agg32 0 rfl rfl rfl rfl rfl rfl ?_)))))
  refine ar_gd (d := (some 24)) rfl rfl (st_bd (us := [(0, .int .i64 1), (1, .string (⟨#[97]⟩ : ByteArray)), (2, .complex .f64 ((⟨4607182418800017408, 4607182418800017408⟩ : Cx)).re ((⟨4607182418800017408, 4607182418800017408⟩ : Cx)).im)]) (v := .agg #[.int .i64 1, .string (⟨#[97]⟩ : ByteArray), .complex .f64 ((⟨4607182418800017408, 4607182418800017408⟩ : Cx)).re ((⟨4607182418800017408, 4607182418800017408⟩ : Cx)).im]) rfl rfl (bd32_0_1_2 _ _ _) ?_)
  refine ar_gd (d := (some 25)) rfl rfl (st_bi (r := .bool (tokEq (⟨1, (⟨#[97]⟩ : ByteArray), (⟨4607182418800017408, 4607182418800017408⟩ : Cx)⟩ : Tok) (⟨1, (⟨#[97]⟩ : ByteArray), (⟨4607182418800017408, 4607182418800017408⟩ : Cx)⟩ : Tok))) rfl rfl rfl (beql_32 (⟨1, (⟨#[97]⟩ : ByteArray), (⟨4607182418800017408, 4607182418800017408⟩ : Cx)⟩ : Tok) (⟨1, (⟨#[97]⟩ : ByteArray), (⟨4607182418800017408, 4607182418800017408⟩ : Cx)⟩ : Tok) rfl) (ao 26 rfl rfl (st_pkt (v := .bool (tokEq (⟨1, (⟨#[97]⟩ : ByteArray), (⟨4607182418800017408, 4607182418800017408⟩ : Cx)⟩ : Tok) (⟨1, (⟨#[97]⟩ : ByteArray), (⟨4607182418800017408, 4607182418800017408⟩ : Cx)⟩ : Tok))) rfl rfl rfl ?_)))
  refine aM 27 (.bool (tokEq (⟨1, (⟨#[97]⟩ : ByteArray), (⟨4607182418800017408, 4607182418800017408⟩ : Cx)⟩ : Tok) (⟨1, (⟨#[97]⟩ : ByteArray), (⟨4607182418800017408, 4607182418800017408⟩ : Cx)⟩ : Tok))) rfl rfl ?_
  refine bool_split (tokEq (⟨1, (⟨#[97]⟩ : ByteArray), (⟨4607182418800017408, 4607182418800017408⟩ : Cx)⟩ : Tok) (⟨1, (⟨#[97]⟩ : ByteArray), (⟨4607182418800017408, 4607182418800017408⟩ : Cx)⟩ : Tok)) (fun h2 => ?_) (fun h2 => ?_)
  ·refine ar_gd (d := (some 28)) (by show ((tokEq (⟨1, (⟨#[97]⟩ : ByteArray), (⟨4607182418800017408, 4607182418800017408⟩ : Cx)⟩ : Tok) (⟨1, (⟨#[97]⟩ : ByteArray), (⟨4607182418800017408, 4607182418800017408⟩ : Cx)⟩ : Tok)) == true) = true; rw [h2]; rfl) rfl (st_move (v := .slice (some ⟨gT1, 0, none⟩) 3 cgT1) rfl rfl ?_)
   refine ar_gd (d := (some 29)) (by show ((tokEq (⟨1, (⟨#[97]⟩ : ByteArray), (⟨4607182418800017408, 4607182418800017408⟩ : Cx)⟩ : Tok) (⟨1, (⟨#[97]⟩ : ByteArray), (⟨4607182418800017408, 4607182418800017408⟩ : Cx)⟩ : Tok)) == true) = true; rw [h2]; rfl) rfl (st_sa (g := gT1) (off := 0) (m := 3) (c := cgT1) (s := 3) (i := 1) rfl Tryd.underlying22 (by kernel_rfl) rfl rfl (by decide) ?_)
   refine ar_gd (d := (some 30)) (by show ((tokEq (⟨1, (⟨#[97]⟩ : ByteArray), (⟨4607182418800017408, 4607182418800017408⟩ : Cx)⟩ : Tok) (⟨1, (⟨#[97]⟩ : ByteArray), (⟨4607182418800017408, 4607182418800017408⟩ : Cx)⟩ : Tok)) == true) = true; rw [h2]; rfl) rfl (st_lda (vs := [.int .i64 2, .string (⟨#[49, 46, 53]⟩ : ByteArray), .complex .f64 ((⟨4607182418800017408, 4613937818241073152⟩ : Cx)).re ((⟨4607182418800017408, 4613937818241073152⟩ : Cx)).im]) agg32 0 rfl rfl rfl rfl rfl rfl ?_)
   refine ar_gd (d := (some 31)) (by show ((tokEq (⟨1, (⟨#[97]⟩ : ByteArray), (⟨4607182418800017408, 4607182418800017408⟩ : Cx)⟩ : Tok) (⟨1, (⟨#[97]⟩ : ByteArray), (⟨4607182418800017408, 4607182418800017408⟩ : Cx)⟩ : Tok)) == true) = true; rw [h2]; rfl) rfl (st_bd (us := [(0, .int .i64 2), (1, .string (⟨#[49, 46, 53]⟩ : ByteArray)), (2, .complex .f64 ((⟨4607182418800017408, 4613937818241073152⟩ : Cx)).re ((⟨4607182418800017408, 4613937818241073152⟩ : Cx)).im)]) (v := .agg #[.int .i64 2, .string (⟨#[49, 46, 53]⟩ : ByteArray), .complex .f64 ((⟨4607182418800017408, 4613937818241073152⟩ : Cx)).re ((⟨4607182418800017408, 4613937818241073152⟩ : Cx)).im]) rfl rfl (bd32_0_1_2 _ _ _) ?_)
   refine ar_gd (d := (some 32)) (by show ((tokEq (⟨1, (⟨#[97]⟩ : ByteArray), (⟨4607182418800017408, 4607182418800017408⟩ : Cx)⟩ : Tok) (⟨1, (⟨#[97]⟩ : ByteArray), (⟨4607182418800017408, 4607182418800017408⟩ : Cx)⟩ : Tok)) == true) = true; rw [h2]; rfl) rfl (st_bi (r := .bool (tokEq (⟨2, (⟨#[49, 46, 53]⟩ : ByteArray), (⟨4607182418800017408, 4613937818241073152⟩ : Cx)⟩ : Tok) (⟨2, (⟨#[49, 46, 53]⟩ : ByteArray), (⟨4607182418800017408, 4613937818241073152⟩ : Cx)⟩ : Tok))) rfl rfl rfl (beql_32 (⟨2, (⟨#[49, 46, 53]⟩ : ByteArray), (⟨4607182418800017408, 4613937818241073152⟩ : Cx)⟩ : Tok) (⟨2, (⟨#[49, 46, 53]⟩ : ByteArray), (⟨4607182418800017408, 4613937818241073152⟩ : Cx)⟩ : Tok) rfl) ?_)
   refine ao 33 rfl rfl (st_pkt' (b := tokEq (⟨1, (⟨#[97]⟩ : ByteArray), (⟨4607182418800017408, 4607182418800017408⟩ : Cx)⟩ : Tok) (⟨1, (⟨#[97]⟩ : ByteArray), (⟨4607182418800017408, 4607182418800017408⟩ : Cx)⟩ : Tok)) (v := .bool (tokEq (⟨2, (⟨#[49, 46, 53]⟩ : ByteArray), (⟨4607182418800017408, 4613937818241073152⟩ : Cx)⟩ : Tok) (⟨2, (⟨#[49, 46, 53]⟩ : ByteArray), (⟨4607182418800017408, 4613937818241073152⟩ : Cx)⟩ : Tok))) h2 rfl rfl rfl (aM 34 (.bool (tokEq (⟨2, (⟨#[49, 46, 53]⟩ : ByteArray), (⟨4607182418800017408, 4613937818241073152⟩ : Cx)⟩ : Tok) (⟨2, (⟨#[49, 46, 53]⟩ : ByteArray), (⟨4607182418800017408, 4613937818241073152⟩ : Cx)⟩ : Tok))) rfl rfl ?_))
   refine bool_split (tokEq (⟨2, (⟨#[49, 46, 53]⟩ : ByteArray), (⟨4607182418800017408, 4613937818241073152⟩ : Cx)⟩ : Tok) (⟨2, (⟨#[49, 46, 53]⟩ : ByteArray), (⟨4607182418800017408, 4613937818241073152⟩ : Cx)⟩ : Tok)) (fun h3 => ?_) (fun h3 => ?_)
   ·refine ar_gd (d := (some 35)) (by show ((tokEq (⟨2, (⟨#[49, 46, 53]⟩ : ByteArray), (⟨4607182418800017408, 4613937818241073152⟩ : Cx)⟩ : Tok) (⟨2, (⟨#[49, 46, 53]⟩ : ByteArray), (⟨4607182418800017408, 4613937818241073152⟩ : Cx)⟩ : Tok)) == true) = true; rw [h3]; rfl) rfl (st_move (v := .slice (some ⟨gT1, 0, none⟩) 3 cgT1) rfl rfl ?_)
    refine ar_gd (d := (some 36)) (by show ((tokEq (⟨2, (⟨#[49, 46, 53]⟩ : ByteArray), (⟨4607182418800017408, 4613937818241073152⟩ : Cx)⟩ : Tok) (⟨2, (⟨#[49, 46, 53]⟩ : ByteArray), (⟨4607182418800017408, 4613937818241073152⟩ : Cx)⟩ : Tok)) == true) = true; rw [h3]; rfl) rfl (st_sa (g := gT1) (off := 0) (m := 3) (c := cgT1) (s := 3) (i := 2) rfl Tryd.underlying22 (by kernel_rfl) rfl rfl (by decide) ?_)
    refine ar_gd (d := (some 37)) (by show ((tokEq (⟨2, (⟨#[49, 46, 53]⟩ : ByteArray), (⟨4607182418800017408, 4613937818241073152⟩ : Cx)⟩ : Tok) (⟨2, (⟨#[49, 46, 53]⟩ : ByteArray), (⟨4607182418800017408, 4613937818241073152⟩ : Cx)⟩ : Tok)) == true) = true; rw [h3]; rfl) rfl (st_lda (vs := [.int .i64 3, .string (⟨#[]⟩ : ByteArray), .complex .f64 ((⟨4607182418800017408, 4618441417868443648⟩ : Cx)).re ((⟨4607182418800017408, 4618441417868443648⟩ : Cx)).im]) agg32 0 rfl rfl rfl rfl rfl rfl ?_)
    refine ar_gd (d := (some 38)) (by show ((tokEq (⟨2, (⟨#[49, 46, 53]⟩ : ByteArray), (⟨4607182418800017408, 4613937818241073152⟩ : Cx)⟩ : Tok) (⟨2, (⟨#[49, 46, 53]⟩ : ByteArray), (⟨4607182418800017408, 4613937818241073152⟩ : Cx)⟩ : Tok)) == true) = true; rw [h3]; rfl) rfl (st_bd (us := [(0, .int .i64 3), (2, .complex .f64 ((⟨4607182418800017408, 4618441417868443648⟩ : Cx)).re ((⟨4607182418800017408, 4618441417868443648⟩ : Cx)).im)]) (v := .agg #[.int .i64 3, .string (⟨#[]⟩ : ByteArray), .complex .f64 ((⟨4607182418800017408, 4618441417868443648⟩ : Cx)).re ((⟨4607182418800017408, 4618441417868443648⟩ : Cx)).im]) rfl rfl (bd32_0_2 _ _) ?_)
    refine ar_gd (d := (some 39)) (by show ((tokEq (⟨2, (⟨#[49, 46, 53]⟩ : ByteArray), (⟨4607182418800017408, 4613937818241073152⟩ : Cx)⟩ : Tok) (⟨2, (⟨#[49, 46, 53]⟩ : ByteArray), (⟨4607182418800017408, 4613937818241073152⟩ : Cx)⟩ : Tok)) == true) = true; rw [h3]; rfl) rfl (st_bi (r := .bool (tokEq (⟨3, (⟨#[]⟩ : ByteArray), (⟨4607182418800017408, 4618441417868443648⟩ : Cx)⟩ : Tok) (⟨3, (⟨#[]⟩ : ByteArray), (⟨4607182418800017408, 4618441417868443648⟩ : Cx)⟩ : Tok))) rfl rfl rfl (beql_32 (⟨3, (⟨#[]⟩ : ByteArray), (⟨4607182418800017408, 4618441417868443648⟩ : Cx)⟩ : Tok) (⟨3, (⟨#[]⟩ : ByteArray), (⟨4607182418800017408, 4618441417868443648⟩ : Cx)⟩ : Tok) rfl) ?_)
    refine ao 40 rfl rfl (st_pkt' (b := tokEq (⟨2, (⟨#[49, 46, 53]⟩ : ByteArray), (⟨4607182418800017408, 4613937818241073152⟩ : Cx)⟩ : Tok) (⟨2, (⟨#[49, 46, 53]⟩ : ByteArray), (⟨4607182418800017408, 4613937818241073152⟩ : Cx)⟩ : Tok)) (v := .bool (tokEq (⟨3, (⟨#[]⟩ : ByteArray), (⟨4607182418800017408, 4618441417868443648⟩ : Cx)⟩ : Tok) (⟨3, (⟨#[]⟩ : ByteArray), (⟨4607182418800017408, 4618441417868443648⟩ : Cx)⟩ : Tok))) h3 rfl rfl rfl (aA 0 (.bool (tokEq (⟨3, (⟨#[]⟩ : ByteArray), (⟨4607182418800017408, 4618441417868443648⟩ : Cx)⟩ : Tok) (⟨3, (⟨#[]⟩ : ByteArray), (⟨4607182418800017408, 4618441417868443648⟩ : Cx)⟩ : Tok))) rfl rfl (aN (ac_ret ?_))))
    exact fin_eq (v := .bool (tokEq (⟨3, (⟨#[]⟩ : ByteArray), (⟨4607182418800017408, 4618441417868443648⟩ : Cx)⟩ : Tok) (⟨3, (⟨#[]⟩ : ByteArray), (⟨4607182418800017408, 4618441417868443648⟩ : Cx)⟩ : Tok))) (by show _ = (fun (r : Bool) => (.bool r : Value)) known10; rw [known10, h3, h2, h1] <;> rfl) (fin_ret (res_tmp rfl rfl))
   ·refine aK 35 (by show ((tokEq (⟨2, (⟨#[49, 46, 53]⟩ : ByteArray), (⟨4607182418800017408, 4613937818241073152⟩ : Cx)⟩ : Tok) (⟨2, (⟨#[49, 46, 53]⟩ : ByteArray), (⟨4607182418800017408, 4613937818241073152⟩ : Cx)⟩ : Tok)) == true) = false; rw [h3]; rfl) rfl (aK 36 (by show ((tokEq (⟨2, (⟨#[49, 46, 53]⟩ : ByteArray), (⟨4607182418800017408, 4613937818241073152⟩ : Cx)⟩ : Tok) (⟨2, (⟨#[49, 46, 53]⟩ : ByteArray), (⟨4607182418800017408, 4613937818241073152⟩ : Cx)⟩ : Tok)) == true) = false; rw [h3]; rfl) rfl ?_)
    refine aK 37 (by show ((tokEq (⟨2, (⟨#[49, 46, 53]⟩ : ByteArray), (⟨4607182418800017408, 4613937818241073152⟩ : Cx)⟩ : Tok) (⟨2, (⟨#[49, 46, 53]⟩ : ByteArray), (⟨4607182418800017408, 4613937818241073152⟩ : Cx)⟩ : Tok)) == true) = false; rw [h3]; rfl) rfl (aK 38 (by show ((tokEq (⟨2, (⟨#[49, 46, 53]⟩ : ByteArray), (⟨4607182418800017408, 4613937818241073152⟩ : Cx)⟩ : Tok) (⟨2, (⟨#[49, 46, 53]⟩ : ByteArray), (⟨4607182418800017408, 4613937818241073152⟩ : Cx)⟩ : Tok)) == true) = false; rw [h3]; rfl) rfl ?_)
    refine aK 39 (by show ((tokEq (⟨2, (⟨#[49, 46, 53]⟩ : ByteArray), (⟨4607182418800017408, 4613937818241073152⟩ : Cx)⟩ : Tok) (⟨2, (⟨#[49, 46, 53]⟩ : ByteArray), (⟨4607182418800017408, 4613937818241073152⟩ : Cx)⟩ : Tok)) == true) = false; rw [h3]; rfl) rfl (ao 40 rfl rfl (st_pkf' (b := tokEq (⟨2, (⟨#[49, 46, 53]⟩ : ByteArray), (⟨4607182418800017408, 4613937818241073152⟩ : Cx)⟩ : Tok) (⟨2, (⟨#[49, 46, 53]⟩ : ByteArray), (⟨4607182418800017408, 4613937818241073152⟩ : Cx)⟩ : Tok)) (v := .bool false) h3 rfl rfl rfl (aA 0 (.bool false) rfl rfl (aN (ac_ret ?_)))))
    exact fin_eq (v := .bool false) (by show _ = (fun (r : Bool) => (.bool r : Value)) known10; rw [known10, h3, h2, h1] <;> rfl) (fin_ret (res_tmp rfl rfl))
  ·refine aK 28 (by show ((tokEq (⟨1, (⟨#[97]⟩ : ByteArray), (⟨4607182418800017408, 4607182418800017408⟩ : Cx)⟩ : Tok) (⟨1, (⟨#[97]⟩ : ByteArray), (⟨4607182418800017408, 4607182418800017408⟩ : Cx)⟩ : Tok)) == true) = false; rw [h2]; rfl) rfl (aK 29 (by show ((tokEq (⟨1, (⟨#[97]⟩ : ByteArray), (⟨4607182418800017408, 4607182418800017408⟩ : Cx)⟩ : Tok) (⟨1, (⟨#[97]⟩ : ByteArray), (⟨4607182418800017408, 4607182418800017408⟩ : Cx)⟩ : Tok)) == true) = false; rw [h2]; rfl) rfl ?_)
   refine aK 30 (by show ((tokEq (⟨1, (⟨#[97]⟩ : ByteArray), (⟨4607182418800017408, 4607182418800017408⟩ : Cx)⟩ : Tok) (⟨1, (⟨#[97]⟩ : ByteArray), (⟨4607182418800017408, 4607182418800017408⟩ : Cx)⟩ : Tok)) == true) = false; rw [h2]; rfl) rfl (aK 31 (by show ((tokEq (⟨1, (⟨#[97]⟩ : ByteArray), (⟨4607182418800017408, 4607182418800017408⟩ : Cx)⟩ : Tok) (⟨1, (⟨#[97]⟩ : ByteArray), (⟨4607182418800017408, 4607182418800017408⟩ : Cx)⟩ : Tok)) == true) = false; rw [h2]; rfl) rfl ?_)
   refine aK 32 (by show ((tokEq (⟨1, (⟨#[97]⟩ : ByteArray), (⟨4607182418800017408, 4607182418800017408⟩ : Cx)⟩ : Tok) (⟨1, (⟨#[97]⟩ : ByteArray), (⟨4607182418800017408, 4607182418800017408⟩ : Cx)⟩ : Tok)) == true) = false; rw [h2]; rfl) rfl (ao 33 rfl rfl (st_pkf' (b := tokEq (⟨1, (⟨#[97]⟩ : ByteArray), (⟨4607182418800017408, 4607182418800017408⟩ : Cx)⟩ : Tok) (⟨1, (⟨#[97]⟩ : ByteArray), (⟨4607182418800017408, 4607182418800017408⟩ : Cx)⟩ : Tok)) (v := .bool false) h2 rfl rfl rfl (aM 34 (.bool false) rfl rfl (aK 35 rfl rfl (aK 36 rfl rfl (aK 37 rfl rfl (aK 38 rfl rfl (aK 39 rfl rfl (ao 40 rfl rfl (st_pkf (v := .bool false) rfl rfl rfl (aA 0 (.bool false) rfl rfl ?_)))))))))))
   refine aN (ac_ret (fin_eq (v := .bool false) (by show _ = (fun (r : Bool) => (.bool r : Value)) known10; rw [known10, h2, h1] <;> rfl) (fin_ret (res_tmp rfl rfl))))
 ·refine aK 16 (by show ((cxEq (⟨0, 0⟩ : Cx) (⟨0, 0⟩ : Cx)) == true) = false; rw [h1]; rfl) rfl (aK 17 (by show ((cxEq (⟨0, 0⟩ : Cx) (⟨0, 0⟩ : Cx)) == true) = false; rw [h1]; rfl) rfl (aK 18 (by show ((cxEq (⟨0, 0⟩ : Cx) (⟨0, 0⟩ : Cx)) == true) = false; rw [h1]; rfl) rfl (ao 19 rfl rfl (st_pkf' (b := cxEq (⟨0, 0⟩ : Cx) (⟨0, 0⟩ : Cx)) (v := .bool false) h1 rfl rfl rfl (aM 20 (.bool false) rfl rfl (aK 21 rfl rfl (aK 22 rfl rfl (aK 23 rfl rfl (aK 24 rfl rfl (aK 25 rfl rfl (ao 26 rfl rfl (st_pkf (v := .bool false) rfl rfl rfl (aM 27 (.bool false) rfl rfl (aK 28 rfl rfl (aK 29 rfl rfl (aK 30 rfl rfl (aK 31 rfl rfl (aK 32 rfl rfl ?_))))))))))))))))))
  refine ao 33 rfl rfl (st_pkf (v := .bool false) rfl rfl rfl (aM 34 (.bool false) rfl rfl (aK 35 rfl rfl (aK 36 rfl rfl (aK 37 rfl rfl (aK 38 rfl rfl (aK 39 rfl rfl (ao 40 rfl rfl (st_pkf (v := .bool false) rfl rfl rfl (aA 0 (.bool false) rfl rfl (aN (ac_ret (fin_eq (v := .bool false) (by show _ = (fun (r : Bool) => (.bool r : Value)) known10; rw [known10, h1] <;> rfl) (fin_ret (res_tmp rfl rfl)))))))))))))))
end Go.Proofs.YtalffjplbhelcaaDoor
namespace Go.Proofs.YtalffjplbhelcaaDoor
open Go.RowKit
section
variable {p : Program} {n : Nat} {o : Oper} {H : List Box} {ρ : Operand → Value} {K : Post}
theorem st_ldam {t t0 m : TypeId} {x : Operand} {g off : Nat} {cs vs : List Value} {ro : Bool} (ha : IsAgg p t m) (ho : o.op = .load t x) (hx : ρ x = .pointer (some ⟨g, off, none⟩)) (hm : (⟨g, cs, t0, ro⟩ : Box) ∈ H) (hn : vs.length = m) (hc : (cs.drop off).take m = vs) (k : K (.agg vs.toArray) H) : Step p ρ o H K := by
  obtain ⟨i, hi⟩ := List.getElem?_of_mem hm
  exact st_lda (g := g) (off := off) (vs := vs) ha i ho hx hi rfl hn hc k
theorem has_self (R : List Box) : Has R R := fun b hb => ⟨b, hb, rfl, rfl, rfl⟩
theorem st_ownT {K : Post} (h : (H.map Box.g).Nodup → Step p ρ o H K) : Step p ρ o H K := fun F β w hO hB => h (by
  have := hO.apart
  rw [List.map_append, List.nodup_append] at this
  exact this.1) F β w hO hB
end
theorem flatT_drop (T : List Tok) (r : List Value) (i : Nat) (t : Tok) (h : T[i]? = some t) : ((flatT T ++ r).drop (0 + i * 3)).take 3 = t.cells := by
  rw [Nat.zero_add]
  apply List.ext_getElem?
  intro j
  rw [List.getElem?_take]
  by_cases hj : j < 3
  · rw [if_pos hj, List.getElem?_drop]
    exact flatT_at T r i t h j hj
  · rw [if_neg hj, List.getElem?_eq_none]
    show 3 ≤ j
    omega
end Go.Proofs.YtalffjplbhelcaaDoor
namespace Go.Proofs.YtalffjplbhelcaaDoor
theorem ar_drop {p : Program} {n : Nat} {c : Code} {Q : Exit → Env → List Box → Prop} {H H' : List Box} (hs : List.Sublist H H') : ∀ {j : Nat} {E : Env}, ARounds p n c Q j E H → ARounds p n c Q j E H'
  | 0, _, h => h.elim
  | j + 1, _, h => ac_drop hs h
theorem lp_bd {s : ByteArray} {i f : Nat} (h : f ≤ i) (h' : i ≤ s.size) : 0 ≤ (f : Int) ∧ (f : Int) ≤ (i : Int) ∧ (i : Int) ≤ ((s).size : Int) := by omega
def linesC (s : ByteArray) (l : List (Nat × Nat)) : List Value := l.map fun p => .string (subS s (p.1 : Int) (p.2 : Int))
theorem linesC_snoc (s : ByteArray) (l : List (Nat × Nat)) (f i : Nat) : linesC s (l ++ [(f, i)]) = linesC s l ++ [.string (subS s (f : Int) (i : Int))] := by
  unfold linesC
  rw [List.map_append]
  rfl
theorem linesC_at {s : ByteArray} {l : List (Nat × Nat)} {i f g : Nat} {r : List Value} (h : l[i]? = some (f, g)) : (linesC s l ++ r)[0 + i * 1]? = some (.string (subS s (f : Int) (g : Int))) := by
  have hl : i < l.length := (List.getElem?_eq_some_iff.1 h).1
  rw [Nat.zero_add, Nat.mul_one, List.getElem?_append_left (by unfold linesC; rw [List.length_map]; exact hl)]
  unfold linesC
  rw [List.getElem?_map, h]
  rfl
theorem chn_le {s : ByteArray} {T : List Tok} {L C : Nat} {e : Bool} (h : Chn s T L C e) : L ≤ 4001 ∧ C ≤ 4001 := by
  cases h with
  | nil => omega
  | more h st => have := st.big; omega
theorem pl_zero : place ((0 : Nat) : Int) ((0 : Nat) : Int) = (⟨0, 0⟩ : Cx) := by decide +kernel
theorem subS_sz2 {s : ByteArray} {f g : Nat} (h : f ≤ g) (h' : g ≤ s.size) : (subS s (f : Int) (g : Int)).size = g - f := by
  unfold subS
  simp only [Int.toNat_natCast, ByteArray.size_extract]
  omega
theorem sub_sub {s : ByteArray} {f g c k : Nat} (h1 : f ≤ g) (h2 : f + c ≤ k) (h3 : k ≤ g) : subS (subS s (f : Int) (g : Int)) (c : Int) ((c + (k - (f + c)) : Nat) : Int) = subS s ((f + c : Nat) : Int) (k : Int) := by
  unfold subS
  simp only [Int.toNat_natCast]
  apply ByteArray.ext
  apply Array.ext'
  simp only [ByteArray.data_extract, Array.toList_extract, List.extract_eq_take_drop, List.drop_take, List.drop_drop, List.take_take]
  rw [show min (c + (k - (f + c)) - c) (g - f - c) = k - (f + c) by omega]
def LexE (R : LRes) : Prop := R.2.2 = 0 ∨ R.1 = []
theorem lexE_all : ∀ (n i : Nat) (s : ByteArray) (line start : Int) (any_ : Bool) (out : List Tok), LexE (lexRun s n i line start any_ out)
  | 0, i, s, line, start, any_, out => .inl rfl
  | n + 1, i, s, line, start, any_, out => by
    have feed : LexE (lexFeed (lexRun s n) s i line any_ out (lexHere i line start)) := by
      unfold lexFeed
      cases any_ <;> cases (i : Int) == ((s).size : Int) <;> first | exact .inl rfl | exact lexE_all n _ s _ _ _ _
    have hnum : LexE (lexNum (lexRun s n) s i line start out (lexHere i line start)) := by
      unfold lexNum
      cases (decRead (subS s (i : Int) ((runTo lexInNum s (s.size - (i + 1)) (i + 1) : Nat) : Int))).2
      · exact .inr rfl
      · exact lexE_all n _ s _ _ _ _
    rw [lexRun, lexStep]
    cases (i : Int) == ((s).size : Int)
    · cases (sAt s i) == 10
      · cases (sAt s i) == 32
        · cases (sAt s i) == 9
          · cases (sAt s i) == 35
            · cases lexLetter (sAt s i)
              · cases lexDigit (sAt s i)
                · cases (sAt s i) == 45
                  · exact .inr rfl
                  · exact hnum
                · exact hnum
              · show LexE (lexWord (lexRun s n) s i line start out (lexHere i line start))
                unfold lexWord
                cases decide ((w64 (((runTo lexInWord s (s.size - (i + 1)) (i + 1) : Nat) : Int) - (i : Int))) > 20)
                · exact lexE_all n _ s _ _ _ _
                · exact .inr rfl
            · exact lexE_all n _ s _ _ _ _
          · exact lexE_all n _ s _ _ _ _
        · exact lexE_all n _ s _ _ _ _
      · exact feed
    · exact feed
theorem lexAll_E (s : ByteArray) : LexE (lexAll s) := by
  unfold lexAll
  cases decide (((s).size : Int) > 4000)
  · exact lexE_all _ _ _ _ _ _ _
  · exact .inr rfl
theorem pl_len {s : ByteArray} (h : ((lexAll s).2.2 != 0) = true) : (((lexAll s).1.length : Int) == 0) = true := by
  rcases lexAll_E s with e | e
  · rw [e] at h; cases h
  · rw [e]; rfl
theorem pl_sz {s : ByteArray} (h : ((lexAll s).2.2 != 0) = false) : s.size ≤ 4000 := by
  by_cases h4 : ((s.size : Int) > 4000)
  · unfold lexAll at h
    rw [decide_eq_true h4] at h
    cases h
  · omega
theorem pl_sub {l : Nat} (h : l + 1 ≤ 4002) : w64 (((l + 1 : Nat) : Int) - 1) = (l : Int) := by rw [w64_in (by omega)]; omega
theorem pl_col {c : Nat} {row : ByteArray} (h : c = row.size) (hr : row.size ≤ 4000) : (((c + 1 : Nat) : Int) != w64 (((row).size : Int) + 1)) = false := by
  rw [w64_in (by omega), bne_eq_false_iff_eq]
  omega
theorem pl_nil {tx : ByteArray} (h : tx = (⟨#[]⟩ : ByteArray)) : sEq tx (⟨#[]⟩ : ByteArray) = true := (sEq_iff _ _).2 h
theorem pl_fit {c : Nat} {row tx : ByteArray} (h : c + tx.size ≤ row.size) (hr : row.size ≤ 4000) : decide (w64 ((c : Int) + ((tx).size : Int)) > ((row).size : Int)) = false := by
  rw [w64_in (by omega)]
  exact decide_eq_false (by omega)
theorem pl_in {c : Nat} {row tx : ByteArray} (h : c + tx.size ≤ row.size) (hr : row.size ≤ 4000) : 0 ≤ (c : Int) ∧ (c : Int) ≤ w64 ((c : Int) + ((tx).size : Int)) ∧ w64 ((c : Int) + ((tx).size : Int)) ≤ ((row).size : Int) := by
  rw [w64_in (by omega)]
  omega
theorem pl_sub_eq {c : Nat} {row tx : ByteArray} (h : c + tx.size ≤ row.size) (hr : row.size ≤ 4000) (e : subS row (c : Int) ((c + tx.size : Nat) : Int) = tx) : sEq (subS row (c : Int) (w64 ((c : Int) + ((tx).size : Int)))) tx = true := by
  rw [w64_in (by omega)]
  exact (sEq_iff _ _).2 (by rw [show (c : Int) + ((tx).size : Int) = ((c + tx.size : Nat) : Int) by omega]; exact e)
end Go.Proofs.YtalffjplbhelcaaDoor
namespace Go.Proofs.YtalffjplbhelcaaDoor
open Go.RowKit
end Go.Proofs.YtalffjplbhelcaaDoor
namespace Go.Proofs.YtalffjplbhelcaaDoor
open Go.RowKit
end Go.Proofs.YtalffjplbhelcaaDoor
namespace Go.Proofs.YtalffjplbhelcaaDoor
open Go.RowKit
end Go.Proofs.YtalffjplbhelcaaDoor
namespace Go.Proofs.YtalffjplbhelcaaDoor
open Go.RowKit
theorem bs44_1_0 (x0_0 : ByteArray) : Makes Tryd.prog (Instr.buildSlice 44 1 #[(0, .string x0_0)]) 1 [.string x0_0] 9 := ⟨fun w => by go_simp⟩
theorem slT44 : SlT Tryd.prog 44 9 1 16 := ⟨Tryd.underlying44, .string (⟨#[]⟩ : ByteArray), by kernel_rfl, rfl, by decide⟩
theorem zero32 : Zero Tryd.prog 32 [.int .i64 0, .string (⟨#[]⟩ : ByteArray), .complex .f64 ((⟨0, 0⟩ : Cx)).re ((⟨0, 0⟩ : Cx)).im] := ⟨⟨.agg #[.int .i64 0, .string (⟨#[]⟩ : ByteArray), .complex .f64 ((⟨0, 0⟩ : Cx)).re ((⟨0, 0⟩ : Cx)).im], by kernel_rfl, rfl⟩⟩
end Go.Proofs.YtalffjplbhelcaaDoor
