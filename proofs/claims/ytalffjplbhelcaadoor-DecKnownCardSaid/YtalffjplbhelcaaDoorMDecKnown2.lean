import Derived.Test.YtalffjplbhelcaaDoorMDecKnown1
import Derived.Lib.ItoaLen
set_option linter.unusedVariables false
set_option linter.unusedSimpArgs false
namespace Go.Proofs.YtalffjplbhelcaaDoor
open Go.RowKit
attribute [local irreducible] AC AR DWalk
def cutDot0 (s : ByteArray) : ByteArray × ByteArray × Bool := (bif decide ((lIndex s 46) ≥ 0) then ((subS s 0 (lIndex s 46)), (subS s (w64 ((lIndex s 46) + 1)) ((s).size : Int)), true) else (s, (⟨#[]⟩ : ByteArray), false))
set_option maxRecDepth 100000 in
theorem c_cutDot0 (s : ByteArray) (hs : s.size ≤ 9223372036854775807) : Gets Tryd.prog 49 #[.string s, .string (⟨#[46]⟩ : ByteArray)] ((fun (r : ByteArray × ByteArray × Bool) => (.tuple #[.string r.1, .string r.2.1, .bool r.2.2] : Value)) (cutDot0 s)) := by
 refine gets_fin Tryd.func49 rfl rfl rfl (aQ (aL (aA 4 (.string (⟨#[]⟩ : ByteArray)) rfl rfl (aA 5 (.string (⟨#[]⟩ : ByteArray)) rfl rfl (aA 6 (.bool false) rfl rfl (aN (aQ (aQ (aL (aM 8 (.string s) rfl rfl (aM 9 (.string (⟨#[46]⟩ : ByteArray)) rfl rfl (aC 10 (c_lIndex s 46) Tryd.func65 ⟨rfl, by decide⟩ rfl rfl (aA 7 (.int .i64 (lIndex s 46)) rfl rfl (aN (aQ (aL (aM 11 (.int .i64 (lIndex s 46)) rfl rfl (aB 12 (.bool (decide ((lIndex s 46) ≥ 0))) rfl rfl rfl (bi_geq rfl) (aN ?_)))))))))))))))))))
 refine bool_split (decide ((lIndex s 46) ≥ 0)) (fun h1 => ?_) (fun h1 => ?_)
 ·refine ac_then' (b := decide ((lIndex s 46) ≥ 0)) h1 rfl (aQ ?_)
  refine ac_draw0 (id := 3) [0, 1, 2, 3, 4, 5, 6, 7, 8, 9, 10, 11] [] _ (by kernel_rfl) follows rfl  (dw_op (d := some 13) _ rfl rfl rfl (st_move (v := .string s) rfl rfl ⟨rfl, rfl⟩) (dw_op (d := some 14) _ rfl rfl rfl (st_move (v := .int .i64 (lIndex s 46)) rfl rfl ⟨rfl, rfl⟩) (dw_op (d := some 15) _ rfl rfl rfl (st_ssh (cut_hi h1) rfl Tryd.underlying9 rfl rfl ⟨rfl, rfl⟩) (dw_op (d := some 16) _ rfl rfl rfl (st_move (v := .string s) rfl rfl ⟨rfl, rfl⟩) (dw_op (d := some 17) _ rfl rfl rfl (st_move (v := .int .i64 (lIndex s 46)) rfl rfl ⟨rfl, rfl⟩) (dw_op (d := some 18) _ rfl rfl rfl (st_move (v := .string (⟨#[46]⟩ : ByteArray)) rfl rfl ⟨rfl, rfl⟩) ?_))))))
  refine dw_op (d := some 19) _ rfl rfl rfl (st_slen (s := (⟨#[46]⟩ : ByteArray)) rfl Tryd.underlying9 rfl ⟨rfl, rfl⟩) (dw_op (d := some 20) _ rfl rfl rfl (st_bi (r := .int .i64 (w64 ((lIndex s 46) + 1))) rfl rfl rfl (bi_add rfl) ⟨rfl, rfl⟩) (dw_op (d := some 21) _ rfl rfl rfl (st_ssb (cut_lo hs h1) rfl Tryd.underlying9 rfl rfl ⟨rfl, rfl⟩) (dw_op (d := some 4) _ rfl rfl rfl (st_assign (v := .string (subS s 0 (lIndex s 46))) rfl rfl ⟨rfl, rfl⟩) (dw_op (d := some 5) _ rfl rfl rfl (st_assign (v := .string (subS s (w64 ((lIndex s 46) + 1)) ((s).size : Int))) rfl rfl ⟨rfl, rfl⟩) (dw_op (d := some 6) _ rfl rfl rfl (st_assign (v := .bool true) rfl rfl ⟨rfl, rfl⟩) (dw_nil (aN ?_)))))))
  refine ac_ret (fin_eq (v := .tuple #[.string (subS s 0 (lIndex s 46)), .string (subS s (w64 ((lIndex s 46) + 1)) ((s).size : Int)), .bool true]) (by show _ = (fun (r : ByteArray × ByteArray × Bool) => (.tuple #[.string r.1, .string r.2.1, .bool r.2.2] : Value)) (cutDot0 s); rw [cutDot0, h1] <;> rfl) (fin_ret (res_ttt rfl rfl rfl rfl)))
 ·refine ac_else' (b := decide ((lIndex s 46) ≥ 0)) h1 rfl (ac_skip (aQ (aL (aM 22 (.string s) rfl rfl (aA 4 (.string s) rfl rfl (aA 5 (.string (⟨#[]⟩ : ByteArray)) rfl rfl (aA 6 (.bool false) rfl rfl (aN (ac_ret (fin_eq (v := .tuple #[.string s, .string (⟨#[]⟩ : ByteArray), .bool false]) (by show _ = (fun (r : ByteArray × ByteArray × Bool) => (.tuple #[.string r.1, .string r.2.1, .bool r.2.2] : Value)) (cutDot0 s); rw [cutDot0, h1] <;> rfl) (fin_ret (res_ttt rfl rfl rfl rfl))))))))))))
end Go.Proofs.YtalffjplbhelcaaDoor
namespace Go.Proofs.YtalffjplbhelcaaDoor
open Go.RowKit
attribute [local irreducible] AC AR DWalk
def cutDot (s : ByteArray) : ByteArray × ByteArray × Bool := ((cutDot0 s).1, (cutDot0 s).2.1, (cutDot0 s).2.2)
set_option maxRecDepth 100000 in
theorem c_cutDot (s : ByteArray) (hs : s.size ≤ 9223372036854775807) : Gets Tryd.prog 38 #[.string s, .string (⟨#[46]⟩ : ByteArray)] ((fun (r : ByteArray × ByteArray × Bool) => (.tuple #[.string r.1, .string r.2.1, .bool r.2.2] : Value)) (cutDot s)) := by
 refine gets_fin Tryd.func38 rfl rfl rfl (aQ (aL (aA 4 (.string (⟨#[]⟩ : ByteArray)) rfl rfl (aA 5 (.string (⟨#[]⟩ : ByteArray)) rfl rfl (aA 6 (.bool false) rfl rfl (aN (aQ (aL (aM 7 (.string s) rfl rfl (aM 8 (.string (⟨#[46]⟩ : ByteArray)) rfl rfl (aC 9 (c_cutDot0 s hs) Tryd.func49 ⟨rfl, by decide⟩ rfl rfl (aX 10 (.string ((cutDot0 s).1)) rfl rfl rfl (aX 11 (.string ((cutDot0 s).2.1)) rfl rfl rfl (aX 12 (.bool ((cutDot0 s).2.2)) rfl rfl rfl (aA 4 (.string ((cutDot0 s).1)) rfl rfl (aA 5 (.string ((cutDot0 s).2.1)) rfl rfl (aA 6 (.bool ((cutDot0 s).2.2)) rfl rfl (aN (ac_ret ?_)))))))))))))))))))
 exact fin_eq (v := .tuple #[.string ((cutDot0 s).1), .string ((cutDot0 s).2.1), .bool ((cutDot0 s).2.2)]) rfl (fin_ret (res_ttt rfl rfl rfl rfl))
end Go.Proofs.YtalffjplbhelcaaDoor
namespace Go.Proofs.YtalffjplbhelcaaDoor
open Go.RowKit
attribute [local irreducible] AC AR DWalk
def decFig (s : ByteArray) (n : Int) : Bool := (bif sEq s (⟨#[]⟩ : ByteArray) then false else (bif decide (((s).size : Int) ≤ n) then sEq (lTrimFig s) (⟨#[]⟩ : ByteArray) else false))
set_option maxRecDepth 100000 in
theorem c_decFig (s : ByteArray) (n : Int) (hn : n ≤ 1000) : Gets Tryd.prog 39 #[.string s, .int .i64 n] ((fun (r : Bool) => (.bool r : Value)) (decFig s n)) := by
 refine gets_fin Tryd.func39 rfl rfl rfl (aQ (aL (aA 4 (.bool false) rfl rfl (aN (aQ (aL (aM 5 (.string s) rfl rfl (aB 6 (.bool (!(sEq s (⟨#[]⟩ : ByteArray)))) rfl rfl rfl (bi_sneq rfl) (aM 7 (.bool (!(sEq s (⟨#[]⟩ : ByteArray)))) rfl rfl ?_)))))))))
 refine bool_split (sEq s (⟨#[]⟩ : ByteArray)) (fun h1 => ?_) (fun h1 => ?_)
 ·refine aK 8 (by show ((!(sEq s (⟨#[]⟩ : ByteArray))) == true) = false; rw [h1]; rfl) rfl (aK 9 (by show ((!(sEq s (⟨#[]⟩ : ByteArray))) == true) = false; rw [h1]; rfl) rfl (aK 10 (by show ((!(sEq s (⟨#[]⟩ : ByteArray))) == true) = false; rw [h1]; rfl) rfl (aK 11 (by show ((!(sEq s (⟨#[]⟩ : ByteArray))) == true) = false; rw [h1]; rfl) rfl (ao 12 rfl rfl (st_pkf' (b := !(sEq s (⟨#[]⟩ : ByteArray))) (v := .bool false) (by rw [h1]; rfl) rfl rfl rfl (aM 13 (.bool false) rfl rfl (aK 14 rfl rfl (aK 15 rfl rfl (aK 16 rfl rfl (ao 17 rfl rfl (st_pkf (v := .bool false) rfl rfl rfl (aA 4 (.bool false) rfl rfl (aN (ac_ret ?_))))))))))))))
  exact fin_eq (v := .bool false) (by show _ = (fun (r : Bool) => (.bool r : Value)) (decFig s n); rw [decFig, h1] <;> rfl) (fin_ret (res_tmp rfl rfl))
 ·refine ar_gd (d := (some 8)) (by show ((!(sEq s (⟨#[]⟩ : ByteArray))) == true) = true; rw [h1]; rfl) rfl (st_move (v := .string s) rfl rfl (ar_gd (d := (some 9)) (by show ((!(sEq s (⟨#[]⟩ : ByteArray))) == true) = true; rw [h1]; rfl) rfl (st_slen (s := s) rfl Tryd.underlying9 rfl (ar_gd (d := (some 10)) (by show ((!(sEq s (⟨#[]⟩ : ByteArray))) == true) = true; rw [h1]; rfl) rfl (st_move (v := .int .i64 n) rfl rfl (ar_gd (d := (some 11)) (by show ((!(sEq s (⟨#[]⟩ : ByteArray))) == true) = true; rw [h1]; rfl) rfl (st_bi (r := .bool (decide (((s).size : Int) ≤ n))) rfl rfl rfl (bi_leq rfl) ?_)))))))
  refine ao 12 rfl rfl (st_pkt' (b := !(sEq s (⟨#[]⟩ : ByteArray))) (v := .bool (decide (((s).size : Int) ≤ n))) (by rw [h1]; rfl) rfl rfl rfl (aM 13 (.bool (decide (((s).size : Int) ≤ n))) rfl rfl ?_))
  refine bool_split (decide (((s).size : Int) ≤ n)) (fun h2 => ?_) (fun h2 => ?_)
  ·refine ar_gd (d := (some 14)) (by show ((decide (((s).size : Int) ≤ n)) == true) = true; rw [h2]; rfl) rfl (st_move (v := .string s) rfl rfl (ar_gd (d := (some 15)) (by show ((decide (((s).size : Int) ≤ n)) == true) = true; rw [h2]; rfl) rfl (st_cf (c_lTrimFig s (fig_sz hn h2)) Tryd.func50 rfl (by decide) rfl rfl rfl (ar_gd (d := (some 16)) (by show ((decide (((s).size : Int) ≤ n)) == true) = true; rw [h2]; rfl) rfl (st_bi (r := .bool (sEq (lTrimFig s) (⟨#[]⟩ : ByteArray))) rfl rfl rfl (bi_seql rfl) (ao 17 rfl rfl (st_pkt' (b := decide (((s).size : Int) ≤ n)) (v := .bool (sEq (lTrimFig s) (⟨#[]⟩ : ByteArray))) h2 rfl rfl rfl ?_)))))))
   refine aA 4 (.bool (sEq (lTrimFig s) (⟨#[]⟩ : ByteArray))) rfl rfl (aN (ac_ret (fin_eq (v := .bool (sEq (lTrimFig s) (⟨#[]⟩ : ByteArray))) (by show _ = (fun (r : Bool) => (.bool r : Value)) (decFig s n); rw [decFig, h2, h1] <;> rfl) (fin_ret (res_tmp rfl rfl)))))
  ·refine aK 14 (by show ((decide (((s).size : Int) ≤ n)) == true) = false; rw [h2]; rfl) rfl (aK 15 (by show ((decide (((s).size : Int) ≤ n)) == true) = false; rw [h2]; rfl) rfl (aK 16 (by show ((decide (((s).size : Int) ≤ n)) == true) = false; rw [h2]; rfl) rfl (ao 17 rfl rfl (st_pkf' (b := decide (((s).size : Int) ≤ n)) (v := .bool false) h2 rfl rfl rfl (aA 4 (.bool false) rfl rfl (aN (ac_ret (fin_eq (v := .bool false) (by show _ = (fun (r : Bool) => (.bool r : Value)) (decFig s n); rw [decFig, h2, h1] <;> rfl) (fin_ret (res_tmp rfl rfl))))))))))
end Go.Proofs.YtalffjplbhelcaaDoor
namespace Go.Proofs.YtalffjplbhelcaaDoor
theorem sEq_iff (a b : ByteArray) : sEq a b = true ↔ a = b := by
  unfold sEq
  rw [beq_iff_eq, Lib.toList_data, Lib.toList_data]
  constructor
  · intro h
    rw [← Lib.mk_data a, ← Lib.mk_data b, h]
  · intro h; rw [h]
def IsDig (b : UInt8) : Prop := 48 ≤ b.toNat ∧ b.toNat ≤ 57
theorem fig_dig : ∀ b : UInt8, (figs.data.toList.contains b) = true → IsDig b := by
  intro b h
  have h2 : b ∈ figs.data.toList := List.contains_iff_mem.1 h
  simp only [figs, List.mem_cons, List.not_mem_nil, or_false] at h2
  rcases h2 with rfl | rfl | rfl | rfl | rfl | rfl | rfl | rfl | rfl | rfl <;> exact ⟨by decide, by decide⟩
theorem dig_fig : ∀ b : UInt8, IsDig b → (figs.data.toList.contains b) = true := by
  intro b h
  obtain ⟨h1, h2⟩ := h
  have e : b = UInt8.ofNat b.toNat := by simp
  rw [e]
  generalize b.toNat = n at *
  rcases (by omega : n = 48 ∨ n = 49 ∨ n = 50 ∨ n = 51 ∨ n = 52 ∨ n = 53 ∨ n = 54 ∨ n = 55 ∨ n = 56 ∨ n = 57) with rfl | rfl | rfl | rfl | rfl | rfl | rfl | rfl | rfl | rfl <;> decide
theorem dropWhile_nil {α : Type} (p : α → Bool) : ∀ l : List α, l.dropWhile p = [] ↔ ∀ b ∈ l, p b = true
  | [] => by simp
  | a :: l => by
    rw [List.dropWhile_cons]
    split
    · rename_i h; rw [dropWhile_nil p l]; simp [h]
    · rename_i h; simp [h]
theorem dropWhile_sub {α : Type} (p : α → Bool) : ∀ l : List α, (∀ b ∈ l.dropWhile p, p b = true) → l.dropWhile p = []
  | [], _ => rfl
  | a :: l, h => by
    rw [List.dropWhile_cons] at h ⊢
    split
    · rename_i h1; rw [if_pos h1] at h; exact dropWhile_sub p l h
    · rename_i h1; rw [if_neg h1] at h; exact absurd (h a List.mem_cons_self) h1
theorem trimS_nil (l cs : List UInt8) : Lib.trimS l cs = [] ↔ ∀ b ∈ l, cs.contains b = true := by
  unfold Lib.trimS Lib.trimLeftS Lib.trimRightS
  rw [dropWhile_nil]
  constructor
  · intro h
    have h2 : l.reverse.dropWhile (cs.contains ·) = [] := dropWhile_sub _ _ (fun b hb => h b (List.mem_reverse.2 hb))
    rw [dropWhile_nil] at h2
    exact fun b hb => h2 b (List.mem_reverse.2 hb)
  · intro h
    have h2 : l.reverse.dropWhile (cs.contains ·) = [] := (dropWhile_nil _ _).2 (fun b hb => h b (List.mem_reverse.1 hb))
    rw [h2]; simp
theorem decFig_iff (s : ByteArray) (n : Int) : decFig s n = true ↔ s.data.toList ≠ [] ∧ (s.size : Int) ≤ n ∧ ∀ b ∈ s.data.toList, IsDig b := by
  have e0 : sEq s (⟨#[]⟩ : ByteArray) = true ↔ s.data.toList = [] := by
    rw [sEq_iff]
    constructor
    · rintro rfl; rfl
    · intro h; rw [← Lib.mk_data s, h]
  have e1 : sEq (lTrimFig s) (⟨#[]⟩ : ByteArray) = true ↔ ∀ b ∈ s.data.toList, IsDig b := by
    rw [sEq_iff]
    unfold lTrimFig byA
    constructor
    · intro h
      have h2 : Lib.trimS s.data.toList figs.data.toList = [] := by
        have := congrArg (fun x : ByteArray => x.data.toList) h
        simpa using this
      exact fun b hb => fig_dig b ((trimS_nil _ _).1 h2 b hb)
    · intro h
      rw [(trimS_nil _ _).2 (fun b hb => dig_fig b (h b hb))]
  unfold decFig
  cases h : sEq s (⟨#[]⟩ : ByteArray)
  · have h0 : s.data.toList ≠ [] := fun k => by rw [e0.2 k] at h; cases h
    rw [cond_false]
    by_cases k : (s.size : Int) ≤ n
    · rw [decide_eq_true k, cond_true, e1]; simp [h0, k]
    · rw [decide_eq_false k, cond_false]; simp [k]
  · rw [cond_true]; simp [e0.1 h]
def rdBody (s : ByteArray) : ByteArray := (lCutPrefix s (⟨#[45]⟩ : ByteArray)).1
def rdMinus (s : ByteArray) : Bool := (lCutPrefix s (⟨#[45]⟩ : ByteArray)).2
def rdWhole (s : ByteArray) : ByteArray := (cutDot (rdBody s)).1
def rdRest (s : ByteArray) : ByteArray := (cutDot (rdBody s)).2.1
def rdPoint (s : ByteArray) : Bool := (cutDot (rdBody s)).2.2
theorem body_sz {s : ByteArray} (hs : s.size ≤ 9223372036854775807) : (rdBody s).size ≤ 9223372036854775807 := by
  have : (rdBody s).size ≤ s.size := by
    unfold rdBody lCutPrefix
    rw [byA_size, Lib.size_eq s]
    unfold Lib.trimPrefix
    split
    · rw [List.length_drop]; omega
    · exact Nat.le_refl _
  omega
theorem fig_le {s : ByteArray} (h : decFig s 5 = true) : s.size ≤ 5 := by have := ((decFig_iff _ _).1 h).2.1; omega
def RestOk (s : ByteArray) : Prop := rdPoint s = false ∨ (rdPoint s = true ∧ decFig (rdRest s) 6 = true)
theorem rest_none {s : ByteArray} (h : rdPoint s = false) : rdRest s = (⟨#[]⟩ : ByteArray) := by
  unfold rdPoint at h
  unfold rdRest
  unfold cutDot at *
  unfold cutDot0 at *
  cases hd : decide (lIndex (rdBody s) 46 ≥ 0)
  · rfl
  · rw [hd] at h; cases h
theorem rest_6 {s : ByteArray} (h : RestOk s) : (rdRest s).size ≤ 6 ∧ ∀ b ∈ (rdRest s).data.toList, IsDig b := by
  rcases h with h | ⟨_, h⟩
  · rw [rest_none h]; exact ⟨by decide, by simp⟩
  · have := (decFig_iff _ _).1 h
    exact ⟨by omega, this.2.2⟩
theorem rest_sz {s : ByteArray} (h : RestOk s) : (rdRest s).size ≤ 9223372036854775807 := by have := (rest_6 h).1; omega
theorem trimB_sub (l : List UInt8) (c : UInt8) : (∀ b ∈ Lib.trimRightB l c, b ∈ l) ∧ (Lib.trimRightB l c).length ≤ l.length := by
  unfold Lib.trimRightB
  have hs : List.Sublist (l.reverse.dropWhile (· == c)) l.reverse := List.dropWhile_sublist _
  constructor
  · intro b hb
    have := hs.subset (List.mem_reverse.1 hb)
    exact List.mem_reverse.1 this
  · rw [List.length_reverse]
    have := hs.length_le
    simpa using this
theorem trim_6 {s : ByteArray} (h : RestOk s) : (lTrimRight (rdRest s) 48).size ≤ 6 ∧ ∀ b ∈ (lTrimRight (rdRest s) 48).data.toList, IsDig b := by
  have h1 := rest_6 h
  have h2 := trimB_sub (rdRest s).data.toList 48
  unfold lTrimRight
  rw [byA_size]
  rw [Lib.size_eq] at h1
  exact ⟨by omega, fun b hb => h1.2 b (h2.1 b hb)⟩
theorem rest_sz2 {s : ByteArray} (h : RestOk s) : (lTrimRight (rdRest s) 48).size ≤ 6 := (trim_6 h).1
theorem atoi_sz {s : ByteArray} (hw : decFig (rdWhole s) 5 = true) (h : RestOk s) : (rdWhole s ++ lTrimRight (rdRest s) 48).size ≤ 18 := by
  have := fig_le hw
  have := rest_sz2 h
  rw [ByteArray.size_append']
  omega
theorem decFrom_some : ∀ (l : List UInt8) (a : Nat), (∀ b ∈ l, IsDig b) → ∃ n, Lib.decFrom a l = some n
  | [], a, _ => ⟨a, rfl⟩
  | b :: l, a, h => by
    have hb := h b List.mem_cons_self
    have e : Lib.digitVal b = some (b.toNat - 48) := by unfold Lib.digitVal; exact if_pos hb
    rw [Lib.decFrom, e]
    exact decFrom_some l _ (fun c hc => h c (List.mem_cons_of_mem _ hc))
theorem atoi_digs {l : List UInt8} (h0 : l ≠ []) (h : ∀ b ∈ l, IsDig b) : ∃ n : Nat, Lib.decFrom 0 l = some n ∧ Lib.atoi l = some (n : Int) := by
  obtain ⟨n, hn⟩ := decFrom_some l 0 h
  refine ⟨n, hn, ?_⟩
  cases l with
  | nil => exact absurd rfl h0
  | cons b r =>
    have hb := h b List.mem_cons_self
    have h1 : (b == 45) = false := by
      rw [beq_eq_false_iff_ne]; rintro rfl; exact absurd hb.1 (by decide)
    have h2 : (b == 43) = false := by
      rw [beq_eq_false_iff_ne]; rintro rfl; exact absurd hb.1 (by decide)
    rw [Lib.atoi, h1, h2]
    simp [Lib.decNat, hn]
theorem app_list (a b : ByteArray) : (a ++ b).data.toList = a.data.toList ++ b.data.toList := by simp
theorem atoi_ok {s : ByteArray} (hw : decFig (rdWhole s) 5 = true) (h : RestOk s) : (Lib.atoi (rdWhole s ++ lTrimRight (rdRest s) 48).data.toList).isSome = true := by
  have h1 := (decFig_iff _ _).1 hw
  have h2 := trim_6 h
  rw [app_list]
  obtain ⟨n, _, hn⟩ := atoi_digs (l := (rdWhole s).data.toList ++ (lTrimRight (rdRest s) 48).data.toList) (by simp [h1.1]) (fun b hb => by
    rcases List.mem_append.1 hb with hb | hb
    · exact h1.2.2 b hb
    · exact h2.2 b hb)
  rw [hn]; rfl
end Go.Proofs.YtalffjplbhelcaaDoor
namespace Go.Proofs.YtalffjplbhelcaaDoor
open Go.RowKit
attribute [local irreducible] AC AR DWalk
def decRead (s : ByteArray) : Dec × Bool := (bif decFig (rdWhole s) 5 then (bif rdPoint s then (bif decFig (rdRest s) 6 then (bif rdMinus s then (bif (lAtoi ((rdWhole s) ++ (lTrimRight (rdRest s) 48))) == 0 then ((⟨0, 0⟩ : Dec), false) else ((⟨w64 (0 - (lAtoi ((rdWhole s) ++ (lTrimRight (rdRest s) 48)))), (((lTrimRight (rdRest s) 48)).size : Int)⟩ : Dec), true)) else ((⟨(lAtoi ((rdWhole s) ++ (lTrimRight (rdRest s) 48))), (((lTrimRight (rdRest s) 48)).size : Int)⟩ : Dec), true)) else ((⟨0, 0⟩ : Dec), false)) else (bif rdMinus s then (bif (lAtoi ((rdWhole s) ++ (lTrimRight (rdRest s) 48))) == 0 then ((⟨0, 0⟩ : Dec), false) else ((⟨w64 (0 - (lAtoi ((rdWhole s) ++ (lTrimRight (rdRest s) 48)))), (((lTrimRight (rdRest s) 48)).size : Int)⟩ : Dec), true)) else ((⟨(lAtoi ((rdWhole s) ++ (lTrimRight (rdRest s) 48))), (((lTrimRight (rdRest s) 48)).size : Int)⟩ : Dec), true))) else ((⟨0, 0⟩ : Dec), false))
set_option maxRecDepth 100000 in
set_option maxHeartbeats 4000000 in
theorem c_decRead (s : ByteArray) (hs : s.size ≤ 9223372036854775807) : Gets Tryd.prog 17 #[.string s] ((fun (r : Dec × Bool) => (.tuple #[.agg #[.int .i64 r.1.c, .int .i64 r.1.scale], .bool r.2] : Value)) (decRead s)) := by
 refine gets_fin Tryd.func17 rfl rfl rfl (aQ (aL (ao 2 rfl rfl (st_new zero52 rfl fun g0 => (aA 3 (.bool false) rfl rfl (aN (aQ (aL (aM 12 (.string s) rfl rfl (aC 13 (c_lCutPrefix s (⟨#[45]⟩ : ByteArray)) Tryd.func37 ⟨rfl, by decide⟩ rfl rfl (aM 11 (.tuple #[.string (rdBody s), .bool (rdMinus s)]) rfl rfl (aX 14 (.string (rdBody s)) rfl rfl rfl (aX 15 (.bool (rdMinus s)) rfl rfl rfl (aA 4 (.string (rdBody s)) rfl rfl (aA 5 (.bool (rdMinus s)) rfl rfl (aN (aQ (aL (aM 17 (.string (rdBody s)) rfl rfl (aC 18 (c_cutDot (rdBody s) (body_sz hs)) Tryd.func38 ⟨rfl, by decide⟩ rfl rfl ?_))))))))))))))))))))
 refine aM 16 (.tuple #[.string (rdWhole s), .string (rdRest s), .bool (rdPoint s)]) rfl rfl (aX 19 (.string (rdWhole s)) rfl rfl rfl (aX 20 (.string (rdRest s)) rfl rfl rfl (aX 21 (.bool (rdPoint s)) rfl rfl rfl (aA 6 (.string (rdWhole s)) rfl rfl (aA 7 (.string (rdRest s)) rfl rfl (aA 8 (.bool (rdPoint s)) rfl rfl (aN (aQ (aQ (aL (aM 22 (.string (rdWhole s)) rfl rfl (aC 23 (c_decFig (rdWhole s) 5 (by decide)) Tryd.func39 ⟨rfl, by decide⟩ rfl rfl (ao 24 rfl rfl (st_un (v := .bool (!(decFig (rdWhole s) 5))) rfl rfl (un_not rfl) (aM 25 (.bool (!(decFig (rdWhole s) 5))) rfl rfl ?_)))))))))))))))
 refine bool_split (decFig (rdWhole s) 5) (fun h1 => ?_) (fun h1 => ?_)
 ·refine ar_gd (d := (some 26)) (by show ((!(decFig (rdWhole s) 5)) == false) = true; rw [h1]; rfl) rfl (st_move (v := .bool (rdPoint s)) rfl rfl (ar_gd (d := (some 27)) (by show ((!(decFig (rdWhole s) 5)) == false) = true; rw [h1]; rfl) rfl (st_move (v := .bool (rdPoint s)) rfl rfl ?_)))
  refine bool_split (rdPoint s) (fun h2 => ?_) (fun h2 => ?_)
  ·refine ar_gd (d := (some 28)) (by show ((rdPoint s) == true) = true; rw [h2]; rfl) rfl (st_move (v := .string (rdRest s)) rfl rfl (ar_gd (d := (some 29)) (by show ((rdPoint s) == true) = true; rw [h2]; rfl) rfl (st_cf (c_decFig (rdRest s) 6 (by decide)) Tryd.func39 rfl (by decide) rfl rfl rfl (ar_gd (d := (some 30)) (by show ((rdPoint s) == true) = true; rw [h2]; rfl) rfl (st_un (v := .bool (!(decFig (rdRest s) 6))) rfl rfl (un_not rfl) (ar_gd (d := (some 31)) (by show ((!(decFig (rdWhole s) 5)) == false) = true; rw [h1]; rfl) rfl (st_pkt' (b := rdPoint s) (v := .bool (!(decFig (rdRest s) 6))) h2 rfl rfl rfl ?_)))))))
   refine ao 32 rfl rfl (st_pkf' (b := !(decFig (rdWhole s) 5)) (v := .bool (!(decFig (rdRest s) 6))) (by rw [h1]; rfl) rfl rfl rfl (aN ?_))
   refine bool_split (decFig (rdRest s) 6) (fun h3 => ?_) (fun h3 => ?_)
   ·refine ac_else' (b := !(decFig (rdRest s) 6)) (by rw [h3]; rfl) rfl (ac_skip (aQ (aL (aM 34 (.string (rdRest s)) rfl rfl (aC 35 (c_lTrimRight (rdRest s) 48 (by decide) (rest_sz (.inr ⟨h2, h3⟩))) Tryd.func40 ⟨rfl, by decide⟩ rfl rfl (aA 7 (.string (lTrimRight (rdRest s) 48)) rfl rfl (aN (aQ (aL (aM 37 (.string (rdWhole s)) rfl rfl (aM 38 (.string (lTrimRight (rdRest s) 48)) rfl rfl (aB 39 (.string ((rdWhole s) ++ (lTrimRight (rdRest s) 48))) rfl rfl rfl (bi_sadd (sz_two (fig_le h1) (rest_sz2 (.inr ⟨h2, h3⟩)) (by decide))) ?_))))))))))))
    refine aC 40 (c_lAtoi ((rdWhole s) ++ (lTrimRight (rdRest s) 48)) (atoi_sz h1 (.inr ⟨h2, h3⟩)) (atoi_ok h1 (.inr ⟨h2, h3⟩))) Tryd.func41 ⟨rfl, by decide⟩ rfl rfl (aM 36 (.tuple #[.int .i64 (lAtoi ((rdWhole s) ++ (lTrimRight (rdRest s) 48))), .nilIface]) rfl rfl (aX 41 (.int .i64 (lAtoi ((rdWhole s) ++ (lTrimRight (rdRest s) 48)))) rfl rfl rfl (aX 42 (.nilIface) rfl rfl rfl (aA 9 (.int .i64 (lAtoi ((rdWhole s) ++ (lTrimRight (rdRest s) 48)))) rfl rfl (aA 10 (.nilIface) rfl rfl (aN (aQ (aQ (aL (aM 43 (.bool (rdMinus s)) rfl rfl (aM 44 (.bool (rdMinus s)) rfl rfl ?_)))))))))))
    refine bool_split (rdMinus s) (fun h4 => ?_) (fun h4 => ?_)
    ·refine ar_gd (d := (some 45)) (by show ((rdMinus s) == true) = true; rw [h4]; rfl) rfl (st_move (v := .int .i64 (lAtoi ((rdWhole s) ++ (lTrimRight (rdRest s) 48)))) rfl rfl (ar_gd (d := (some 46)) (by show ((rdMinus s) == true) = true; rw [h4]; rfl) rfl (st_bi (r := .bool ((lAtoi ((rdWhole s) ++ (lTrimRight (rdRest s) 48))) == 0)) rfl rfl rfl (bi_eql rfl) (ao 47 rfl rfl (st_pkt' (b := rdMinus s) (v := .bool ((lAtoi ((rdWhole s) ++ (lTrimRight (rdRest s) 48))) == 0)) h4 rfl rfl rfl (aN ?_))))))
     refine bool_split ((lAtoi ((rdWhole s) ++ (lTrimRight (rdRest s) 48))) == 0) (fun h5 => ?_) (fun h5 => ?_)
     ·refine ac_then' (b := (lAtoi ((rdWhole s) ++ (lTrimRight (rdRest s) 48))) == 0) h5 rfl (aQ (aL (ao 48 rfl rfl (st_bd (us := []) (v := .agg #[.int .i64 0, .int .i64 0]) rfl rfl (bd52_ ) (aS [.int .i64 0, .int .i64 0] agg52 0 rfl rfl rfl rfl rfl rfl (aA 3 (.bool false) rfl rfl (aN (ac_ret (fin_eq (v := .tuple #[.agg #[.int .i64 0, .int .i64 0], .bool false]) (by show _ = (fun (r : Dec × Bool) => (.tuple #[.agg #[.int .i64 r.1.c, .int .i64 r.1.scale], .bool r.2] : Value)) (decRead s); rw [decRead, h5, h4, h3, h2, h1] <;> rfl) (fin_ret (res_ct (vs := [.int .i64 0, .int .i64 0]) agg52 0 rfl rfl rfl rfl rfl rfl rfl)))))))))))
     ·refine ac_else' (b := (lAtoi ((rdWhole s) ++ (lTrimRight (rdRest s) 48))) == 0) h5 rfl (ac_skip (aQ (aQ (aL (aM 49 (.bool (rdMinus s)) rfl rfl (aN (ac_then' (b := rdMinus s) h4 rfl (aL (aM 50 (.int .i64 (lAtoi ((rdWhole s) ++ (lTrimRight (rdRest s) 48)))) rfl rfl (ao 51 rfl rfl (st_un (v := .int .i64 (w64 (0 - (lAtoi ((rdWhole s) ++ (lTrimRight (rdRest s) 48)))))) rfl rfl (un_neg rfl) (aA 9 (.int .i64 (w64 (0 - (lAtoi ((rdWhole s) ++ (lTrimRight (rdRest s) 48)))))) rfl rfl (aN (aQ (aL (aM 52 (.int .i64 (w64 (0 - (lAtoi ((rdWhole s) ++ (lTrimRight (rdRest s) 48)))))) rfl rfl (aM 53 (.string (lTrimRight (rdRest s) 48)) rfl rfl ?_)))))))))))))))))
      refine ao 54 rfl rfl (st_slen (s := (lTrimRight (rdRest s) 48)) rfl Tryd.underlying9 rfl (ao 55 rfl rfl (st_bd (us := [(0, .int .i64 (w64 (0 - (lAtoi ((rdWhole s) ++ (lTrimRight (rdRest s) 48)))))), (1, .int .i64 (((lTrimRight (rdRest s) 48)).size : Int))]) (v := .agg #[.int .i64 (w64 (0 - (lAtoi ((rdWhole s) ++ (lTrimRight (rdRest s) 48))))), .int .i64 (((lTrimRight (rdRest s) 48)).size : Int)]) rfl rfl (bd52_0_1 _ _) (aS [.int .i64 (w64 (0 - (lAtoi ((rdWhole s) ++ (lTrimRight (rdRest s) 48))))), .int .i64 (((lTrimRight (rdRest s) 48)).size : Int)] agg52 0 rfl rfl rfl rfl rfl rfl (aA 3 (.bool true) rfl rfl (aN (ac_ret ?_)))))))
      exact fin_eq (v := .tuple #[.agg #[.int .i64 (w64 (0 - (lAtoi ((rdWhole s) ++ (lTrimRight (rdRest s) 48))))), .int .i64 (((lTrimRight (rdRest s) 48)).size : Int)], .bool true]) (by show _ = (fun (r : Dec × Bool) => (.tuple #[.agg #[.int .i64 r.1.c, .int .i64 r.1.scale], .bool r.2] : Value)) (decRead s); rw [decRead, h5, h4, h3, h2, h1] <;> rfl) (fin_ret (res_ct (vs := [.int .i64 (w64 (0 - (lAtoi ((rdWhole s) ++ (lTrimRight (rdRest s) 48))))), .int .i64 (((lTrimRight (rdRest s) 48)).size : Int)]) agg52 0 rfl rfl rfl rfl rfl rfl rfl))
    ·refine aK 45 (by show ((rdMinus s) == true) = false; rw [h4]; rfl) rfl (aK 46 (by show ((rdMinus s) == true) = false; rw [h4]; rfl) rfl (ao 47 rfl rfl (st_pkf' (b := rdMinus s) (v := .bool false) h4 rfl rfl rfl (aN (ac_else rfl (ac_skip (aQ (aQ (aL (aM 49 (.bool (rdMinus s)) rfl rfl (aN (ac_else' (b := rdMinus s) h4 rfl (ac_skip (aQ (aL (aM 52 (.int .i64 (lAtoi ((rdWhole s) ++ (lTrimRight (rdRest s) 48)))) rfl rfl (aM 53 (.string (lTrimRight (rdRest s) 48)) rfl rfl (ao 54 rfl rfl (st_slen (s := (lTrimRight (rdRest s) 48)) rfl Tryd.underlying9 rfl ?_)))))))))))))))))))
     refine ao 55 rfl rfl (st_bd (us := [(0, .int .i64 (lAtoi ((rdWhole s) ++ (lTrimRight (rdRest s) 48)))), (1, .int .i64 (((lTrimRight (rdRest s) 48)).size : Int))]) (v := .agg #[.int .i64 (lAtoi ((rdWhole s) ++ (lTrimRight (rdRest s) 48))), .int .i64 (((lTrimRight (rdRest s) 48)).size : Int)]) rfl rfl (bd52_0_1 _ _) (aS [.int .i64 (lAtoi ((rdWhole s) ++ (lTrimRight (rdRest s) 48))), .int .i64 (((lTrimRight (rdRest s) 48)).size : Int)] agg52 0 rfl rfl rfl rfl rfl rfl (aA 3 (.bool true) rfl rfl (aN (ac_ret ?_)))))
     exact fin_eq (v := .tuple #[.agg #[.int .i64 (lAtoi ((rdWhole s) ++ (lTrimRight (rdRest s) 48))), .int .i64 (((lTrimRight (rdRest s) 48)).size : Int)], .bool true]) (by show _ = (fun (r : Dec × Bool) => (.tuple #[.agg #[.int .i64 r.1.c, .int .i64 r.1.scale], .bool r.2] : Value)) (decRead s); rw [decRead, h4, h3, h2, h1] <;> rfl) (fin_ret (res_ct (vs := [.int .i64 (lAtoi ((rdWhole s) ++ (lTrimRight (rdRest s) 48))), .int .i64 (((lTrimRight (rdRest s) 48)).size : Int)]) agg52 0 rfl rfl rfl rfl rfl rfl rfl))
   ·refine ac_then' (b := !(decFig (rdRest s) 6)) (by rw [h3]; rfl) rfl (aQ (aL (ao 33 rfl rfl (st_bd (us := []) (v := .agg #[.int .i64 0, .int .i64 0]) rfl rfl (bd52_ ) (aS [.int .i64 0, .int .i64 0] agg52 0 rfl rfl rfl rfl rfl rfl (aA 3 (.bool false) rfl rfl (aN (ac_ret (fin_eq (v := .tuple #[.agg #[.int .i64 0, .int .i64 0], .bool false]) (by show _ = (fun (r : Dec × Bool) => (.tuple #[.agg #[.int .i64 r.1.c, .int .i64 r.1.scale], .bool r.2] : Value)) (decRead s); rw [decRead, h3, h2, h1] <;> rfl) (fin_ret (res_ct (vs := [.int .i64 0, .int .i64 0]) agg52 0 rfl rfl rfl rfl rfl rfl rfl)))))))))))
  ·refine aK 28 (by show ((rdPoint s) == true) = false; rw [h2]; rfl) rfl (aK 29 (by show ((rdPoint s) == true) = false; rw [h2]; rfl) rfl (aK 30 (by show ((rdPoint s) == true) = false; rw [h2]; rfl) rfl (ar_gd (d := (some 31)) (by show ((!(decFig (rdWhole s) 5)) == false) = true; rw [h1]; rfl) rfl (st_pkf' (b := rdPoint s) (v := .bool false) h2 rfl rfl rfl (ao 32 rfl rfl (st_pkf' (b := !(decFig (rdWhole s) 5)) (v := .bool false) (by rw [h1]; rfl) rfl rfl rfl (aN (ac_else rfl (ac_skip (aQ (aL (aM 34 (.string (rdRest s)) rfl rfl (aC 35 (c_lTrimRight (rdRest s) 48 (by decide) (rest_sz (.inl h2))) Tryd.func40 ⟨rfl, by decide⟩ rfl rfl ?_)))))))))))))
   refine aA 7 (.string (lTrimRight (rdRest s) 48)) rfl rfl (aN (aQ (aL (aM 37 (.string (rdWhole s)) rfl rfl (aM 38 (.string (lTrimRight (rdRest s) 48)) rfl rfl (aB 39 (.string ((rdWhole s) ++ (lTrimRight (rdRest s) 48))) rfl rfl rfl (bi_sadd (sz_two (fig_le h1) (rest_sz2 (.inl h2)) (by decide))) (aC 40 (c_lAtoi ((rdWhole s) ++ (lTrimRight (rdRest s) 48)) (atoi_sz h1 (.inl h2)) (atoi_ok h1 (.inl h2))) Tryd.func41 ⟨rfl, by decide⟩ rfl rfl (aM 36 (.tuple #[.int .i64 (lAtoi ((rdWhole s) ++ (lTrimRight (rdRest s) 48))), .nilIface]) rfl rfl (aX 41 (.int .i64 (lAtoi ((rdWhole s) ++ (lTrimRight (rdRest s) 48)))) rfl rfl rfl (aX 42 (.nilIface) rfl rfl rfl ?_))))))))))
   refine aA 9 (.int .i64 (lAtoi ((rdWhole s) ++ (lTrimRight (rdRest s) 48)))) rfl rfl (aA 10 (.nilIface) rfl rfl (aN (aQ (aQ (aL (aM 43 (.bool (rdMinus s)) rfl rfl (aM 44 (.bool (rdMinus s)) rfl rfl ?_)))))))
   refine bool_split (rdMinus s) (fun h3 => ?_) (fun h3 => ?_)
   ·refine ar_gd (d := (some 45)) (by show ((rdMinus s) == true) = true; rw [h3]; rfl) rfl (st_move (v := .int .i64 (lAtoi ((rdWhole s) ++ (lTrimRight (rdRest s) 48)))) rfl rfl (ar_gd (d := (some 46)) (by show ((rdMinus s) == true) = true; rw [h3]; rfl) rfl (st_bi (r := .bool ((lAtoi ((rdWhole s) ++ (lTrimRight (rdRest s) 48))) == 0)) rfl rfl rfl (bi_eql rfl) (ao 47 rfl rfl (st_pkt' (b := rdMinus s) (v := .bool ((lAtoi ((rdWhole s) ++ (lTrimRight (rdRest s) 48))) == 0)) h3 rfl rfl rfl (aN ?_))))))
    refine bool_split ((lAtoi ((rdWhole s) ++ (lTrimRight (rdRest s) 48))) == 0) (fun h4 => ?_) (fun h4 => ?_)
    ·refine ac_then' (b := (lAtoi ((rdWhole s) ++ (lTrimRight (rdRest s) 48))) == 0) h4 rfl (aQ (aL (ao 48 rfl rfl (st_bd (us := []) (v := .agg #[.int .i64 0, .int .i64 0]) rfl rfl (bd52_ ) (aS [.int .i64 0, .int .i64 0] agg52 0 rfl rfl rfl rfl rfl rfl (aA 3 (.bool false) rfl rfl (aN (ac_ret (fin_eq (v := .tuple #[.agg #[.int .i64 0, .int .i64 0], .bool false]) (by show _ = (fun (r : Dec × Bool) => (.tuple #[.agg #[.int .i64 r.1.c, .int .i64 r.1.scale], .bool r.2] : Value)) (decRead s); rw [decRead, h4, h3, h2, h1] <;> rfl) (fin_ret (res_ct (vs := [.int .i64 0, .int .i64 0]) agg52 0 rfl rfl rfl rfl rfl rfl rfl)))))))))))
    ·refine ac_else' (b := (lAtoi ((rdWhole s) ++ (lTrimRight (rdRest s) 48))) == 0) h4 rfl (ac_skip (aQ (aQ (aL (aM 49 (.bool (rdMinus s)) rfl rfl (aN (ac_then' (b := rdMinus s) h3 rfl (aL (aM 50 (.int .i64 (lAtoi ((rdWhole s) ++ (lTrimRight (rdRest s) 48)))) rfl rfl (ao 51 rfl rfl (st_un (v := .int .i64 (w64 (0 - (lAtoi ((rdWhole s) ++ (lTrimRight (rdRest s) 48)))))) rfl rfl (un_neg rfl) (aA 9 (.int .i64 (w64 (0 - (lAtoi ((rdWhole s) ++ (lTrimRight (rdRest s) 48)))))) rfl rfl (aN (aQ (aL (aM 52 (.int .i64 (w64 (0 - (lAtoi ((rdWhole s) ++ (lTrimRight (rdRest s) 48)))))) rfl rfl (aM 53 (.string (lTrimRight (rdRest s) 48)) rfl rfl ?_)))))))))))))))))
     refine ao 54 rfl rfl (st_slen (s := (lTrimRight (rdRest s) 48)) rfl Tryd.underlying9 rfl (ao 55 rfl rfl (st_bd (us := [(0, .int .i64 (w64 (0 - (lAtoi ((rdWhole s) ++ (lTrimRight (rdRest s) 48)))))), (1, .int .i64 (((lTrimRight (rdRest s) 48)).size : Int))]) (v := .agg #[.int .i64 (w64 (0 - (lAtoi ((rdWhole s) ++ (lTrimRight (rdRest s) 48))))), .int .i64 (((lTrimRight (rdRest s) 48)).size : Int)]) rfl rfl (bd52_0_1 _ _) (aS [.int .i64 (w64 (0 - (lAtoi ((rdWhole s) ++ (lTrimRight (rdRest s) 48))))), .int .i64 (((lTrimRight (rdRest s) 48)).size : Int)] agg52 0 rfl rfl rfl rfl rfl rfl (aA 3 (.bool true) rfl rfl (aN (ac_ret ?_)))))))
     exact fin_eq (v := .tuple #[.agg #[.int .i64 (w64 (0 - (lAtoi ((rdWhole s) ++ (lTrimRight (rdRest s) 48))))), .int .i64 (((lTrimRight (rdRest s) 48)).size : Int)], .bool true]) (by show _ = (fun (r : Dec × Bool) => (.tuple #[.agg #[.int .i64 r.1.c, .int .i64 r.1.scale], .bool r.2] : Value)) (decRead s); rw [decRead, h4, h3, h2, h1] <;> rfl) (fin_ret (res_ct (vs := [.int .i64 (w64 (0 - (lAtoi ((rdWhole s) ++ (lTrimRight (rdRest s) 48))))), .int .i64 (((lTrimRight (rdRest s) 48)).size : Int)]) agg52 0 rfl rfl rfl rfl rfl rfl rfl))
   ·refine aK 45 (by show ((rdMinus s) == true) = false; rw [h3]; rfl) rfl (aK 46 (by show ((rdMinus s) == true) = false; rw [h3]; rfl) rfl (ao 47 rfl rfl (st_pkf' (b := rdMinus s) (v := .bool false) h3 rfl rfl rfl (aN (ac_else rfl (ac_skip (aQ (aQ (aL (aM 49 (.bool (rdMinus s)) rfl rfl (aN (ac_else' (b := rdMinus s) h3 rfl (ac_skip (aQ (aL (aM 52 (.int .i64 (lAtoi ((rdWhole s) ++ (lTrimRight (rdRest s) 48)))) rfl rfl (aM 53 (.string (lTrimRight (rdRest s) 48)) rfl rfl (ao 54 rfl rfl (st_slen (s := (lTrimRight (rdRest s) 48)) rfl Tryd.underlying9 rfl ?_)))))))))))))))))))
    refine ao 55 rfl rfl (st_bd (us := [(0, .int .i64 (lAtoi ((rdWhole s) ++ (lTrimRight (rdRest s) 48)))), (1, .int .i64 (((lTrimRight (rdRest s) 48)).size : Int))]) (v := .agg #[.int .i64 (lAtoi ((rdWhole s) ++ (lTrimRight (rdRest s) 48))), .int .i64 (((lTrimRight (rdRest s) 48)).size : Int)]) rfl rfl (bd52_0_1 _ _) (aS [.int .i64 (lAtoi ((rdWhole s) ++ (lTrimRight (rdRest s) 48))), .int .i64 (((lTrimRight (rdRest s) 48)).size : Int)] agg52 0 rfl rfl rfl rfl rfl rfl (aA 3 (.bool true) rfl rfl (aN (ac_ret ?_)))))
    exact fin_eq (v := .tuple #[.agg #[.int .i64 (lAtoi ((rdWhole s) ++ (lTrimRight (rdRest s) 48))), .int .i64 (((lTrimRight (rdRest s) 48)).size : Int)], .bool true]) (by show _ = (fun (r : Dec × Bool) => (.tuple #[.agg #[.int .i64 r.1.c, .int .i64 r.1.scale], .bool r.2] : Value)) (decRead s); rw [decRead, h3, h2, h1] <;> rfl) (fin_ret (res_ct (vs := [.int .i64 (lAtoi ((rdWhole s) ++ (lTrimRight (rdRest s) 48))), .int .i64 (((lTrimRight (rdRest s) 48)).size : Int)]) agg52 0 rfl rfl rfl rfl rfl rfl rfl))
 ·refine aK 26 (by show ((!(decFig (rdWhole s) 5)) == false) = false; rw [h1]; rfl) rfl (aK 27 (by show ((!(decFig (rdWhole s) 5)) == false) = false; rw [h1]; rfl) rfl (aK 28 rfl rfl (aK 29 rfl rfl (aK 30 rfl rfl (aK 31 (by show ((!(decFig (rdWhole s) 5)) == false) = false; rw [h1]; rfl) rfl (ao 32 rfl rfl (st_pkt' (b := !(decFig (rdWhole s) 5)) (v := .bool true) (by rw [h1]; rfl) rfl rfl rfl (aN (ac_then rfl (aQ (aL (ao 33 rfl rfl (st_bd (us := []) (v := .agg #[.int .i64 0, .int .i64 0]) rfl rfl (bd52_ ) (aS [.int .i64 0, .int .i64 0] agg52 0 rfl rfl rfl rfl rfl rfl (aA 3 (.bool false) rfl rfl (aN (ac_ret ?_)))))))))))))))))
  exact fin_eq (v := .tuple #[.agg #[.int .i64 0, .int .i64 0], .bool false]) (by show _ = (fun (r : Dec × Bool) => (.tuple #[.agg #[.int .i64 r.1.c, .int .i64 r.1.scale], .bool r.2] : Value)) (decRead s); rw [decRead, h1] <;> rfl) (fin_ret (res_ct (vs := [.int .i64 0, .int .i64 0]) agg52 0 rfl rfl rfl rfl rfl rfl rfl))
end Go.Proofs.YtalffjplbhelcaaDoor
namespace Go.Proofs.YtalffjplbhelcaaDoor
open Go.RowKit
attribute [local irreducible] AC AR DWalk
def numIn (n : Int) : Bool := (bif decide (n ≥ (-1073741824)) then decide (n ≤ 1073741824) else false)
set_option maxRecDepth 100000 in
theorem c_numIn (n : Int) : Gets Tryd.prog 46 #[.int .i64 n] ((fun (r : Bool) => (.bool r : Value)) (numIn n)) := by
 refine gets_fin Tryd.func46 rfl rfl rfl (aQ (aL (aA 2 (.bool false) rfl rfl (aN (aQ (aL (aM 3 (.int .i64 n) rfl rfl (aB 4 (.bool (decide (n ≥ (-1073741824)))) rfl rfl rfl (bi_geq rfl) (aM 5 (.bool (decide (n ≥ (-1073741824)))) rfl rfl ?_)))))))))
 refine bool_split (decide (n ≥ (-1073741824))) (fun h1 => ?_) (fun h1 => ?_)
 ·refine ar_gd (d := (some 6)) (by show ((decide (n ≥ (-1073741824))) == true) = true; rw [h1]; rfl) rfl (st_move (v := .int .i64 n) rfl rfl (ar_gd (d := (some 7)) (by show ((decide (n ≥ (-1073741824))) == true) = true; rw [h1]; rfl) rfl (st_bi (r := .bool (decide (n ≤ 1073741824))) rfl rfl rfl (bi_leq rfl) (ao 8 rfl rfl (st_pkt' (b := decide (n ≥ (-1073741824))) (v := .bool (decide (n ≤ 1073741824))) h1 rfl rfl rfl (aA 2 (.bool (decide (n ≤ 1073741824))) rfl rfl (aN (ac_ret (fin_eq (v := .bool (decide (n ≤ 1073741824))) (by show _ = (fun (r : Bool) => (.bool r : Value)) (numIn n); rw [numIn, h1] <;> rfl) (fin_ret (res_tmp rfl rfl)))))))))))
 ·refine aK 6 (by show ((decide (n ≥ (-1073741824))) == true) = false; rw [h1]; rfl) rfl (aK 7 (by show ((decide (n ≥ (-1073741824))) == true) = false; rw [h1]; rfl) rfl (ao 8 rfl rfl (st_pkf' (b := decide (n ≥ (-1073741824))) (v := .bool false) h1 rfl rfl rfl (aA 2 (.bool false) rfl rfl (aN (ac_ret (fin_eq (v := .bool false) (by show _ = (fun (r : Bool) => (.bool r : Value)) (numIn n); rw [numIn, h1] <;> rfl) (fin_ret (res_tmp rfl rfl)))))))))
def numFloor_e0 (a : Int) (b : Int) : Int := (bif (decide (a < 0)) != (decide (b < 0)) then (w64 ((w64 (Int.tdiv a b)) - 1)) else (w64 (Int.tdiv a b)))
def numFloor (a : Int) (b : Int) : Int := (bif b == 0 then 0 else (bif (Int.tmod a b) != 0 then (numFloor_e0 a b) else w64 (Int.tdiv a b)))
set_option maxRecDepth 100000 in
theorem c_numFloor (a : Int) (b : Int) : Gets Tryd.prog 45 #[.int .i64 a, .int .i64 b] ((fun (r : Int) => (.int .i64 r : Value)) (numFloor a b)) := by
 refine gets_fin Tryd.func45 rfl rfl rfl (aQ (aL (aA 4 (.int .i64 0) rfl rfl (aN (aQ (aQ (aL (aM 6 (.int .i64 b) rfl rfl (aB 7 (.bool (b == 0)) rfl rfl rfl (bi_eql rfl) (aN ?_))))))))))
 refine bool_split (b == 0) (fun h1 => ?_) (fun h1 => ?_)
 ·refine ac_then' (b := b == 0) h1 rfl (aQ (aL (aA 4 (.int .i64 0) rfl rfl (aN (ac_ret (fin_eq (v := .int .i64 0) (by show _ = (fun (r : Int) => (.int .i64 r : Value)) (numFloor a b); rw [numFloor, h1] <;> rfl) (fin_ret (res_tmp rfl rfl))))))))
 ·refine ac_else' (b := b == 0) h1 rfl (ac_skip (aQ (aL (aM 8 (.int .i64 a) rfl rfl (aM 9 (.int .i64 b) rfl rfl (aB 10 (.int .i64 (w64 (Int.tdiv a b))) rfl rfl rfl (bi_quo (ne_of_beq0 h1) rfl) (aA 5 (.int .i64 (w64 (Int.tdiv a b))) rfl rfl (aN (aQ (aQ (aL (aM 11 (.int .i64 a) rfl rfl (aM 12 (.int .i64 b) rfl rfl (aB 13 (.int .i64 (Int.tmod a b)) rfl rfl rfl (bi_rem (ne_of_beq0 h1) rfl) (aB 14 (.bool ((Int.tmod a b) != 0)) rfl rfl rfl (bi_neq rfl) (aM 15 (.bool ((Int.tmod a b) != 0)) rfl rfl ?_))))))))))))))))
  refine bool_split ((Int.tmod a b) != 0) (fun h2 => ?_) (fun h2 => ?_)
  ·refine ar_gd (d := (some 16)) (by show (((Int.tmod a b) != 0) == true) = true; rw [h2]; rfl) rfl (st_move (v := .int .i64 a) rfl rfl (ar_gd (d := (some 17)) (by show (((Int.tmod a b) != 0) == true) = true; rw [h2]; rfl) rfl (st_bi (r := .bool (decide (a < 0))) rfl rfl rfl (bi_lss rfl) (ar_gd (d := (some 18)) (by show (((Int.tmod a b) != 0) == true) = true; rw [h2]; rfl) rfl (st_move (v := .int .i64 b) rfl rfl (ar_gd (d := (some 19)) (by show (((Int.tmod a b) != 0) == true) = true; rw [h2]; rfl) rfl (st_bi (r := .bool (decide (b < 0))) rfl rfl rfl (bi_lss rfl) ?_)))))))
   refine ar_gd (d := (some 20)) (by show (((Int.tmod a b) != 0) == true) = true; rw [h2]; rfl) rfl (st_bi (r := .bool ((decide (a < 0)) != (decide (b < 0)))) rfl rfl rfl (bb_neq Tryd.underlying4 rfl) (ao 21 rfl rfl (st_pkt' (b := (Int.tmod a b) != 0) (v := .bool ((decide (a < 0)) != (decide (b < 0)))) h2 rfl rfl rfl (aN ?_))))
   refine ac_mergeE (fun E9 => (((Env.put E9 (some 22) (.int .i64 (w64 (Int.tdiv a b)))).put (some 23) (.int .i64 (w64 ((w64 (Int.tdiv a b)) - 1)))).put (some 5) (.int .i64 (w64 ((w64 (Int.tdiv a b)) - 1))))) (fun E9 => (((Env.put E9 (some 22) (bif (decide (a < 0)) != (decide (b < 0)) then (.int .i64 (w64 (Int.tdiv a b)) : Value) else E9 22)).put (some 23) (bif (decide (a < 0)) != (decide (b < 0)) then (.int .i64 (w64 ((w64 (Int.tdiv a b)) - 1)) : Value) else E9 23)).put (some 5) (.int .i64 (numFloor_e0 a b)))) (b := (decide (a < 0)) != (decide (b < 0))) rfl (fun hm => ?_) (fun hm => ?_) (fun hm => ?_) ?_
   ·refine aL (aM 22 (.int .i64 (w64 (Int.tdiv a b))) rfl rfl (aB 23 (.int .i64 (w64 ((w64 (Int.tdiv a b)) - 1))) rfl rfl rfl (bi_sub rfl) (aA 5 (.int .i64 (w64 ((w64 (Int.tdiv a b)) - 1))) rfl rfl (aN ?_))))
    exact ⟨rfl, rfl, rfl⟩
   ·unfold numFloor_e0; rw [hm]; rfl
   ·unfold numFloor_e0; rw [hm]; exact ((put_self rfl).trans ((put_self rfl).trans (put_self rfl)))
   refine aQ (aL (aM 24 (.int .i64 (numFloor_e0 a b)) rfl rfl (aA 4 (.int .i64 (numFloor_e0 a b)) rfl rfl (aN (ac_ret (fin_eq (v := .int .i64 (numFloor_e0 a b)) (by show _ = (fun (r : Int) => (.int .i64 r : Value)) (numFloor a b); rw [numFloor, h2, h1] <;> rfl) (fin_ret (res_tmp rfl rfl))))))))
  ·refine aK 16 (by show (((Int.tmod a b) != 0) == true) = false; rw [h2]; rfl) rfl (aK 17 (by show (((Int.tmod a b) != 0) == true) = false; rw [h2]; rfl) rfl (aK 18 (by show (((Int.tmod a b) != 0) == true) = false; rw [h2]; rfl) rfl (aK 19 (by show (((Int.tmod a b) != 0) == true) = false; rw [h2]; rfl) rfl (aK 20 (by show (((Int.tmod a b) != 0) == true) = false; rw [h2]; rfl) rfl (ao 21 rfl rfl (st_pkf' (b := (Int.tmod a b) != 0) (v := .bool false) h2 rfl rfl rfl (aN (ac_else rfl (ac_skip (aQ (aL (aM 24 (.int .i64 (w64 (Int.tdiv a b))) rfl rfl (aA 4 (.int .i64 (w64 (Int.tdiv a b))) rfl rfl (aN (ac_ret ?_)))))))))))))))
   exact fin_eq (v := .int .i64 (w64 (Int.tdiv a b))) (by show _ = (fun (r : Int) => (.int .i64 r : Value)) (numFloor a b); rw [numFloor, h2, h1] <;> rfl) (fin_ret (res_tmp rfl rfl))
end Go.Proofs.YtalffjplbhelcaaDoor
namespace Go.Proofs.YtalffjplbhelcaaDoor
open Go.RowKit
attribute [local irreducible] AC AR DWalk
def decRight (d : Dec) : Bool := (bif decide (d.c ≥ (-100000000000)) then (bif decide (d.c ≤ 100000000000) then (bif decide (d.scale ≥ 0) then (bif decide (d.scale ≤ 6) then (bif d.scale == 0 then true else (Int.tmod d.c 10) != 0) else false) else false) else false) else false)
set_option maxRecDepth 100000 in
theorem c_decRight (d : Dec) : Gets Tryd.prog 21 #[.agg #[.int .i64 d.c, .int .i64 d.scale]] ((fun (r : Bool) => (.bool r : Value)) (decRight d)) := by
 refine gets_fin Tryd.func21 rfl rfl rfl (aQ (aL (ao 1 rfl rfl (st_box (v := .agg #[.int .i64 d.c, .int .i64 d.scale]) (cs := [.int .i64 d.c, .int .i64 d.scale]) rfl rfl rfl fun g0 => (aA 2 (.bool false) rfl rfl (aN (aQ (aL (aF 3 fa52_0 rfl rfl (aD 4 (.int .i64 d.c) cell3 0 rfl rfl rfl rfl (aB 5 (.bool (decide (d.c ≥ (-100000000000)))) rfl rfl rfl (bi_geq rfl) (aM 6 (.bool (decide (d.c ≥ (-100000000000)))) rfl rfl ?_))))))))))))
 refine bool_split (decide (d.c ≥ (-100000000000))) (fun h1 => ?_) (fun h1 => ?_)
 ·refine ar_gd (d := (some 7)) (by show ((decide (d.c ≥ (-100000000000))) == true) = true; rw [h1]; rfl) rfl (st_fa rfl fa52_0 rfl (ar_gd (d := (some 8)) (by show ((decide (d.c ≥ (-100000000000))) == true) = true; rw [h1]; rfl) rfl (st_ldc (v := .int .i64 d.c) cell3 0 rfl rfl rfl rfl rfl (ar_gd (d := (some 9)) (by show ((decide (d.c ≥ (-100000000000))) == true) = true; rw [h1]; rfl) rfl (st_bi (r := .bool (decide (d.c ≤ 100000000000))) rfl rfl rfl (bi_leq rfl) (ao 10 rfl rfl (st_pkt' (b := decide (d.c ≥ (-100000000000))) (v := .bool (decide (d.c ≤ 100000000000))) h1 rfl rfl rfl (aM 11 (.bool (decide (d.c ≤ 100000000000))) rfl rfl ?_))))))))
  refine bool_split (decide (d.c ≤ 100000000000)) (fun h2 => ?_) (fun h2 => ?_)
  ·refine ar_gd (d := (some 12)) (by show ((decide (d.c ≤ 100000000000)) == true) = true; rw [h2]; rfl) rfl (st_fa rfl fa52_1 rfl (ar_gd (d := (some 13)) (by show ((decide (d.c ≤ 100000000000)) == true) = true; rw [h2]; rfl) rfl (st_ldc (v := .int .i64 d.scale) cell3 0 rfl rfl rfl rfl rfl (ar_gd (d := (some 14)) (by show ((decide (d.c ≤ 100000000000)) == true) = true; rw [h2]; rfl) rfl (st_bi (r := .bool (decide (d.scale ≥ 0))) rfl rfl rfl (bi_geq rfl) (ao 15 rfl rfl (st_pkt' (b := decide (d.c ≤ 100000000000)) (v := .bool (decide (d.scale ≥ 0))) h2 rfl rfl rfl (aM 16 (.bool (decide (d.scale ≥ 0))) rfl rfl ?_))))))))
   refine bool_split (decide (d.scale ≥ 0)) (fun h3 => ?_) (fun h3 => ?_)
   ·refine ar_gd (d := (some 17)) (by show ((decide (d.scale ≥ 0)) == true) = true; rw [h3]; rfl) rfl (st_fa rfl fa52_1 rfl (ar_gd (d := (some 18)) (by show ((decide (d.scale ≥ 0)) == true) = true; rw [h3]; rfl) rfl (st_ldc (v := .int .i64 d.scale) cell3 0 rfl rfl rfl rfl rfl (ar_gd (d := (some 19)) (by show ((decide (d.scale ≥ 0)) == true) = true; rw [h3]; rfl) rfl (st_bi (r := .bool (decide (d.scale ≤ 6))) rfl rfl rfl (bi_leq rfl) (ao 20 rfl rfl (st_pkt' (b := decide (d.scale ≥ 0)) (v := .bool (decide (d.scale ≤ 6))) h3 rfl rfl rfl (aM 21 (.bool (decide (d.scale ≤ 6))) rfl rfl ?_))))))))
    refine bool_split (decide (d.scale ≤ 6)) (fun h4 => ?_) (fun h4 => ?_)
    ·refine ar_gd (d := (some 22)) (by show ((decide (d.scale ≤ 6)) == true) = true; rw [h4]; rfl) rfl (st_fa rfl fa52_1 rfl (ar_gd (d := (some 23)) (by show ((decide (d.scale ≤ 6)) == true) = true; rw [h4]; rfl) rfl (st_ldc (v := .int .i64 d.scale) cell3 0 rfl rfl rfl rfl rfl (ar_gd (d := (some 24)) (by show ((decide (d.scale ≤ 6)) == true) = true; rw [h4]; rfl) rfl (st_bi (r := .bool (d.scale == 0)) rfl rfl rfl (bi_eql rfl) (ar_gd (d := (some 25)) (by show ((decide (d.scale ≤ 6)) == true) = true; rw [h4]; rfl) rfl (st_move (v := .bool (d.scale == 0)) rfl rfl ?_)))))))
     refine bool_split (d.scale == 0) (fun h5 => ?_) (fun h5 => ?_)
     ·refine aK 26 (by show ((d.scale == 0) == false) = false; rw [h5]; rfl) rfl (aK 27 (by show ((d.scale == 0) == false) = false; rw [h5]; rfl) rfl (aK 28 (by show ((d.scale == 0) == false) = false; rw [h5]; rfl) rfl (aK 29 (by show ((d.scale == 0) == false) = false; rw [h5]; rfl) rfl (ar_gd (d := (some 30)) (by show ((decide (d.scale ≤ 6)) == true) = true; rw [h4]; rfl) rfl (st_pkt' (b := d.scale == 0) (v := .bool true) h5 rfl rfl rfl (ao 31 rfl rfl (st_pkt' (b := decide (d.scale ≤ 6)) (v := .bool true) h4 rfl rfl rfl (aA 2 (.bool true) rfl rfl (aN (ac_ret ?_))))))))))
      exact fin_eq (v := .bool true) (by show _ = (fun (r : Bool) => (.bool r : Value)) (decRight d); rw [decRight, h5, h4, h3, h2, h1] <;> rfl) (fin_ret (res_tmp rfl rfl))
     ·refine ar_gd (d := (some 26)) (by show ((d.scale == 0) == false) = true; rw [h5]; rfl) rfl (st_fa rfl fa52_0 rfl (ar_gd (d := (some 27)) (by show ((d.scale == 0) == false) = true; rw [h5]; rfl) rfl (st_ldc (v := .int .i64 d.c) cell3 0 rfl rfl rfl rfl rfl (ar_gd (d := (some 28)) (by show ((d.scale == 0) == false) = true; rw [h5]; rfl) rfl (st_bi (r := .int .i64 (Int.tmod d.c 10)) rfl rfl rfl (bi_rem (by decide) rfl) (ar_gd (d := (some 29)) (by show ((d.scale == 0) == false) = true; rw [h5]; rfl) rfl (st_bi (r := .bool ((Int.tmod d.c 10) != 0)) rfl rfl rfl (bi_neq rfl) ?_)))))))
      refine ar_gd (d := (some 30)) (by show ((decide (d.scale ≤ 6)) == true) = true; rw [h4]; rfl) rfl (st_pkf' (b := d.scale == 0) (v := .bool ((Int.tmod d.c 10) != 0)) h5 rfl rfl rfl (ao 31 rfl rfl (st_pkt' (b := decide (d.scale ≤ 6)) (v := .bool ((Int.tmod d.c 10) != 0)) h4 rfl rfl rfl (aA 2 (.bool ((Int.tmod d.c 10) != 0)) rfl rfl (aN (ac_ret (fin_eq (v := .bool ((Int.tmod d.c 10) != 0)) (by show _ = (fun (r : Bool) => (.bool r : Value)) (decRight d); rw [decRight, h5, h4, h3, h2, h1] <;> rfl) (fin_ret (res_tmp rfl rfl)))))))))
    ·refine aK 22 (by show ((decide (d.scale ≤ 6)) == true) = false; rw [h4]; rfl) rfl (aK 23 (by show ((decide (d.scale ≤ 6)) == true) = false; rw [h4]; rfl) rfl (aK 24 (by show ((decide (d.scale ≤ 6)) == true) = false; rw [h4]; rfl) rfl (aK 25 (by show ((decide (d.scale ≤ 6)) == true) = false; rw [h4]; rfl) rfl (aK 26 rfl rfl (aK 27 rfl rfl (aK 28 rfl rfl (aK 29 rfl rfl (aK 30 (by show ((decide (d.scale ≤ 6)) == true) = false; rw [h4]; rfl) rfl (ao 31 rfl rfl (st_pkf' (b := decide (d.scale ≤ 6)) (v := .bool false) h4 rfl rfl rfl (aA 2 (.bool false) rfl rfl (aN (ac_ret ?_)))))))))))))
     exact fin_eq (v := .bool false) (by show _ = (fun (r : Bool) => (.bool r : Value)) (decRight d); rw [decRight, h4, h3, h2, h1] <;> rfl) (fin_ret (res_tmp rfl rfl))
   ·refine aK 17 (by show ((decide (d.scale ≥ 0)) == true) = false; rw [h3]; rfl) rfl (aK 18 (by show ((decide (d.scale ≥ 0)) == true) = false; rw [h3]; rfl) rfl (aK 19 (by show ((decide (d.scale ≥ 0)) == true) = false; rw [h3]; rfl) rfl (ao 20 rfl rfl (st_pkf' (b := decide (d.scale ≥ 0)) (v := .bool false) h3 rfl rfl rfl (aM 21 (.bool false) rfl rfl (aK 22 rfl rfl (aK 23 rfl rfl (aK 24 rfl rfl (aK 25 rfl rfl (aK 26 rfl rfl (aK 27 rfl rfl (aK 28 rfl rfl (aK 29 rfl rfl (aK 30 rfl rfl (ao 31 rfl rfl (st_pkf (v := .bool false) rfl rfl rfl (aA 2 (.bool false) rfl rfl (aN (ac_ret ?_)))))))))))))))))))
    exact fin_eq (v := .bool false) (by show _ = (fun (r : Bool) => (.bool r : Value)) (decRight d); rw [decRight, h3, h2, h1] <;> rfl) (fin_ret (res_tmp rfl rfl))
  ·refine aK 12 (by show ((decide (d.c ≤ 100000000000)) == true) = false; rw [h2]; rfl) rfl (aK 13 (by show ((decide (d.c ≤ 100000000000)) == true) = false; rw [h2]; rfl) rfl (aK 14 (by show ((decide (d.c ≤ 100000000000)) == true) = false; rw [h2]; rfl) rfl (ao 15 rfl rfl (st_pkf' (b := decide (d.c ≤ 100000000000)) (v := .bool false) h2 rfl rfl rfl (aM 16 (.bool false) rfl rfl (aK 17 rfl rfl (aK 18 rfl rfl (aK 19 rfl rfl (ao 20 rfl rfl (st_pkf (v := .bool false) rfl rfl rfl (aM 21 (.bool false) rfl rfl (aK 22 rfl rfl (aK 23 rfl rfl (aK 24 rfl rfl (aK 25 rfl rfl (aK 26 rfl rfl (aK 27 rfl rfl (aK 28 rfl rfl (aK 29 rfl rfl (aK 30 rfl rfl ?_))))))))))))))))))))
   refine ao 31 rfl rfl (st_pkf (v := .bool false) rfl rfl rfl (aA 2 (.bool false) rfl rfl (aN (ac_ret (fin_eq (v := .bool false) (by show _ = (fun (r : Bool) => (.bool r : Value)) (decRight d); rw [decRight, h2, h1] <;> rfl) (fin_ret (res_tmp rfl rfl)))))))
 ·refine aK 7 (by show ((decide (d.c ≥ (-100000000000))) == true) = false; rw [h1]; rfl) rfl (aK 8 (by show ((decide (d.c ≥ (-100000000000))) == true) = false; rw [h1]; rfl) rfl (aK 9 (by show ((decide (d.c ≥ (-100000000000))) == true) = false; rw [h1]; rfl) rfl (ao 10 rfl rfl (st_pkf' (b := decide (d.c ≥ (-100000000000))) (v := .bool false) h1 rfl rfl rfl (aM 11 (.bool false) rfl rfl (aK 12 rfl rfl (aK 13 rfl rfl (aK 14 rfl rfl (ao 15 rfl rfl (st_pkf (v := .bool false) rfl rfl rfl (aM 16 (.bool false) rfl rfl (aK 17 rfl rfl (aK 18 rfl rfl (aK 19 rfl rfl (ao 20 rfl rfl (st_pkf (v := .bool false) rfl rfl rfl (aM 21 (.bool false) rfl rfl (aK 22 rfl rfl ?_))))))))))))))))))
  refine aK 23 rfl rfl (aK 24 rfl rfl (aK 25 rfl rfl (aK 26 rfl rfl (aK 27 rfl rfl (aK 28 rfl rfl (aK 29 rfl rfl (aK 30 rfl rfl (ao 31 rfl rfl (st_pkf (v := .bool false) rfl rfl rfl (aA 2 (.bool false) rfl rfl (aN (ac_ret (fin_eq (v := .bool false) (by show _ = (fun (r : Bool) => (.bool r : Value)) (decRight d); rw [decRight, h1] <;> rfl) (fin_ret (res_tmp rfl rfl)))))))))))))))
def decPow0  : Int := 1
set_option maxRecDepth 100000 in
theorem c_decPow0  : Gets Tryd.prog 44 #[.int .i64 0] ((fun (r : Int) => (.int .i64 r : Value)) decPow0) := by
 refine gets_fin Tryd.func44 rfl rfl rfl (aQ (aL (aA 2 (.int .i64 0) rfl rfl (aN (aQ (aL (aA 3 (.int .i64 1) rfl rfl (aN (aQ (aQ (aL (aM 4 (.int .i64 0) rfl rfl (aM 5 (.int .i64 0) rfl rfl (aN (ac_block ?_)))))))))))))))
 refine ac_rounds 61 (ar_round (aQ (aL (aB 6 (.bool false) rfl rfl rfl (bi_lss (by decide)) (aN (aQ (ac_else rfl (ac_exit (aQ (aL (aM 10 (.int .i64 1) rfl rfl (aA 2 (.int .i64 1) rfl rfl (aN (ac_ret (fin_eq (v := .int .i64 1) rfl (fin_ret (res_tmp rfl rfl)))))))))))))))))
def decPow1  : Int := 10
set_option maxRecDepth 100000 in
theorem c_decPow1  : Gets Tryd.prog 44 #[.int .i64 1] ((fun (r : Int) => (.int .i64 r : Value)) decPow1) := by
 refine gets_fin Tryd.func44 rfl rfl rfl (aQ (aL (aA 2 (.int .i64 0) rfl rfl (aN (aQ (aL (aA 3 (.int .i64 1) rfl rfl (aN (aQ (aQ (aL (aM 4 (.int .i64 1) rfl rfl (aM 5 (.int .i64 0) rfl rfl (aN (ac_block ?_)))))))))))))))
 refine ac_rounds 61 (ar_round (aQ (aL (aB 6 (.bool true) rfl rfl rfl (bi_lss (by decide)) (aN (aQ (ac_then rfl (ac_skip (aQ (ac_block (aL (aM 7 (.int .i64 1) rfl rfl (aB 8 (.int .i64 10) rfl rfl rfl (bi_mul (by decide)) (aA 3 (.int .i64 10) rfl rfl (aN (aL (aB 9 (.int .i64 1) rfl rfl rfl (bi_add (by decide)) (aM 5 (.int .i64 1) rfl rfl (aN (ar_round (aQ (aL (aB 6 (.bool false) rfl rfl rfl (bi_lss (by decide)) (aN (aQ (ac_else rfl (ac_exit (aQ (aL (aM 10 (.int .i64 10) rfl rfl (aA 2 (.int .i64 10) rfl rfl (aN (ac_ret (fin_eq (v := .int .i64 10) rfl (fin_ret (res_tmp rfl rfl))))))))))))))))))))))))))))))))))))
def decPow2  : Int := 100
set_option maxRecDepth 100000 in
theorem c_decPow2  : Gets Tryd.prog 44 #[.int .i64 2] ((fun (r : Int) => (.int .i64 r : Value)) decPow2) := by
 refine gets_fin Tryd.func44 rfl rfl rfl (aQ (aL (aA 2 (.int .i64 0) rfl rfl (aN (aQ (aL (aA 3 (.int .i64 1) rfl rfl (aN (aQ (aQ (aL (aM 4 (.int .i64 2) rfl rfl (aM 5 (.int .i64 0) rfl rfl (aN (ac_block ?_)))))))))))))))
 refine ac_rounds 61 (ar_round (aQ (aL (aB 6 (.bool true) rfl rfl rfl (bi_lss (by decide)) (aN (aQ (ac_then rfl (ac_skip (aQ (ac_block (aL (aM 7 (.int .i64 1) rfl rfl (aB 8 (.int .i64 10) rfl rfl rfl (bi_mul (by decide)) (aA 3 (.int .i64 10) rfl rfl (aN (aL (aB 9 (.int .i64 1) rfl rfl rfl (bi_add (by decide)) (aM 5 (.int .i64 1) rfl rfl (aN (ar_round (aQ (aL (aB 6 (.bool true) rfl rfl rfl (bi_lss (by decide)) (aN (aQ (ac_then rfl (ac_skip (aQ (ac_block (aL (aM 7 (.int .i64 10) rfl rfl (aB 8 (.int .i64 100) rfl rfl rfl (bi_mul (by decide)) (aA 3 (.int .i64 100) rfl rfl (aN (aL (aB 9 (.int .i64 2) rfl rfl rfl (bi_add (by decide)) ?_))))))))))))))))))))))))))))))))))))
 refine aM 5 (.int .i64 2) rfl rfl (aN (ar_round (aQ (aL (aB 6 (.bool false) rfl rfl rfl (bi_lss (by decide)) (aN (aQ (ac_else rfl (ac_exit (aQ (aL (aM 10 (.int .i64 100) rfl rfl (aA 2 (.int .i64 100) rfl rfl (aN (ac_ret (fin_eq (v := .int .i64 100) rfl (fin_ret (res_tmp rfl rfl))))))))))))))))))
def decPow3  : Int := 1000
set_option maxRecDepth 100000 in
theorem c_decPow3  : Gets Tryd.prog 44 #[.int .i64 3] ((fun (r : Int) => (.int .i64 r : Value)) decPow3) := by
 refine gets_fin Tryd.func44 rfl rfl rfl (aQ (aL (aA 2 (.int .i64 0) rfl rfl (aN (aQ (aL (aA 3 (.int .i64 1) rfl rfl (aN (aQ (aQ (aL (aM 4 (.int .i64 3) rfl rfl (aM 5 (.int .i64 0) rfl rfl (aN (ac_block ?_)))))))))))))))
 refine ac_rounds 61 (ar_round (aQ (aL (aB 6 (.bool true) rfl rfl rfl (bi_lss (by decide)) (aN (aQ (ac_then rfl (ac_skip (aQ (ac_block (aL (aM 7 (.int .i64 1) rfl rfl (aB 8 (.int .i64 10) rfl rfl rfl (bi_mul (by decide)) (aA 3 (.int .i64 10) rfl rfl (aN (aL (aB 9 (.int .i64 1) rfl rfl rfl (bi_add (by decide)) (aM 5 (.int .i64 1) rfl rfl (aN (ar_round (aQ (aL (aB 6 (.bool true) rfl rfl rfl (bi_lss (by decide)) (aN (aQ (ac_then rfl (ac_skip (aQ (ac_block (aL (aM 7 (.int .i64 10) rfl rfl (aB 8 (.int .i64 100) rfl rfl rfl (bi_mul (by decide)) (aA 3 (.int .i64 100) rfl rfl (aN (aL (aB 9 (.int .i64 2) rfl rfl rfl (bi_add (by decide)) ?_))))))))))))))))))))))))))))))))))))
 refine aM 5 (.int .i64 2) rfl rfl (aN (ar_round (aQ (aL (aB 6 (.bool true) rfl rfl rfl (bi_lss (by decide)) (aN (aQ (ac_then rfl (ac_skip (aQ (ac_block (aL (aM 7 (.int .i64 100) rfl rfl (aB 8 (.int .i64 1000) rfl rfl rfl (bi_mul (by decide)) (aA 3 (.int .i64 1000) rfl rfl (aN (aL (aB 9 (.int .i64 3) rfl rfl rfl (bi_add (by decide)) (aM 5 (.int .i64 3) rfl rfl (aN (ar_round (aQ (aL (aB 6 (.bool false) rfl rfl rfl (bi_lss (by decide)) (aN (aQ (ac_else rfl (ac_exit (aQ (aL (aM 10 (.int .i64 1000) rfl rfl (aA 2 (.int .i64 1000) rfl rfl (aN (ac_ret (fin_eq (v := .int .i64 1000) rfl (fin_ret (res_tmp rfl rfl)))))))))))))))))))))))))))))))))))))
def decPow4  : Int := 10000
set_option maxRecDepth 100000 in
theorem c_decPow4  : Gets Tryd.prog 44 #[.int .i64 4] ((fun (r : Int) => (.int .i64 r : Value)) decPow4) := by
 refine gets_fin Tryd.func44 rfl rfl rfl (aQ (aL (aA 2 (.int .i64 0) rfl rfl (aN (aQ (aL (aA 3 (.int .i64 1) rfl rfl (aN (aQ (aQ (aL (aM 4 (.int .i64 4) rfl rfl (aM 5 (.int .i64 0) rfl rfl (aN (ac_block ?_)))))))))))))))
 refine ac_rounds 61 (ar_round (aQ (aL (aB 6 (.bool true) rfl rfl rfl (bi_lss (by decide)) (aN (aQ (ac_then rfl (ac_skip (aQ (ac_block (aL (aM 7 (.int .i64 1) rfl rfl (aB 8 (.int .i64 10) rfl rfl rfl (bi_mul (by decide)) (aA 3 (.int .i64 10) rfl rfl (aN (aL (aB 9 (.int .i64 1) rfl rfl rfl (bi_add (by decide)) (aM 5 (.int .i64 1) rfl rfl (aN (ar_round (aQ (aL (aB 6 (.bool true) rfl rfl rfl (bi_lss (by decide)) (aN (aQ (ac_then rfl (ac_skip (aQ (ac_block (aL (aM 7 (.int .i64 10) rfl rfl (aB 8 (.int .i64 100) rfl rfl rfl (bi_mul (by decide)) (aA 3 (.int .i64 100) rfl rfl (aN (aL (aB 9 (.int .i64 2) rfl rfl rfl (bi_add (by decide)) ?_))))))))))))))))))))))))))))))))))))
 refine aM 5 (.int .i64 2) rfl rfl (aN (ar_round (aQ (aL (aB 6 (.bool true) rfl rfl rfl (bi_lss (by decide)) (aN (aQ (ac_then rfl (ac_skip (aQ (ac_block (aL (aM 7 (.int .i64 100) rfl rfl (aB 8 (.int .i64 1000) rfl rfl rfl (bi_mul (by decide)) (aA 3 (.int .i64 1000) rfl rfl (aN (aL (aB 9 (.int .i64 3) rfl rfl rfl (bi_add (by decide)) (aM 5 (.int .i64 3) rfl rfl (aN (ar_round (aQ (aL (aB 6 (.bool true) rfl rfl rfl (bi_lss (by decide)) (aN (aQ (ac_then rfl (ac_skip (aQ (ac_block (aL (aM 7 (.int .i64 1000) rfl rfl (aB 8 (.int .i64 10000) rfl rfl rfl (bi_mul (by decide)) (aA 3 (.int .i64 10000) rfl rfl (aN (aL ?_))))))))))))))))))))))))))))))))))))
 refine aB 9 (.int .i64 4) rfl rfl rfl (bi_add (by decide)) (aM 5 (.int .i64 4) rfl rfl (aN (ar_round (aQ (aL (aB 6 (.bool false) rfl rfl rfl (bi_lss (by decide)) (aN (aQ (ac_else rfl (ac_exit (aQ (aL (aM 10 (.int .i64 10000) rfl rfl (aA 2 (.int .i64 10000) rfl rfl (aN (ac_ret (fin_eq (v := .int .i64 10000) rfl (fin_ret (res_tmp rfl rfl)))))))))))))))))))
def decPow5  : Int := 100000
set_option maxRecDepth 100000 in
theorem c_decPow5  : Gets Tryd.prog 44 #[.int .i64 5] ((fun (r : Int) => (.int .i64 r : Value)) decPow5) := by
 refine gets_fin Tryd.func44 rfl rfl rfl (aQ (aL (aA 2 (.int .i64 0) rfl rfl (aN (aQ (aL (aA 3 (.int .i64 1) rfl rfl (aN (aQ (aQ (aL (aM 4 (.int .i64 5) rfl rfl (aM 5 (.int .i64 0) rfl rfl (aN (ac_block ?_)))))))))))))))
 refine ac_rounds 61 (ar_round (aQ (aL (aB 6 (.bool true) rfl rfl rfl (bi_lss (by decide)) (aN (aQ (ac_then rfl (ac_skip (aQ (ac_block (aL (aM 7 (.int .i64 1) rfl rfl (aB 8 (.int .i64 10) rfl rfl rfl (bi_mul (by decide)) (aA 3 (.int .i64 10) rfl rfl (aN (aL (aB 9 (.int .i64 1) rfl rfl rfl (bi_add (by decide)) (aM 5 (.int .i64 1) rfl rfl (aN (ar_round (aQ (aL (aB 6 (.bool true) rfl rfl rfl (bi_lss (by decide)) (aN (aQ (ac_then rfl (ac_skip (aQ (ac_block (aL (aM 7 (.int .i64 10) rfl rfl (aB 8 (.int .i64 100) rfl rfl rfl (bi_mul (by decide)) (aA 3 (.int .i64 100) rfl rfl (aN (aL (aB 9 (.int .i64 2) rfl rfl rfl (bi_add (by decide)) ?_))))))))))))))))))))))))))))))))))))
 refine aM 5 (.int .i64 2) rfl rfl (aN (ar_round (aQ (aL (aB 6 (.bool true) rfl rfl rfl (bi_lss (by decide)) (aN (aQ (ac_then rfl (ac_skip (aQ (ac_block (aL (aM 7 (.int .i64 100) rfl rfl (aB 8 (.int .i64 1000) rfl rfl rfl (bi_mul (by decide)) (aA 3 (.int .i64 1000) rfl rfl (aN (aL (aB 9 (.int .i64 3) rfl rfl rfl (bi_add (by decide)) (aM 5 (.int .i64 3) rfl rfl (aN (ar_round (aQ (aL (aB 6 (.bool true) rfl rfl rfl (bi_lss (by decide)) (aN (aQ (ac_then rfl (ac_skip (aQ (ac_block (aL (aM 7 (.int .i64 1000) rfl rfl (aB 8 (.int .i64 10000) rfl rfl rfl (bi_mul (by decide)) (aA 3 (.int .i64 10000) rfl rfl (aN (aL ?_))))))))))))))))))))))))))))))))))))
 refine aB 9 (.int .i64 4) rfl rfl rfl (bi_add (by decide)) (aM 5 (.int .i64 4) rfl rfl (aN (ar_round (aQ (aL (aB 6 (.bool true) rfl rfl rfl (bi_lss (by decide)) (aN (aQ (ac_then rfl (ac_skip (aQ (ac_block (aL (aM 7 (.int .i64 10000) rfl rfl (aB 8 (.int .i64 100000) rfl rfl rfl (bi_mul (by decide)) (aA 3 (.int .i64 100000) rfl rfl (aN (aL (aB 9 (.int .i64 5) rfl rfl rfl (bi_add (by decide)) (aM 5 (.int .i64 5) rfl rfl (aN (ar_round (aQ (aL (aB 6 (.bool false) rfl rfl rfl (bi_lss (by decide)) (aN (aQ (ac_else rfl (ac_exit (aQ (aL (aM 10 (.int .i64 100000) rfl rfl (aA 2 (.int .i64 100000) rfl rfl (aN (ac_ret ?_)))))))))))))))))))))))))))))))))))
 exact fin_eq (v := .int .i64 100000) rfl (fin_ret (res_tmp rfl rfl))
def decPow6  : Int := 1000000
set_option maxRecDepth 100000 in
theorem c_decPow6  : Gets Tryd.prog 44 #[.int .i64 6] ((fun (r : Int) => (.int .i64 r : Value)) decPow6) := by
 refine gets_fin Tryd.func44 rfl rfl rfl (aQ (aL (aA 2 (.int .i64 0) rfl rfl (aN (aQ (aL (aA 3 (.int .i64 1) rfl rfl (aN (aQ (aQ (aL (aM 4 (.int .i64 6) rfl rfl (aM 5 (.int .i64 0) rfl rfl (aN (ac_block ?_)))))))))))))))
 refine ac_rounds 61 (ar_round (aQ (aL (aB 6 (.bool true) rfl rfl rfl (bi_lss (by decide)) (aN (aQ (ac_then rfl (ac_skip (aQ (ac_block (aL (aM 7 (.int .i64 1) rfl rfl (aB 8 (.int .i64 10) rfl rfl rfl (bi_mul (by decide)) (aA 3 (.int .i64 10) rfl rfl (aN (aL (aB 9 (.int .i64 1) rfl rfl rfl (bi_add (by decide)) (aM 5 (.int .i64 1) rfl rfl (aN (ar_round (aQ (aL (aB 6 (.bool true) rfl rfl rfl (bi_lss (by decide)) (aN (aQ (ac_then rfl (ac_skip (aQ (ac_block (aL (aM 7 (.int .i64 10) rfl rfl (aB 8 (.int .i64 100) rfl rfl rfl (bi_mul (by decide)) (aA 3 (.int .i64 100) rfl rfl (aN (aL (aB 9 (.int .i64 2) rfl rfl rfl (bi_add (by decide)) ?_))))))))))))))))))))))))))))))))))))
 refine aM 5 (.int .i64 2) rfl rfl (aN (ar_round (aQ (aL (aB 6 (.bool true) rfl rfl rfl (bi_lss (by decide)) (aN (aQ (ac_then rfl (ac_skip (aQ (ac_block (aL (aM 7 (.int .i64 100) rfl rfl (aB 8 (.int .i64 1000) rfl rfl rfl (bi_mul (by decide)) (aA 3 (.int .i64 1000) rfl rfl (aN (aL (aB 9 (.int .i64 3) rfl rfl rfl (bi_add (by decide)) (aM 5 (.int .i64 3) rfl rfl (aN (ar_round (aQ (aL (aB 6 (.bool true) rfl rfl rfl (bi_lss (by decide)) (aN (aQ (ac_then rfl (ac_skip (aQ (ac_block (aL (aM 7 (.int .i64 1000) rfl rfl (aB 8 (.int .i64 10000) rfl rfl rfl (bi_mul (by decide)) (aA 3 (.int .i64 10000) rfl rfl (aN (aL ?_))))))))))))))))))))))))))))))))))))
 refine aB 9 (.int .i64 4) rfl rfl rfl (bi_add (by decide)) (aM 5 (.int .i64 4) rfl rfl (aN (ar_round (aQ (aL (aB 6 (.bool true) rfl rfl rfl (bi_lss (by decide)) (aN (aQ (ac_then rfl (ac_skip (aQ (ac_block (aL (aM 7 (.int .i64 10000) rfl rfl (aB 8 (.int .i64 100000) rfl rfl rfl (bi_mul (by decide)) (aA 3 (.int .i64 100000) rfl rfl (aN (aL (aB 9 (.int .i64 5) rfl rfl rfl (bi_add (by decide)) (aM 5 (.int .i64 5) rfl rfl (aN (ar_round (aQ (aL (aB 6 (.bool true) rfl rfl rfl (bi_lss (by decide)) (aN (aQ (ac_then rfl (ac_skip (aQ (ac_block (aL (aM 7 (.int .i64 100000) rfl rfl (aB 8 (.int .i64 1000000) rfl rfl rfl (bi_mul (by decide)) ?_))))))))))))))))))))))))))))))))))
 refine aA 3 (.int .i64 1000000) rfl rfl (aN (aL (aB 9 (.int .i64 6) rfl rfl rfl (bi_add (by decide)) (aM 5 (.int .i64 6) rfl rfl (aN (ar_round (aQ (aL (aB 6 (.bool false) rfl rfl rfl (bi_lss (by decide)) (aN (aQ (ac_else rfl (ac_exit (aQ (aL (aM 10 (.int .i64 1000000) rfl rfl (aA 2 (.int .i64 1000000) rfl rfl (aN (ac_ret (fin_eq (v := .int .i64 1000000) rfl (fin_ret (res_tmp rfl rfl))))))))))))))))))))))
end Go.Proofs.YtalffjplbhelcaaDoor
namespace Go.Proofs.YtalffjplbhelcaaDoor
def decPower (n : Int) : Int := 10 ^ n.toNat
theorem c_decPower (n : Int) (h : 0 ≤ n ∧ n ≤ 6) : Gets Tryd.prog 44 #[.int .i64 n] ((fun (r : Int) => (.int .i64 r : Value)) (decPower n)) := by
  rcases (by omega : n = 0 ∨ n = 1 ∨ n = 2 ∨ n = 3 ∨ n = 4 ∨ n = 5 ∨ n = 6) with rfl | rfl | rfl | rfl | rfl | rfl | rfl
  · exact c_decPow0
  · exact c_decPow1
  · exact c_decPow2
  · exact c_decPow3
  · exact c_decPow4
  · exact c_decPow5
  · exact c_decPow6
theorem pow_ok (d : Dec) (h : decRight d = true) : 0 ≤ d.scale ∧ d.scale ≤ 6 := by
  unfold decRight at h
  simp only [Bool.cond_eq_ite, Bool.ite_eq_true_distrib] at h
  simp at h
  omega
end Go.Proofs.YtalffjplbhelcaaDoor
namespace Go.Proofs.YtalffjplbhelcaaDoor
theorem pow_ok2 (d : Dec) (h : decRight d = true) : 0 ≤ w64 (6 - d.scale) ∧ w64 (6 - d.scale) ≤ 6 := by
  have := pow_ok d h
  rw [w64_in (by omega)]
  omega
theorem dr_bounds {d : Dec} (h : decRight d = true) : -100000000000 ≤ d.c ∧ d.c ≤ 100000000000 ∧ 0 ≤ d.scale ∧ d.scale ≤ 6 := by
  unfold decRight at h
  simp only [Bool.cond_eq_ite, Bool.ite_eq_true_distrib] at h
  simp at h
  omega
end Go.Proofs.YtalffjplbhelcaaDoor
namespace Go.Proofs.YtalffjplbhelcaaDoor
def ito (d : Dec) : ByteArray := lItoa (max d.c (w64 (0 - d.c)))
theorem ito_lo {d : Dec} (h : decRight d = true) : -9223372036854775808 ≤ max d.c (w64 (0 - d.c)) := by
  have := dr_bounds h
  rw [w64_in (by omega)]
  omega
theorem ito_hi {d : Dec} (h : decRight d = true) : max d.c (w64 (0 - d.c)) ≤ 9223372036854775807 := by
  have := dr_bounds h
  rw [w64_in (by omega)]
  omega
theorem ito_sz {d : Dec} (h : decRight d = true) : (ito d).size ≤ 21 := by
  unfold ito lItoa
  rw [byA_size]
  exact Lib.itoa_length_le _ (ito_lo h) (ito_hi h)
def padN (d : Dec) : Int := max 0 (w64 (w64 (d.scale + 1) - ((ito d).size : Int)))
theorem padN_eq {d : Dec} (h : decRight d = true) : padN d = max 0 (d.scale + 1 - ((ito d).size : Int)) := by
  have := dr_bounds h
  have := ito_sz h
  unfold padN
  rw [w64_in (n := d.scale + 1) (by omega), w64_in (by omega)]
theorem pad_lo (d : Dec) : 0 ≤ padN d := by unfold padN; omega
theorem pad_le {d : Dec} (h : decRight d = true) : padN d ≤ 1000 := by
  have := dr_bounds h
  rw [padN_eq h]
  omega
def zer (d : Dec) : ByteArray := lRepeat (⟨#[48]⟩ : ByteArray) (padN d)
theorem rep_len : ∀ (k : Nat) (l : List UInt8), (Lib.repeatL l k).length = k * l.length
  | 0, l => by simp [Lib.repeatL]
  | k + 1, l => by
    have := rep_len k l
    simp only [Lib.repeatL, List.replicate_succ, List.flatten_cons, List.length_append] at this ⊢
    rw [this, Nat.succ_mul, Nat.add_comm]
theorem zer_size (d : Dec) : ((zer d).size : Int) = padN d := by
  unfold zer lRepeat
  rw [byA_size, rep_len]
  have := pad_lo d
  simp
  omega
theorem zer_sz {d : Dec} (h : decRight d = true) : (zer d).size ≤ 1000 := by
  have := zer_size d
  have := pad_le h
  omega
theorem pad_all {d : Dec} (h : decRight d = true) : w64 (((zer d ++ ito d).size : Int) - d.scale) = ((zer d ++ ito d).size : Int) - d.scale ∧ d.scale + 1 ≤ ((zer d ++ ito d).size : Int) := by
  have h1 := dr_bounds h
  have h2 := zer_size d
  have h3 := padN_eq h
  have h4 := ito_sz h
  have h5 := zer_sz h
  rw [ByteArray.size_append', w64_in (by omega)]
  omega
theorem pad_hi {d : Dec} (h : decRight d = true) : 0 ≤ w64 (((zer d ++ ito d).size : Int) - d.scale) ∧ w64 (((zer d ++ ito d).size : Int) - d.scale) ≤ ((zer d ++ ito d).size : Int) := by
  have h1 := dr_bounds h
  have h2 := pad_all h
  rw [h2.1]
  omega
end Go.Proofs.YtalffjplbhelcaaDoor
namespace Go.Proofs.YtalffjplbhelcaaDoor
open Go.RowKit
attribute [local irreducible] AC AR DWalk
def decPrint (d : Dec) : ByteArray := (bif decRight d then (bif decide ((((subS ((zer d) ++ (ito d)) 0 (w64 (((((zer d) ++ (ito d))).size : Int) - d.scale)))).size : Int) > 5) then (⟨#[]⟩ : ByteArray) else (bif decide (d.c < 0) then (bif sEq (subS ((zer d) ++ (ito d)) (w64 (((((zer d) ++ (ito d))).size : Int) - d.scale)) ((((zer d) ++ (ito d))).size : Int)) (⟨#[]⟩ : ByteArray) then ((⟨#[45]⟩ : ByteArray) ++ (subS ((zer d) ++ (ito d)) 0 (w64 (((((zer d) ++ (ito d))).size : Int) - d.scale)))) else ((((⟨#[45]⟩ : ByteArray) ++ (subS ((zer d) ++ (ito d)) 0 (w64 (((((zer d) ++ (ito d))).size : Int) - d.scale)))) ++ (⟨#[46]⟩ : ByteArray)) ++ (subS ((zer d) ++ (ito d)) (w64 (((((zer d) ++ (ito d))).size : Int) - d.scale)) ((((zer d) ++ (ito d))).size : Int)))) else (bif sEq (subS ((zer d) ++ (ito d)) (w64 (((((zer d) ++ (ito d))).size : Int) - d.scale)) ((((zer d) ++ (ito d))).size : Int)) (⟨#[]⟩ : ByteArray) then (subS ((zer d) ++ (ito d)) 0 (w64 (((((zer d) ++ (ito d))).size : Int) - d.scale))) else (((subS ((zer d) ++ (ito d)) 0 (w64 (((((zer d) ++ (ito d))).size : Int) - d.scale))) ++ (⟨#[46]⟩ : ByteArray)) ++ (subS ((zer d) ++ (ito d)) (w64 (((((zer d) ++ (ito d))).size : Int) - d.scale)) ((((zer d) ++ (ito d))).size : Int)))))) else (⟨#[]⟩ : ByteArray))
set_option maxRecDepth 100000 in
theorem c_decPrint (d : Dec) (tP : Nat) : Gives Tryd.prog 18 #[.agg #[.int .i64 d.c, .int .i64 d.scale]] [powBox tP] (fun u N => u = ((fun (r : ByteArray) => (.string r : Value)) (decPrint d)) ∧ N = []) := by
 refine gives_fin Tryd.func18 rfl rfl rfl rfl (AC.mono ?_ (fun e E H h => fing_v h rfl))
 refine aQ (aL (ao 1 rfl rfl (st_box (v := .agg #[.int .i64 d.c, .int .i64 d.scale]) (cs := [.int .i64 d.c, .int .i64 d.scale]) rfl rfl rfl fun g0 => (aA 2 (.string (⟨#[]⟩ : ByteArray)) rfl rfl (aN (aQ (aQ (aL (aG 6 [.int .i64 d.c, .int .i64 d.scale] agg52 0 rfl rfl rfl rfl rfl (aC 7 (c_decRight d) Tryd.func21 ⟨rfl, by decide⟩ rfl rfl (ao 8 rfl rfl (st_un (v := .bool (!(decRight d))) rfl rfl (un_not rfl) (aN ?_)))))))))))))
 refine bool_split (decRight d) (fun h1 => ?_) (fun h1 => ?_)
 ·refine ac_else' (b := !(decRight d)) (by rw [h1]; rfl) rfl (ac_skip (aQ (aL (aF 9 fa52_0 rfl rfl (aD 10 (.int .i64 d.c) cell3 0 rfl rfl rfl rfl (aF 11 fa52_0 rfl rfl (aD 12 (.int .i64 d.c) cell3 0 rfl rfl rfl rfl (ao 13 rfl rfl (st_un (v := .int .i64 (w64 (0 - d.c))) rfl rfl (un_neg rfl) (ao 14 rfl rfl (st_mx (x := d.c) (y := (w64 (0 - d.c))) (c := (max d.c (w64 (0 - d.c)))) rfl rfl rfl (ao 15 rfl rfl (st_gr (R := [powBox tP]) (r := .string (ito d)) (c_lItoa tP _ (ito_lo h1) (ito_hi h1)) Tryd.func42 rfl (by decide) rfl rfl rfl (has_cons 1 _ rfl rfl rfl rfl has_nil) (by simp) (aA 3 (.string (ito d)) rfl rfl (aN (aQ (aL (aF 16 fa52_1 rfl rfl ?_))))))))))))))))))
  refine aD 17 (.int .i64 d.scale) cell3 0 rfl rfl rfl rfl (aB 18 (.int .i64 (w64 (d.scale + 1))) rfl rfl rfl (bi_add rfl) (aM 19 (.string (ito d)) rfl rfl (ao 20 rfl rfl (st_slen (s := (ito d)) rfl Tryd.underlying9 rfl (aB 21 (.int .i64 (w64 ((w64 (d.scale + 1)) - (((ito d)).size : Int)))) rfl rfl rfl (bi_sub rfl) (ao 22 rfl rfl (st_mx (x := 0) (y := (w64 ((w64 (d.scale + 1)) - (((ito d)).size : Int)))) (c := (max 0 (w64 ((w64 (d.scale + 1)) - (((ito d)).size : Int))))) rfl rfl rfl (aC 23 (c_lRepeat (⟨#[48]⟩ : ByteArray) (padN d) (pad_lo d) (pad_le h1) (by decide)) Tryd.func43 ⟨rfl, by decide⟩ rfl rfl (aM 24 (.string (ito d)) rfl rfl ?_)))))))))
  refine aB 25 (.string ((zer d) ++ (ito d))) rfl rfl rfl (bi_sadd (sz_two (zer_sz h1) (ito_sz h1) (by decide))) (aA 3 (.string ((zer d) ++ (ito d))) rfl rfl (aN (aQ ?_)))
  refine ac_draw0 (id := 5) [0, 1, 2, 3, 4, 5, 6, 7, 8, 9, 10, 11, 12, 13, 14, 15] [] _ (by kernel_rfl) follows rfl  (dw_op (d := some 26) _ rfl rfl rfl (st_move (v := .string ((zer d) ++ (ito d))) rfl rfl ⟨rfl, rfl⟩) (dw_op (d := some 27) _ rfl rfl rfl (st_move (v := .string ((zer d) ++ (ito d))) rfl rfl ⟨rfl, rfl⟩) (dw_op (d := some 28) _ rfl rfl rfl (st_slen (s := ((zer d) ++ (ito d))) rfl Tryd.underlying9 rfl ⟨rfl, rfl⟩) (dw_op (d := some 29) _ rfl rfl rfl (st_fa rfl fa52_1 rfl ⟨rfl, rfl⟩) (dw_op (d := some 30) _ rfl rfl rfl (st_ldc (v := .int .i64 d.scale) cell3 0 rfl rfl rfl rfl rfl ⟨rfl, rfl⟩) ?_)))))
  refine dw_op (d := some 31) _ rfl rfl rfl (st_bi (r := .int .i64 (w64 (((((zer d) ++ (ito d))).size : Int) - d.scale))) rfl rfl rfl (bi_sub rfl) ⟨rfl, rfl⟩) (dw_op (d := some 32) _ rfl rfl rfl (st_ssh (pad_hi h1) rfl Tryd.underlying9 rfl rfl ⟨rfl, rfl⟩) (dw_op (d := some 33) _ rfl rfl rfl (st_move (v := .string ((zer d) ++ (ito d))) rfl rfl ⟨rfl, rfl⟩) (dw_op (d := some 34) _ rfl rfl rfl (st_move (v := .string ((zer d) ++ (ito d))) rfl rfl ⟨rfl, rfl⟩) (dw_op (d := some 35) _ rfl rfl rfl (st_slen (s := ((zer d) ++ (ito d))) rfl Tryd.underlying9 rfl ⟨rfl, rfl⟩) (dw_op (d := some 36) _ rfl rfl rfl (st_fa rfl fa52_1 rfl ⟨rfl, rfl⟩) ?_)))))
  refine dw_op (d := some 37) _ rfl rfl rfl (st_ldc (v := .int .i64 d.scale) cell3 0 rfl rfl rfl rfl rfl ⟨rfl, rfl⟩) (dw_op (d := some 38) _ rfl rfl rfl (st_bi (r := .int .i64 (w64 (((((zer d) ++ (ito d))).size : Int) - d.scale))) rfl rfl rfl (bi_sub rfl) ⟨rfl, rfl⟩) (dw_op (d := some 39) _ rfl rfl rfl (st_ssb (pad_hi h1) rfl Tryd.underlying9 rfl rfl ⟨rfl, rfl⟩) (dw_op (d := some 4) _ rfl rfl rfl (st_assign (v := .string (subS ((zer d) ++ (ito d)) 0 (w64 (((((zer d) ++ (ito d))).size : Int) - d.scale)))) rfl rfl ⟨rfl, rfl⟩) ?_)))
  refine dw_op (d := some 5) _ rfl rfl rfl (st_assign (v := .string (subS ((zer d) ++ (ito d)) (w64 (((((zer d) ++ (ito d))).size : Int) - d.scale)) ((((zer d) ++ (ito d))).size : Int))) rfl rfl ⟨rfl, rfl⟩) (dw_nil (aN (aQ (aQ (aL (aM 40 (.string (subS ((zer d) ++ (ito d)) 0 (w64 (((((zer d) ++ (ito d))).size : Int) - d.scale)))) rfl rfl (ao 41 rfl rfl (st_slen (s := (subS ((zer d) ++ (ito d)) 0 (w64 (((((zer d) ++ (ito d))).size : Int) - d.scale)))) rfl Tryd.underlying9 rfl (aB 42 (.bool (decide ((((subS ((zer d) ++ (ito d)) 0 (w64 (((((zer d) ++ (ito d))).size : Int) - d.scale)))).size : Int) > 5))) rfl rfl rfl (bi_gtr rfl) (aN ?_))))))))))
  refine bool_split (decide ((((subS ((zer d) ++ (ito d)) 0 (w64 (((((zer d) ++ (ito d))).size : Int) - d.scale)))).size : Int) > 5)) (fun h2 => ?_) (fun h2 => ?_)
  ·refine ac_then' (b := decide ((((subS ((zer d) ++ (ito d)) 0 (w64 (((((zer d) ++ (ito d))).size : Int) - d.scale)))).size : Int) > 5)) h2 rfl (aQ (aL (aA 2 (.string (⟨#[]⟩ : ByteArray)) rfl rfl (aN (ac_ret (fin_eq (v := .string (⟨#[]⟩ : ByteArray)) (by show _ = (fun (r : ByteArray) => (.string r : Value)) (decPrint d); rw [decPrint, h2, h1] <;> rfl) (fin_ret (res_tmp rfl rfl))))))))
  ·refine ac_else' (b := decide ((((subS ((zer d) ++ (ito d)) 0 (w64 (((((zer d) ++ (ito d))).size : Int) - d.scale)))).size : Int) > 5)) h2 rfl (ac_skip (aQ (aQ (aL (aF 43 fa52_0 rfl rfl (aD 44 (.int .i64 d.c) cell3 0 rfl rfl rfl rfl (aB 45 (.bool (decide (d.c < 0))) rfl rfl rfl (bi_lss rfl) (aN ?_))))))))
   refine bool_split (decide (d.c < 0)) (fun h3 => ?_) (fun h3 => ?_)
   ·refine ac_then' (b := decide (d.c < 0)) h3 rfl (aL (aM 46 (.string (subS ((zer d) ++ (ito d)) 0 (w64 (((((zer d) ++ (ito d))).size : Int) - d.scale)))) rfl rfl (aB 47 (.string ((⟨#[45]⟩ : ByteArray) ++ (subS ((zer d) ++ (ito d)) 0 (w64 (((((zer d) ++ (ito d))).size : Int) - d.scale))))) rfl rfl rfl (bi_sadd (sz_two (show ((⟨#[45]⟩ : ByteArray)).size ≤ 1 from Nat.le_refl _) (subS_le _ _ _ (sz_add (zer_sz h1) (ito_sz h1))) (by decide))) (aA 4 (.string ((⟨#[45]⟩ : ByteArray) ++ (subS ((zer d) ++ (ito d)) 0 (w64 (((((zer d) ++ (ito d))).size : Int) - d.scale))))) rfl rfl (aN (aQ (aQ (aL ?_))))))))
    refine aM 48 (.string (subS ((zer d) ++ (ito d)) (w64 (((((zer d) ++ (ito d))).size : Int) - d.scale)) ((((zer d) ++ (ito d))).size : Int))) rfl rfl (aB 49 (.bool (!(sEq (subS ((zer d) ++ (ito d)) (w64 (((((zer d) ++ (ito d))).size : Int) - d.scale)) ((((zer d) ++ (ito d))).size : Int)) (⟨#[]⟩ : ByteArray)))) rfl rfl rfl (bi_sneq rfl) (aN ?_))
    refine bool_split (sEq (subS ((zer d) ++ (ito d)) (w64 (((((zer d) ++ (ito d))).size : Int) - d.scale)) ((((zer d) ++ (ito d))).size : Int)) (⟨#[]⟩ : ByteArray)) (fun h4 => ?_) (fun h4 => ?_)
    ·refine ac_else' (b := !(sEq (subS ((zer d) ++ (ito d)) (w64 (((((zer d) ++ (ito d))).size : Int) - d.scale)) ((((zer d) ++ (ito d))).size : Int)) (⟨#[]⟩ : ByteArray))) (by rw [h4]; rfl) rfl (ac_skip (aQ (aL (aM 54 (.string ((⟨#[45]⟩ : ByteArray) ++ (subS ((zer d) ++ (ito d)) 0 (w64 (((((zer d) ++ (ito d))).size : Int) - d.scale))))) rfl rfl (aA 2 (.string ((⟨#[45]⟩ : ByteArray) ++ (subS ((zer d) ++ (ito d)) 0 (w64 (((((zer d) ++ (ito d))).size : Int) - d.scale))))) rfl rfl (aN (ac_ret ?_)))))))
     exact fin_eq (v := .string ((⟨#[45]⟩ : ByteArray) ++ (subS ((zer d) ++ (ito d)) 0 (w64 (((((zer d) ++ (ito d))).size : Int) - d.scale))))) (by show _ = (fun (r : ByteArray) => (.string r : Value)) (decPrint d); rw [decPrint, h4, h3, h2, h1] <;> rfl) (fin_ret (res_tmp rfl rfl))
    ·refine ac_then' (b := !(sEq (subS ((zer d) ++ (ito d)) (w64 (((((zer d) ++ (ito d))).size : Int) - d.scale)) ((((zer d) ++ (ito d))).size : Int)) (⟨#[]⟩ : ByteArray))) (by rw [h4]; rfl) rfl (aQ (aL (aM 50 (.string ((⟨#[45]⟩ : ByteArray) ++ (subS ((zer d) ++ (ito d)) 0 (w64 (((((zer d) ++ (ito d))).size : Int) - d.scale))))) rfl rfl ?_)))
     refine aB 51 (.string (((⟨#[45]⟩ : ByteArray) ++ (subS ((zer d) ++ (ito d)) 0 (w64 (((((zer d) ++ (ito d))).size : Int) - d.scale)))) ++ (⟨#[46]⟩ : ByteArray))) rfl rfl rfl (bi_sadd (sz_two (sz_add (show ((⟨#[45]⟩ : ByteArray)).size ≤ 1 from Nat.le_refl _) (subS_le _ _ _ (sz_add (zer_sz h1) (ito_sz h1)))) (show ((⟨#[46]⟩ : ByteArray)).size ≤ 1 from Nat.le_refl _) (by decide))) (aM 52 (.string (subS ((zer d) ++ (ito d)) (w64 (((((zer d) ++ (ito d))).size : Int) - d.scale)) ((((zer d) ++ (ito d))).size : Int))) rfl rfl ?_)
     refine aB 53 (.string ((((⟨#[45]⟩ : ByteArray) ++ (subS ((zer d) ++ (ito d)) 0 (w64 (((((zer d) ++ (ito d))).size : Int) - d.scale)))) ++ (⟨#[46]⟩ : ByteArray)) ++ (subS ((zer d) ++ (ito d)) (w64 (((((zer d) ++ (ito d))).size : Int) - d.scale)) ((((zer d) ++ (ito d))).size : Int)))) rfl rfl rfl (bi_sadd (sz_two (sz_add (sz_add (show ((⟨#[45]⟩ : ByteArray)).size ≤ 1 from Nat.le_refl _) (subS_le _ _ _ (sz_add (zer_sz h1) (ito_sz h1)))) (show ((⟨#[46]⟩ : ByteArray)).size ≤ 1 from Nat.le_refl _)) (subS_le _ _ _ (sz_add (zer_sz h1) (ito_sz h1))) (by decide))) ?_
     refine aA 2 (.string ((((⟨#[45]⟩ : ByteArray) ++ (subS ((zer d) ++ (ito d)) 0 (w64 (((((zer d) ++ (ito d))).size : Int) - d.scale)))) ++ (⟨#[46]⟩ : ByteArray)) ++ (subS ((zer d) ++ (ito d)) (w64 (((((zer d) ++ (ito d))).size : Int) - d.scale)) ((((zer d) ++ (ito d))).size : Int)))) rfl rfl (aN (ac_ret ?_))
     exact fin_eq (v := .string ((((⟨#[45]⟩ : ByteArray) ++ (subS ((zer d) ++ (ito d)) 0 (w64 (((((zer d) ++ (ito d))).size : Int) - d.scale)))) ++ (⟨#[46]⟩ : ByteArray)) ++ (subS ((zer d) ++ (ito d)) (w64 (((((zer d) ++ (ito d))).size : Int) - d.scale)) ((((zer d) ++ (ito d))).size : Int)))) (by show _ = (fun (r : ByteArray) => (.string r : Value)) (decPrint d); rw [decPrint, h4, h3, h2, h1] <;> rfl) (fin_ret (res_tmp rfl rfl))
   ·refine ac_else' (b := decide (d.c < 0)) h3 rfl (ac_skip (aQ (aQ (aL (aM 48 (.string (subS ((zer d) ++ (ito d)) (w64 (((((zer d) ++ (ito d))).size : Int) - d.scale)) ((((zer d) ++ (ito d))).size : Int))) rfl rfl (aB 49 (.bool (!(sEq (subS ((zer d) ++ (ito d)) (w64 (((((zer d) ++ (ito d))).size : Int) - d.scale)) ((((zer d) ++ (ito d))).size : Int)) (⟨#[]⟩ : ByteArray)))) rfl rfl rfl (bi_sneq rfl) (aN ?_)))))))
    refine bool_split (sEq (subS ((zer d) ++ (ito d)) (w64 (((((zer d) ++ (ito d))).size : Int) - d.scale)) ((((zer d) ++ (ito d))).size : Int)) (⟨#[]⟩ : ByteArray)) (fun h4 => ?_) (fun h4 => ?_)
    ·refine ac_else' (b := !(sEq (subS ((zer d) ++ (ito d)) (w64 (((((zer d) ++ (ito d))).size : Int) - d.scale)) ((((zer d) ++ (ito d))).size : Int)) (⟨#[]⟩ : ByteArray))) (by rw [h4]; rfl) rfl (ac_skip (aQ (aL (aM 54 (.string (subS ((zer d) ++ (ito d)) 0 (w64 (((((zer d) ++ (ito d))).size : Int) - d.scale)))) rfl rfl (aA 2 (.string (subS ((zer d) ++ (ito d)) 0 (w64 (((((zer d) ++ (ito d))).size : Int) - d.scale)))) rfl rfl (aN (ac_ret ?_)))))))
     exact fin_eq (v := .string (subS ((zer d) ++ (ito d)) 0 (w64 (((((zer d) ++ (ito d))).size : Int) - d.scale)))) (by show _ = (fun (r : ByteArray) => (.string r : Value)) (decPrint d); rw [decPrint, h4, h3, h2, h1] <;> rfl) (fin_ret (res_tmp rfl rfl))
    ·refine ac_then' (b := !(sEq (subS ((zer d) ++ (ito d)) (w64 (((((zer d) ++ (ito d))).size : Int) - d.scale)) ((((zer d) ++ (ito d))).size : Int)) (⟨#[]⟩ : ByteArray))) (by rw [h4]; rfl) rfl (aQ (aL (aM 50 (.string (subS ((zer d) ++ (ito d)) 0 (w64 (((((zer d) ++ (ito d))).size : Int) - d.scale)))) rfl rfl (aB 51 (.string ((subS ((zer d) ++ (ito d)) 0 (w64 (((((zer d) ++ (ito d))).size : Int) - d.scale))) ++ (⟨#[46]⟩ : ByteArray))) rfl rfl rfl (bi_sadd (sz_two (subS_le _ _ _ (sz_add (zer_sz h1) (ito_sz h1))) (show ((⟨#[46]⟩ : ByteArray)).size ≤ 1 from Nat.le_refl _) (by decide))) ?_))))
     refine aM 52 (.string (subS ((zer d) ++ (ito d)) (w64 (((((zer d) ++ (ito d))).size : Int) - d.scale)) ((((zer d) ++ (ito d))).size : Int))) rfl rfl (aB 53 (.string (((subS ((zer d) ++ (ito d)) 0 (w64 (((((zer d) ++ (ito d))).size : Int) - d.scale))) ++ (⟨#[46]⟩ : ByteArray)) ++ (subS ((zer d) ++ (ito d)) (w64 (((((zer d) ++ (ito d))).size : Int) - d.scale)) ((((zer d) ++ (ito d))).size : Int)))) rfl rfl rfl (bi_sadd (sz_two (sz_add (subS_le _ _ _ (sz_add (zer_sz h1) (ito_sz h1))) (show ((⟨#[46]⟩ : ByteArray)).size ≤ 1 from Nat.le_refl _)) (subS_le _ _ _ (sz_add (zer_sz h1) (ito_sz h1))) (by decide))) ?_)
     refine aA 2 (.string (((subS ((zer d) ++ (ito d)) 0 (w64 (((((zer d) ++ (ito d))).size : Int) - d.scale))) ++ (⟨#[46]⟩ : ByteArray)) ++ (subS ((zer d) ++ (ito d)) (w64 (((((zer d) ++ (ito d))).size : Int) - d.scale)) ((((zer d) ++ (ito d))).size : Int)))) rfl rfl (aN (ac_ret (fin_eq (v := .string (((subS ((zer d) ++ (ito d)) 0 (w64 (((((zer d) ++ (ito d))).size : Int) - d.scale))) ++ (⟨#[46]⟩ : ByteArray)) ++ (subS ((zer d) ++ (ito d)) (w64 (((((zer d) ++ (ito d))).size : Int) - d.scale)) ((((zer d) ++ (ito d))).size : Int)))) (by show _ = (fun (r : ByteArray) => (.string r : Value)) (decPrint d); rw [decPrint, h4, h3, h2, h1] <;> rfl) (fin_ret (res_tmp rfl rfl)))))
 ·refine ac_then' (b := !(decRight d)) (by rw [h1]; rfl) rfl (aQ (aL (aA 2 (.string (⟨#[]⟩ : ByteArray)) rfl rfl (aN (ac_ret (fin_eq (v := .string (⟨#[]⟩ : ByteArray)) (by show _ = (fun (r : ByteArray) => (.string r : Value)) (decPrint d); rw [decPrint, h1] <;> rfl) (fin_ret (res_tmp rfl rfl))))))))
end Go.Proofs.YtalffjplbhelcaaDoor
namespace Go.Proofs.YtalffjplbhelcaaDoor
end Go.Proofs.YtalffjplbhelcaaDoor
