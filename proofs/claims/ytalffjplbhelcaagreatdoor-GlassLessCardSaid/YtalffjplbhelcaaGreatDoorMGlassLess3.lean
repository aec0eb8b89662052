import Derived.Test.YtalffjplbhelcaaGreatDoorMGlassLess2
set_option linter.unusedVariables false
set_option linter.unusedSimpArgs false
namespace Go.Proofs.YtalffjplbhelcaaGreatDoor
open Go.RowKit
attribute [local irreducible] AC AR DWalk
def cutDot0 (s : ByteArray) : ByteArray × ByteArray × Bool := (bif decide ((lIndex s 46) ≥ 0) then ((subS s 0 (lIndex s 46)), (subS s (w64 ((lIndex s 46) + 1)) ((s).size : Int)), true) else (s, (⟨#[]⟩ : ByteArray), false))
set_option maxRecDepth 100000 in
theorem c_cutDot0 (s : ByteArray) (hs : s.size ≤ 9223372036854775807) : Gets Tryz.prog 109 #[.string s, .string (⟨#[46]⟩ : ByteArray)] ((fun (r : ByteArray × ByteArray × Bool) => (.tuple #[.string r.1, .string r.2.1, .bool r.2.2] : Value)) (cutDot0 s)) := by
 refine gets_fin Tryz.func109 rfl rfl rfl (aQ (aL (aA 4 (.string (⟨#[]⟩ : ByteArray)) rfl rfl (aA 5 (.string (⟨#[]⟩ : ByteArray)) rfl rfl (aA 6 (.bool false) rfl rfl (aN (aQ (aQ (aL (aM 8 (.string s) rfl rfl (aM 9 (.string (⟨#[46]⟩ : ByteArray)) rfl rfl (aC 10 (c_lIndex s 46) Tryz.func128 ⟨rfl, by decide⟩ rfl rfl (aA 7 (.int .i64 (lIndex s 46)) rfl rfl (aN (aQ (aL (aM 11 (.int .i64 (lIndex s 46)) rfl rfl (aB 12 (.bool (decide ((lIndex s 46) ≥ 0))) rfl rfl rfl (bi_geq rfl) (aN ?_)))))))))))))))))))
 refine bool_split (decide ((lIndex s 46) ≥ 0)) (fun h1 => ?_) (fun h1 => ?_)
 ·refine ac_then' (b := decide ((lIndex s 46) ≥ 0)) h1 rfl (aQ ?_)
  refine ac_draw0 (id := 3) [0, 1, 2, 3, 4, 5, 6, 7, 8, 9, 10, 11] [] _ (by kernel_rfl) follows rfl  (dw_op (d := some 13) _ rfl rfl rfl (st_move (v := .string s) rfl rfl ⟨rfl, rfl⟩) (dw_op (d := some 14) _ rfl rfl rfl (st_move (v := .int .i64 (lIndex s 46)) rfl rfl ⟨rfl, rfl⟩) (dw_op (d := some 15) _ rfl rfl rfl (st_ssh (cut_hi h1) rfl Tryz.underlying9 rfl rfl ⟨rfl, rfl⟩) (dw_op (d := some 16) _ rfl rfl rfl (st_move (v := .string s) rfl rfl ⟨rfl, rfl⟩) (dw_op (d := some 17) _ rfl rfl rfl (st_move (v := .int .i64 (lIndex s 46)) rfl rfl ⟨rfl, rfl⟩) (dw_op (d := some 18) _ rfl rfl rfl (st_move (v := .string (⟨#[46]⟩ : ByteArray)) rfl rfl ⟨rfl, rfl⟩) ?_))))))
  refine dw_op (d := some 19) _ rfl rfl rfl (st_slen (s := (⟨#[46]⟩ : ByteArray)) rfl Tryz.underlying9 rfl ⟨rfl, rfl⟩) (dw_op (d := some 20) _ rfl rfl rfl (st_bi (r := .int .i64 (w64 ((lIndex s 46) + 1))) rfl rfl rfl (bi_add rfl) ⟨rfl, rfl⟩) (dw_op (d := some 21) _ rfl rfl rfl (st_ssb (cut_lo hs h1) rfl Tryz.underlying9 rfl rfl ⟨rfl, rfl⟩) (dw_op (d := some 4) _ rfl rfl rfl (st_assign (v := .string (subS s 0 (lIndex s 46))) rfl rfl ⟨rfl, rfl⟩) (dw_op (d := some 5) _ rfl rfl rfl (st_assign (v := .string (subS s (w64 ((lIndex s 46) + 1)) ((s).size : Int))) rfl rfl ⟨rfl, rfl⟩) (dw_op (d := some 6) _ rfl rfl rfl (st_assign (v := .bool true) rfl rfl ⟨rfl, rfl⟩) (dw_nil (aN ?_)))))))
  refine ac_ret (fin_eq (v := .tuple #[.string (subS s 0 (lIndex s 46)), .string (subS s (w64 ((lIndex s 46) + 1)) ((s).size : Int)), .bool true]) (by show _ = (fun (r : ByteArray × ByteArray × Bool) => (.tuple #[.string r.1, .string r.2.1, .bool r.2.2] : Value)) (cutDot0 s); rw [cutDot0, h1] <;> rfl) (fin_ret (res_ttt rfl rfl rfl rfl)))
 ·refine ac_else' (b := decide ((lIndex s 46) ≥ 0)) h1 rfl (ac_skip (aQ (aL (aM 22 (.string s) rfl rfl (aA 4 (.string s) rfl rfl (aA 5 (.string (⟨#[]⟩ : ByteArray)) rfl rfl (aA 6 (.bool false) rfl rfl (aN (ac_ret (fin_eq (v := .tuple #[.string s, .string (⟨#[]⟩ : ByteArray), .bool false]) (by show _ = (fun (r : ByteArray × ByteArray × Bool) => (.tuple #[.string r.1, .string r.2.1, .bool r.2.2] : Value)) (cutDot0 s); rw [cutDot0, h1] <;> rfl) (fin_ret (res_ttt rfl rfl rfl rfl))))))))))))
end Go.Proofs.YtalffjplbhelcaaGreatDoor
namespace Go.Proofs.YtalffjplbhelcaaGreatDoor
open Go.RowKit
attribute [local irreducible] AC AR DWalk
def cutDot (s : ByteArray) : ByteArray × ByteArray × Bool := ((cutDot0 s).1, (cutDot0 s).2.1, (cutDot0 s).2.2)
set_option maxRecDepth 100000 in
theorem c_cutDot (s : ByteArray) (hs : s.size ≤ 9223372036854775807) : Gets Tryz.prog 67 #[.string s, .string (⟨#[46]⟩ : ByteArray)] ((fun (r : ByteArray × ByteArray × Bool) => (.tuple #[.string r.1, .string r.2.1, .bool r.2.2] : Value)) (cutDot s)) := by
 refine gets_fin Tryz.func67 rfl rfl rfl (aQ (aL (aA 4 (.string (⟨#[]⟩ : ByteArray)) rfl rfl (aA 5 (.string (⟨#[]⟩ : ByteArray)) rfl rfl (aA 6 (.bool false) rfl rfl (aN (aQ (aL (aM 7 (.string s) rfl rfl (aM 8 (.string (⟨#[46]⟩ : ByteArray)) rfl rfl (aC 9 (c_cutDot0 s hs) Tryz.func109 ⟨rfl, by decide⟩ rfl rfl (aX 10 (.string ((cutDot0 s).1)) rfl rfl rfl (aX 11 (.string ((cutDot0 s).2.1)) rfl rfl rfl (aX 12 (.bool ((cutDot0 s).2.2)) rfl rfl rfl (aA 4 (.string ((cutDot0 s).1)) rfl rfl (aA 5 (.string ((cutDot0 s).2.1)) rfl rfl (aA 6 (.bool ((cutDot0 s).2.2)) rfl rfl (aN (ac_ret ?_)))))))))))))))))))
 exact fin_eq (v := .tuple #[.string ((cutDot0 s).1), .string ((cutDot0 s).2.1), .bool ((cutDot0 s).2.2)]) rfl (fin_ret (res_ttt rfl rfl rfl rfl))
end Go.Proofs.YtalffjplbhelcaaGreatDoor
namespace Go.Proofs.YtalffjplbhelcaaGreatDoor
open Go.RowKit
attribute [local irreducible] AC AR DWalk
def decFig (s : ByteArray) (n : Int) : Bool := (bif sEq s (⟨#[]⟩ : ByteArray) then false else (bif decide (((s).size : Int) ≤ n) then sEq (lTrimFig s) (⟨#[]⟩ : ByteArray) else false))
set_option maxRecDepth 100000 in
theorem c_decFig (s : ByteArray) (n : Int) (hn : n ≤ 1000) : Gets Tryz.prog 68 #[.string s, .int .i64 n] ((fun (r : Bool) => (.bool r : Value)) (decFig s n)) := by
 refine gets_fin Tryz.func68 rfl rfl rfl (aQ (aL (aA 4 (.bool false) rfl rfl (aN (aQ (aL (aM 5 (.string s) rfl rfl (aB 6 (.bool (!(sEq s (⟨#[]⟩ : ByteArray)))) rfl rfl rfl (bi_sneq rfl) (aM 7 (.bool (!(sEq s (⟨#[]⟩ : ByteArray)))) rfl rfl ?_)))))))))
 refine bool_split (sEq s (⟨#[]⟩ : ByteArray)) (fun h1 => ?_) (fun h1 => ?_)
 ·refine aK 8 (by show ((!(sEq s (⟨#[]⟩ : ByteArray))) == true) = false; rw [h1]; rfl) rfl (aK 9 (by show ((!(sEq s (⟨#[]⟩ : ByteArray))) == true) = false; rw [h1]; rfl) rfl (aK 10 (by show ((!(sEq s (⟨#[]⟩ : ByteArray))) == true) = false; rw [h1]; rfl) rfl (aK 11 (by show ((!(sEq s (⟨#[]⟩ : ByteArray))) == true) = false; rw [h1]; rfl) rfl (ao 12 rfl rfl (st_pkf' (b := !(sEq s (⟨#[]⟩ : ByteArray))) (v := .bool false) (by rw [h1]; rfl) rfl rfl rfl (aM 13 (.bool false) rfl rfl (aK 14 rfl rfl (aK 15 rfl rfl (aK 16 rfl rfl (ao 17 rfl rfl (st_pkf (v := .bool false) rfl rfl rfl (aA 4 (.bool false) rfl rfl (aN (ac_ret ?_))))))))))))))
  exact fin_eq (v := .bool false) (by show _ = (fun (r : Bool) => (.bool r : Value)) (decFig s n); rw [decFig, h1] <;> rfl) (fin_ret (res_tmp rfl rfl))
 ·refine ar_gd (d := (some 8)) (by show ((!(sEq s (⟨#[]⟩ : ByteArray))) == true) = true; rw [h1]; rfl) rfl (st_move (v := .string s) rfl rfl (ar_gd (d := (some 9)) (by show ((!(sEq s (⟨#[]⟩ : ByteArray))) == true) = true; rw [h1]; rfl) rfl (st_slen (s := s) rfl Tryz.underlying9 rfl (ar_gd (d := (some 10)) (by show ((!(sEq s (⟨#[]⟩ : ByteArray))) == true) = true; rw [h1]; rfl) rfl (st_move (v := .int .i64 n) rfl rfl (ar_gd (d := (some 11)) (by show ((!(sEq s (⟨#[]⟩ : ByteArray))) == true) = true; rw [h1]; rfl) rfl (st_bi (r := .bool (decide (((s).size : Int) ≤ n))) rfl rfl rfl (bi_leq rfl) ?_)))))))
  refine ao 12 rfl rfl (st_pkt' (b := !(sEq s (⟨#[]⟩ : ByteArray))) (v := .bool (decide (((s).size : Int) ≤ n))) (by rw [h1]; rfl) rfl rfl rfl (aM 13 (.bool (decide (((s).size : Int) ≤ n))) rfl rfl ?_))
  refine bool_split (decide (((s).size : Int) ≤ n)) (fun h2 => ?_) (fun h2 => ?_)
  ·refine ar_gd (d := (some 14)) (by show ((decide (((s).size : Int) ≤ n)) == true) = true; rw [h2]; rfl) rfl (st_move (v := .string s) rfl rfl (ar_gd (d := (some 15)) (by show ((decide (((s).size : Int) ≤ n)) == true) = true; rw [h2]; rfl) rfl (st_cf (c_lTrimFig s (fig_sz hn h2)) Tryz.func110 rfl (by decide) rfl rfl rfl (ar_gd (d := (some 16)) (by show ((decide (((s).size : Int) ≤ n)) == true) = true; rw [h2]; rfl) rfl (st_bi (r := .bool (sEq (lTrimFig s) (⟨#[]⟩ : ByteArray))) rfl rfl rfl (bi_seql rfl) (ao 17 rfl rfl (st_pkt' (b := decide (((s).size : Int) ≤ n)) (v := .bool (sEq (lTrimFig s) (⟨#[]⟩ : ByteArray))) h2 rfl rfl rfl ?_)))))))
   refine aA 4 (.bool (sEq (lTrimFig s) (⟨#[]⟩ : ByteArray))) rfl rfl (aN (ac_ret (fin_eq (v := .bool (sEq (lTrimFig s) (⟨#[]⟩ : ByteArray))) (by show _ = (fun (r : Bool) => (.bool r : Value)) (decFig s n); rw [decFig, h2, h1] <;> rfl) (fin_ret (res_tmp rfl rfl)))))
  ·refine aK 14 (by show ((decide (((s).size : Int) ≤ n)) == true) = false; rw [h2]; rfl) rfl (aK 15 (by show ((decide (((s).size : Int) ≤ n)) == true) = false; rw [h2]; rfl) rfl (aK 16 (by show ((decide (((s).size : Int) ≤ n)) == true) = false; rw [h2]; rfl) rfl (ao 17 rfl rfl (st_pkf' (b := decide (((s).size : Int) ≤ n)) (v := .bool false) h2 rfl rfl rfl (aA 4 (.bool false) rfl rfl (aN (ac_ret (fin_eq (v := .bool false) (by show _ = (fun (r : Bool) => (.bool r : Value)) (decFig s n); rw [decFig, h2, h1] <;> rfl) (fin_ret (res_tmp rfl rfl))))))))))
end Go.Proofs.YtalffjplbhelcaaGreatDoor
namespace Go.Proofs.YtalffjplbhelcaaGreatDoor
theorem sEq_iff (a b : ByteArray) : sEq a b = true ↔ a = b := by
  unfold sEq
  rw [beq_iff_eq, Lib.toList_data, Lib.toList_data]
  constructor
  · intro h
    rw [← Lib.mk_data a, ← Lib.mk_data b, h]
  · intro h; rw [h]
def IsDig (b : UInt8) : Prop := 48 ≤ b.toNat ∧ b.toNat ≤ 57
theorem fig_dig : ∀ b : UInt8, (figs.data.toList.contains b) = true → IsDig b := by
  intro b h
  have h2 : b ∈ figs.data.toList := List.contains_iff_mem.1 h
  simp only [figs, List.mem_cons, List.not_mem_nil, or_false] at h2
  rcases h2 with rfl | rfl | rfl | rfl | rfl | rfl | rfl | rfl | rfl | rfl <;> exact ⟨by decide, by decide⟩
theorem dig_fig : ∀ b : UInt8, IsDig b → (figs.data.toList.contains b) = true := by
  intro b h
  obtain ⟨h1, h2⟩ := h
  have e : b = UInt8.ofNat b.toNat := by simp
  rw [e]
  generalize b.toNat = n at *
  rcases (by omega : n = 48 ∨ n = 49 ∨ n = 50 ∨ n = 51 ∨ n = 52 ∨ n = 53 ∨ n = 54 ∨ n = 55 ∨ n = 56 ∨ n = 57) with rfl | rfl | rfl | rfl | rfl | rfl | rfl | rfl | rfl | rfl <;> decide
theorem dropWhile_nil {α : Type} (p : α → Bool) : ∀ l : List α, l.dropWhile p = [] ↔ ∀ b ∈ l, p b = true
  | [] => by simp
  | a :: l => by
    rw [List.dropWhile_cons]
    split
    · rename_i h; rw [dropWhile_nil p l]; simp [h]
    · rename_i h; simp [h]
theorem dropWhile_sub {α : Type} (p : α → Bool) : ∀ l : List α, (∀ b ∈ l.dropWhile p, p b = true) → l.dropWhile p = []
  | [], _ => rfl
  | a :: l, h => by
    rw [List.dropWhile_cons] at h ⊢
    split
    · rename_i h1; rw [if_pos h1] at h; exact dropWhile_sub p l h
    · rename_i h1; rw [if_neg h1] at h; exact absurd (h a List.mem_cons_self) h1
theorem trimS_nil (l cs : List UInt8) : Lib.trimS l cs = [] ↔ ∀ b ∈ l, cs.contains b = true := by
  unfold Lib.trimS Lib.trimLeftS Lib.trimRightS
  rw [dropWhile_nil]
  constructor
  · intro h
    have h2 : l.reverse.dropWhile (cs.contains ·) = [] := dropWhile_sub _ _ (fun b hb => h b (List.mem_reverse.2 hb))
    rw [dropWhile_nil] at h2
    exact fun b hb => h2 b (List.mem_reverse.2 hb)
  · intro h
    have h2 : l.reverse.dropWhile (cs.contains ·) = [] := (dropWhile_nil _ _).2 (fun b hb => h b (List.mem_reverse.1 hb))
    rw [h2]; simp
theorem decFig_iff (s : ByteArray) (n : Int) : decFig s n = true ↔ s.data.toList ≠ [] ∧ (s.size : Int) ≤ n ∧ ∀ b ∈ s.data.toList, IsDig b := by
  have e0 : sEq s (⟨#[]⟩ : ByteArray) = true ↔ s.data.toList = [] := by
    rw [sEq_iff]
    constructor
    · rintro rfl; rfl
    · intro h; rw [← Lib.mk_data s, h]
  have e1 : sEq (lTrimFig s) (⟨#[]⟩ : ByteArray) = true ↔ ∀ b ∈ s.data.toList, IsDig b := by
    rw [sEq_iff]
    unfold lTrimFig byA
    constructor
    · intro h
      have h2 : Lib.trimS s.data.toList figs.data.toList = [] := by
        have := congrArg (fun x : ByteArray => x.data.toList) h
        simpa using this
      exact fun b hb => fig_dig b ((trimS_nil _ _).1 h2 b hb)
    · intro h
      rw [(trimS_nil _ _).2 (fun b hb => dig_fig b (h b hb))]
  unfold decFig
  cases h : sEq s (⟨#[]⟩ : ByteArray)
  · have h0 : s.data.toList ≠ [] := fun k => by rw [e0.2 k] at h; cases h
    rw [cond_false]
    by_cases k : (s.size : Int) ≤ n
    · rw [decide_eq_true k, cond_true, e1]; simp [h0, k]
    · rw [decide_eq_false k, cond_false]; simp [k]
  · rw [cond_true]; simp [e0.1 h]
def rdBody (s : ByteArray) : ByteArray := (lCutPrefix s (⟨#[45]⟩ : ByteArray)).1
def rdMinus (s : ByteArray) : Bool := (lCutPrefix s (⟨#[45]⟩ : ByteArray)).2
def rdWhole (s : ByteArray) : ByteArray := (cutDot (rdBody s)).1
def rdRest (s : ByteArray) : ByteArray := (cutDot (rdBody s)).2.1
def rdPoint (s : ByteArray) : Bool := (cutDot (rdBody s)).2.2
theorem body_sz {s : ByteArray} (hs : s.size ≤ 9223372036854775807) : (rdBody s).size ≤ 9223372036854775807 := by
  have : (rdBody s).size ≤ s.size := by
    unfold rdBody lCutPrefix
    rw [byA_size, Lib.size_eq s]
    unfold Lib.trimPrefix
    split
    · rw [List.length_drop]; omega
    · exact Nat.le_refl _
  omega
theorem fig_le {s : ByteArray} (h : decFig s 5 = true) : s.size ≤ 5 := by have := ((decFig_iff _ _).1 h).2.1; omega
def RestOk (s : ByteArray) : Prop := rdPoint s = false ∨ (rdPoint s = true ∧ decFig (rdRest s) 6 = true)
theorem rest_none {s : ByteArray} (h : rdPoint s = false) : rdRest s = (⟨#[]⟩ : ByteArray) := by
  unfold rdPoint at h
  unfold rdRest
  unfold cutDot at *
  unfold cutDot0 at *
  cases hd : decide (lIndex (rdBody s) 46 ≥ 0)
  · rfl
  · rw [hd] at h; cases h
theorem rest_6 {s : ByteArray} (h : RestOk s) : (rdRest s).size ≤ 6 ∧ ∀ b ∈ (rdRest s).data.toList, IsDig b := by
  rcases h with h | ⟨_, h⟩
  · rw [rest_none h]; exact ⟨by decide, by simp⟩
  · have := (decFig_iff _ _).1 h
    exact ⟨by omega, this.2.2⟩
theorem rest_sz {s : ByteArray} (h : RestOk s) : (rdRest s).size ≤ 9223372036854775807 := by have := (rest_6 h).1; omega
theorem trimB_sub (l : List UInt8) (c : UInt8) : (∀ b ∈ Lib.trimRightB l c, b ∈ l) ∧ (Lib.trimRightB l c).length ≤ l.length := by
  unfold Lib.trimRightB
  have hs : List.Sublist (l.reverse.dropWhile (· == c)) l.reverse := List.dropWhile_sublist _
  constructor
  · intro b hb
    have := hs.subset (List.mem_reverse.1 hb)
    exact List.mem_reverse.1 this
  · rw [List.length_reverse]
    have := hs.length_le
    simpa using this
theorem trim_6 {s : ByteArray} (h : RestOk s) : (lTrimRight (rdRest s) 48).size ≤ 6 ∧ ∀ b ∈ (lTrimRight (rdRest s) 48).data.toList, IsDig b := by
  have h1 := rest_6 h
  have h2 := trimB_sub (rdRest s).data.toList 48
  unfold lTrimRight
  rw [byA_size]
  rw [Lib.size_eq] at h1
  exact ⟨by omega, fun b hb => h1.2 b (h2.1 b hb)⟩
theorem rest_sz2 {s : ByteArray} (h : RestOk s) : (lTrimRight (rdRest s) 48).size ≤ 6 := (trim_6 h).1
theorem atoi_sz {s : ByteArray} (hw : decFig (rdWhole s) 5 = true) (h : RestOk s) : (rdWhole s ++ lTrimRight (rdRest s) 48).size ≤ 18 := by
  have := fig_le hw
  have := rest_sz2 h
  rw [ByteArray.size_append']
  omega
theorem decFrom_some : ∀ (l : List UInt8) (a : Nat), (∀ b ∈ l, IsDig b) → ∃ n, Lib.decFrom a l = some n
  | [], a, _ => ⟨a, rfl⟩
  | b :: l, a, h => by
    have hb := h b List.mem_cons_self
    have e : Lib.digitVal b = some (b.toNat - 48) := by unfold Lib.digitVal; exact if_pos hb
    rw [Lib.decFrom, e]
    exact decFrom_some l _ (fun c hc => h c (List.mem_cons_of_mem _ hc))
theorem atoi_digs {l : List UInt8} (h0 : l ≠ []) (h : ∀ b ∈ l, IsDig b) : ∃ n : Nat, Lib.decFrom 0 l = some n ∧ Lib.atoi l = some (n : Int) := by
  obtain ⟨n, hn⟩ := decFrom_some l 0 h
  refine ⟨n, hn, ?_⟩
  cases l with
  | nil => exact absurd rfl h0
  | cons b r =>
    have hb := h b List.mem_cons_self
    have h1 : (b == 45) = false := by
      rw [beq_eq_false_iff_ne]; rintro rfl; exact absurd hb.1 (by decide)
    have h2 : (b == 43) = false := by
      rw [beq_eq_false_iff_ne]; rintro rfl; exact absurd hb.1 (by decide)
    rw [Lib.atoi, h1, h2]
    simp [Lib.decNat, hn]
theorem app_list (a b : ByteArray) : (a ++ b).data.toList = a.data.toList ++ b.data.toList := by simp
theorem atoi_ok {s : ByteArray} (hw : decFig (rdWhole s) 5 = true) (h : RestOk s) : (Lib.atoi (rdWhole s ++ lTrimRight (rdRest s) 48).data.toList).isSome = true := by
  have h1 := (decFig_iff _ _).1 hw
  have h2 := trim_6 h
  rw [app_list]
  obtain ⟨n, _, hn⟩ := atoi_digs (l := (rdWhole s).data.toList ++ (lTrimRight (rdRest s) 48).data.toList) (by simp [h1.1]) (fun b hb => by
    rcases List.mem_append.1 hb with hb | hb
    · exact h1.2.2 b hb
    · exact h2.2 b hb)
  rw [hn]; rfl
end Go.Proofs.YtalffjplbhelcaaGreatDoor
namespace Go.Proofs.YtalffjplbhelcaaGreatDoor
open Go.RowKit
attribute [local irreducible] AC AR DWalk
def decRead (s : ByteArray) : Dec × Bool := (bif decFig (rdWhole s) 5 then (bif rdPoint s then (bif decFig (rdRest s) 6 then (bif rdMinus s then (bif (lAtoi ((rdWhole s) ++ (lTrimRight (rdRest s) 48))) == 0 then ((⟨0, 0⟩ : Dec), false) else ((⟨w64 (0 - (lAtoi ((rdWhole s) ++ (lTrimRight (rdRest s) 48)))), (((lTrimRight (rdRest s) 48)).size : Int)⟩ : Dec), true)) else ((⟨(lAtoi ((rdWhole s) ++ (lTrimRight (rdRest s) 48))), (((lTrimRight (rdRest s) 48)).size : Int)⟩ : Dec), true)) else ((⟨0, 0⟩ : Dec), false)) else (bif rdMinus s then (bif (lAtoi ((rdWhole s) ++ (lTrimRight (rdRest s) 48))) == 0 then ((⟨0, 0⟩ : Dec), false) else ((⟨w64 (0 - (lAtoi ((rdWhole s) ++ (lTrimRight (rdRest s) 48)))), (((lTrimRight (rdRest s) 48)).size : Int)⟩ : Dec), true)) else ((⟨(lAtoi ((rdWhole s) ++ (lTrimRight (rdRest s) 48))), (((lTrimRight (rdRest s) 48)).size : Int)⟩ : Dec), true))) else ((⟨0, 0⟩ : Dec), false))
set_option maxRecDepth 100000 in
set_option maxHeartbeats 4000000 in
theorem c_decRead (s : ByteArray) (hs : s.size ≤ 9223372036854775807) : Gets Tryz.prog 28 #[.string s] ((fun (r : Dec × Bool) => (.tuple #[.agg #[.int .i64 r.1.c, .int .i64 r.1.scale], .bool r.2] : Value)) (decRead s)) := by
 refine gets_fin Tryz.func28 rfl rfl rfl (aQ (aL (ao 2 rfl rfl (st_new zero26 rfl fun g0 => (aA 3 (.bool false) rfl rfl (aN (aQ (aL (aM 12 (.string s) rfl rfl (aC 13 (c_lCutPrefix s (⟨#[45]⟩ : ByteArray)) Tryz.func66 ⟨rfl, by decide⟩ rfl rfl (aM 11 (.tuple #[.string (rdBody s), .bool (rdMinus s)]) rfl rfl (aX 14 (.string (rdBody s)) rfl rfl rfl (aX 15 (.bool (rdMinus s)) rfl rfl rfl (aA 4 (.string (rdBody s)) rfl rfl (aA 5 (.bool (rdMinus s)) rfl rfl (aN (aQ (aL (aM 17 (.string (rdBody s)) rfl rfl (aC 18 (c_cutDot (rdBody s) (body_sz hs)) Tryz.func67 ⟨rfl, by decide⟩ rfl rfl ?_))))))))))))))))))))
 refine aM 16 (.tuple #[.string (rdWhole s), .string (rdRest s), .bool (rdPoint s)]) rfl rfl (aX 19 (.string (rdWhole s)) rfl rfl rfl (aX 20 (.string (rdRest s)) rfl rfl rfl (aX 21 (.bool (rdPoint s)) rfl rfl rfl (aA 6 (.string (rdWhole s)) rfl rfl (aA 7 (.string (rdRest s)) rfl rfl (aA 8 (.bool (rdPoint s)) rfl rfl (aN (aQ (aQ (aL (aM 22 (.string (rdWhole s)) rfl rfl (aC 23 (c_decFig (rdWhole s) 5 (by decide)) Tryz.func68 ⟨rfl, by decide⟩ rfl rfl (ao 24 rfl rfl (st_un (v := .bool (!(decFig (rdWhole s) 5))) rfl rfl (un_not rfl) (aM 25 (.bool (!(decFig (rdWhole s) 5))) rfl rfl ?_)))))))))))))))
 refine bool_split (decFig (rdWhole s) 5) (fun h1 => ?_) (fun h1 => ?_)
 ·refine ar_gd (d := (some 26)) (by show ((!(decFig (rdWhole s) 5)) == false) = true; rw [h1]; rfl) rfl (st_move (v := .bool (rdPoint s)) rfl rfl (ar_gd (d := (some 27)) (by show ((!(decFig (rdWhole s) 5)) == false) = true; rw [h1]; rfl) rfl (st_move (v := .bool (rdPoint s)) rfl rfl ?_)))
  refine bool_split (rdPoint s) (fun h2 => ?_) (fun h2 => ?_)
  ·refine ar_gd (d := (some 28)) (by show ((rdPoint s) == true) = true; rw [h2]; rfl) rfl (st_move (v := .string (rdRest s)) rfl rfl (ar_gd (d := (some 29)) (by show ((rdPoint s) == true) = true; rw [h2]; rfl) rfl (st_cf (c_decFig (rdRest s) 6 (by decide)) Tryz.func68 rfl (by decide) rfl rfl rfl (ar_gd (d := (some 30)) (by show ((rdPoint s) == true) = true; rw [h2]; rfl) rfl (st_un (v := .bool (!(decFig (rdRest s) 6))) rfl rfl (un_not rfl) (ar_gd (d := (some 31)) (by show ((!(decFig (rdWhole s) 5)) == false) = true; rw [h1]; rfl) rfl (st_pkt' (b := rdPoint s) (v := .bool (!(decFig (rdRest s) 6))) h2 rfl rfl rfl ?_)))))))
   refine ao 32 rfl rfl (st_pkf' (b := !(decFig (rdWhole s) 5)) (v := .bool (!(decFig (rdRest s) 6))) (by rw [h1]; rfl) rfl rfl rfl (aN ?_))
   refine bool_split (decFig (rdRest s) 6) (fun h3 => ?_) (fun h3 => ?_)
   ·refine ac_else' (b := !(decFig (rdRest s) 6)) (by rw [h3]; rfl) rfl (ac_skip (aQ (aL (aM 34 (.string (rdRest s)) rfl rfl (aC 35 (c_lTrimRight (rdRest s) 48 (by decide) (rest_sz (.inr ⟨h2, h3⟩))) Tryz.func69 ⟨rfl, by decide⟩ rfl rfl (aA 7 (.string (lTrimRight (rdRest s) 48)) rfl rfl (aN (aQ (aL (aM 37 (.string (rdWhole s)) rfl rfl (aM 38 (.string (lTrimRight (rdRest s) 48)) rfl rfl (aB 39 (.string ((rdWhole s) ++ (lTrimRight (rdRest s) 48))) rfl rfl rfl (bi_sadd (sz_two (fig_le h1) (rest_sz2 (.inr ⟨h2, h3⟩)) (by decide))) ?_))))))))))))
    refine aC 40 (c_lAtoi ((rdWhole s) ++ (lTrimRight (rdRest s) 48)) (atoi_sz h1 (.inr ⟨h2, h3⟩)) (atoi_ok h1 (.inr ⟨h2, h3⟩))) Tryz.func70 ⟨rfl, by decide⟩ rfl rfl (aM 36 (.tuple #[.int .i64 (lAtoi ((rdWhole s) ++ (lTrimRight (rdRest s) 48))), .nilIface]) rfl rfl (aX 41 (.int .i64 (lAtoi ((rdWhole s) ++ (lTrimRight (rdRest s) 48)))) rfl rfl rfl (aX 42 (.nilIface) rfl rfl rfl (aA 9 (.int .i64 (lAtoi ((rdWhole s) ++ (lTrimRight (rdRest s) 48)))) rfl rfl (aA 10 (.nilIface) rfl rfl (aN (aQ (aQ (aL (aM 43 (.bool (rdMinus s)) rfl rfl (aM 44 (.bool (rdMinus s)) rfl rfl ?_)))))))))))
    refine bool_split (rdMinus s) (fun h4 => ?_) (fun h4 => ?_)
    ·refine ar_gd (d := (some 45)) (by show ((rdMinus s) == true) = true; rw [h4]; rfl) rfl (st_move (v := .int .i64 (lAtoi ((rdWhole s) ++ (lTrimRight (rdRest s) 48)))) rfl rfl (ar_gd (d := (some 46)) (by show ((rdMinus s) == true) = true; rw [h4]; rfl) rfl (st_bi (r := .bool ((lAtoi ((rdWhole s) ++ (lTrimRight (rdRest s) 48))) == 0)) rfl rfl rfl (bi_eql rfl) (ao 47 rfl rfl (st_pkt' (b := rdMinus s) (v := .bool ((lAtoi ((rdWhole s) ++ (lTrimRight (rdRest s) 48))) == 0)) h4 rfl rfl rfl (aN ?_))))))
     refine bool_split ((lAtoi ((rdWhole s) ++ (lTrimRight (rdRest s) 48))) == 0) (fun h5 => ?_) (fun h5 => ?_)
     ·refine ac_then' (b := (lAtoi ((rdWhole s) ++ (lTrimRight (rdRest s) 48))) == 0) h5 rfl (aQ (aL (ao 48 rfl rfl (st_bd (us := []) (v := .agg #[.int .i64 0, .int .i64 0]) rfl rfl (bd26_ ) (aS [.int .i64 0, .int .i64 0] agg26 0 rfl rfl rfl rfl rfl rfl (aA 3 (.bool false) rfl rfl (aN (ac_ret (fin_eq (v := .tuple #[.agg #[.int .i64 0, .int .i64 0], .bool false]) (by show _ = (fun (r : Dec × Bool) => (.tuple #[.agg #[.int .i64 r.1.c, .int .i64 r.1.scale], .bool r.2] : Value)) (decRead s); rw [decRead, h5, h4, h3, h2, h1] <;> rfl) (fin_ret (res_ct (vs := [.int .i64 0, .int .i64 0]) agg26 0 rfl rfl rfl rfl rfl rfl rfl)))))))))))
     ·refine ac_else' (b := (lAtoi ((rdWhole s) ++ (lTrimRight (rdRest s) 48))) == 0) h5 rfl (ac_skip (aQ (aQ (aL (aM 49 (.bool (rdMinus s)) rfl rfl (aN (ac_then' (b := rdMinus s) h4 rfl (aL (aM 50 (.int .i64 (lAtoi ((rdWhole s) ++ (lTrimRight (rdRest s) 48)))) rfl rfl (ao 51 rfl rfl (st_un (v := .int .i64 (w64 (0 - (lAtoi ((rdWhole s) ++ (lTrimRight (rdRest s) 48)))))) rfl rfl (un_neg rfl) (aA 9 (.int .i64 (w64 (0 - (lAtoi ((rdWhole s) ++ (lTrimRight (rdRest s) 48)))))) rfl rfl (aN (aQ (aL (aM 52 (.int .i64 (w64 (0 - (lAtoi ((rdWhole s) ++ (lTrimRight (rdRest s) 48)))))) rfl rfl (aM 53 (.string (lTrimRight (rdRest s) 48)) rfl rfl ?_)))))))))))))))))
      refine ao 54 rfl rfl (st_slen (s := (lTrimRight (rdRest s) 48)) rfl Tryz.underlying9 rfl (ao 55 rfl rfl (st_bd (us := [(0, .int .i64 (w64 (0 - (lAtoi ((rdWhole s) ++ (lTrimRight (rdRest s) 48)))))), (1, .int .i64 (((lTrimRight (rdRest s) 48)).size : Int))]) (v := .agg #[.int .i64 (w64 (0 - (lAtoi ((rdWhole s) ++ (lTrimRight (rdRest s) 48))))), .int .i64 (((lTrimRight (rdRest s) 48)).size : Int)]) rfl rfl (bd26_0_1 _ _) (aS [.int .i64 (w64 (0 - (lAtoi ((rdWhole s) ++ (lTrimRight (rdRest s) 48))))), .int .i64 (((lTrimRight (rdRest s) 48)).size : Int)] agg26 0 rfl rfl rfl rfl rfl rfl (aA 3 (.bool true) rfl rfl (aN (ac_ret ?_)))))))
      exact fin_eq (v := .tuple #[.agg #[.int .i64 (w64 (0 - (lAtoi ((rdWhole s) ++ (lTrimRight (rdRest s) 48))))), .int .i64 (((lTrimRight (rdRest s) 48)).size : Int)], .bool true]) (by show _ = (fun (r : Dec × Bool) => (.tuple #[.agg #[.int .i64 r.1.c, .int .i64 r.1.scale], .bool r.2] : Value)) (decRead s); rw [decRead, h5, h4, h3, h2, h1] <;> rfl) (fin_ret (res_ct (vs := [.int .i64 (w64 (0 - (lAtoi ((rdWhole s) ++ (lTrimRight (rdRest s) 48))))), .int .i64 (((lTrimRight (rdRest s) 48)).size : Int)]) agg26 0 rfl rfl rfl rfl rfl rfl rfl))
    ·refine aK 45 (by show ((rdMinus s) == true) = false; rw [h4]; rfl) rfl (aK 46 (by show ((rdMinus s) == true) = false; rw [h4]; rfl) rfl (ao 47 rfl rfl (st_pkf' (b := rdMinus s) (v := .bool false) h4 rfl rfl rfl (aN (ac_else rfl (ac_skip (aQ (aQ (aL (aM 49 (.bool (rdMinus s)) rfl rfl (aN (ac_else' (b := rdMinus s) h4 rfl (ac_skip (aQ (aL (aM 52 (.int .i64 (lAtoi ((rdWhole s) ++ (lTrimRight (rdRest s) 48)))) rfl rfl (aM 53 (.string (lTrimRight (rdRest s) 48)) rfl rfl (ao 54 rfl rfl (st_slen (s := (lTrimRight (rdRest s) 48)) rfl Tryz.underlying9 rfl ?_)))))))))))))))))))
     refine ao 55 rfl rfl (st_bd (us := [(0, .int .i64 (lAtoi ((rdWhole s) ++ (lTrimRight (rdRest s) 48)))), (1, .int .i64 (((lTrimRight (rdRest s) 48)).size : Int))]) (v := .agg #[.int .i64 (lAtoi ((rdWhole s) ++ (lTrimRight (rdRest s) 48))), .int .i64 (((lTrimRight (rdRest s) 48)).size : Int)]) rfl rfl (bd26_0_1 _ _) (aS [.int .i64 (lAtoi ((rdWhole s) ++ (lTrimRight (rdRest s) 48))), .int .i64 (((lTrimRight (rdRest s) 48)).size : Int)] agg26 0 rfl rfl rfl rfl rfl rfl (aA 3 (.bool true) rfl rfl (aN (ac_ret ?_)))))
     exact fin_eq (v := .tuple #[.agg #[.int .i64 (lAtoi ((rdWhole s) ++ (lTrimRight (rdRest s) 48))), .int .i64 (((lTrimRight (rdRest s) 48)).size : Int)], .bool true]) (by show _ = (fun (r : Dec × Bool) => (.tuple #[.agg #[.int .i64 r.1.c, .int .i64 r.1.scale], .bool r.2] : Value)) (decRead s); rw [decRead, h4, h3, h2, h1] <;> rfl) (fin_ret (res_ct (vs := [.int .i64 (lAtoi ((rdWhole s) ++ (lTrimRight (rdRest s) 48))), .int .i64 (((lTrimRight (rdRest s) 48)).size : Int)]) agg26 0 rfl rfl rfl rfl rfl rfl rfl))
   ·refine ac_then' (b := !(decFig (rdRest s) 6)) (by rw [h3]; rfl) rfl (aQ (aL (ao 33 rfl rfl (st_bd (us := []) (v := .agg #[.int .i64 0, .int .i64 0]) rfl rfl (bd26_ ) (aS [.int .i64 0, .int .i64 0] agg26 0 rfl rfl rfl rfl rfl rfl (aA 3 (.bool false) rfl rfl (aN (ac_ret (fin_eq (v := .tuple #[.agg #[.int .i64 0, .int .i64 0], .bool false]) (by show _ = (fun (r : Dec × Bool) => (.tuple #[.agg #[.int .i64 r.1.c, .int .i64 r.1.scale], .bool r.2] : Value)) (decRead s); rw [decRead, h3, h2, h1] <;> rfl) (fin_ret (res_ct (vs := [.int .i64 0, .int .i64 0]) agg26 0 rfl rfl rfl rfl rfl rfl rfl)))))))))))
  ·refine aK 28 (by show ((rdPoint s) == true) = false; rw [h2]; rfl) rfl (aK 29 (by show ((rdPoint s) == true) = false; rw [h2]; rfl) rfl (aK 30 (by show ((rdPoint s) == true) = false; rw [h2]; rfl) rfl (ar_gd (d := (some 31)) (by show ((!(decFig (rdWhole s) 5)) == false) = true; rw [h1]; rfl) rfl (st_pkf' (b := rdPoint s) (v := .bool false) h2 rfl rfl rfl (ao 32 rfl rfl (st_pkf' (b := !(decFig (rdWhole s) 5)) (v := .bool false) (by rw [h1]; rfl) rfl rfl rfl (aN (ac_else rfl (ac_skip (aQ (aL (aM 34 (.string (rdRest s)) rfl rfl (aC 35 (c_lTrimRight (rdRest s) 48 (by decide) (rest_sz (.inl h2))) Tryz.func69 ⟨rfl, by decide⟩ rfl rfl ?_)))))))))))))
   refine aA 7 (.string (lTrimRight (rdRest s) 48)) rfl rfl (aN (aQ (aL (aM 37 (.string (rdWhole s)) rfl rfl (aM 38 (.string (lTrimRight (rdRest s) 48)) rfl rfl (aB 39 (.string ((rdWhole s) ++ (lTrimRight (rdRest s) 48))) rfl rfl rfl (bi_sadd (sz_two (fig_le h1) (rest_sz2 (.inl h2)) (by decide))) (aC 40 (c_lAtoi ((rdWhole s) ++ (lTrimRight (rdRest s) 48)) (atoi_sz h1 (.inl h2)) (atoi_ok h1 (.inl h2))) Tryz.func70 ⟨rfl, by decide⟩ rfl rfl (aM 36 (.tuple #[.int .i64 (lAtoi ((rdWhole s) ++ (lTrimRight (rdRest s) 48))), .nilIface]) rfl rfl (aX 41 (.int .i64 (lAtoi ((rdWhole s) ++ (lTrimRight (rdRest s) 48)))) rfl rfl rfl (aX 42 (.nilIface) rfl rfl rfl ?_))))))))))
   refine aA 9 (.int .i64 (lAtoi ((rdWhole s) ++ (lTrimRight (rdRest s) 48)))) rfl rfl (aA 10 (.nilIface) rfl rfl (aN (aQ (aQ (aL (aM 43 (.bool (rdMinus s)) rfl rfl (aM 44 (.bool (rdMinus s)) rfl rfl ?_)))))))
   refine bool_split (rdMinus s) (fun h3 => ?_) (fun h3 => ?_)
   ·refine ar_gd (d := (some 45)) (by show ((rdMinus s) == true) = true; rw [h3]; rfl) rfl (st_move (v := .int .i64 (lAtoi ((rdWhole s) ++ (lTrimRight (rdRest s) 48)))) rfl rfl (ar_gd (d := (some 46)) (by show ((rdMinus s) == true) = true; rw [h3]; rfl) rfl (st_bi (r := .bool ((lAtoi ((rdWhole s) ++ (lTrimRight (rdRest s) 48))) == 0)) rfl rfl rfl (bi_eql rfl) (ao 47 rfl rfl (st_pkt' (b := rdMinus s) (v := .bool ((lAtoi ((rdWhole s) ++ (lTrimRight (rdRest s) 48))) == 0)) h3 rfl rfl rfl (aN ?_))))))
    refine bool_split ((lAtoi ((rdWhole s) ++ (lTrimRight (rdRest s) 48))) == 0) (fun h4 => ?_) (fun h4 => ?_)
    ·refine ac_then' (b := (lAtoi ((rdWhole s) ++ (lTrimRight (rdRest s) 48))) == 0) h4 rfl (aQ (aL (ao 48 rfl rfl (st_bd (us := []) (v := .agg #[.int .i64 0, .int .i64 0]) rfl rfl (bd26_ ) (aS [.int .i64 0, .int .i64 0] agg26 0 rfl rfl rfl rfl rfl rfl (aA 3 (.bool false) rfl rfl (aN (ac_ret (fin_eq (v := .tuple #[.agg #[.int .i64 0, .int .i64 0], .bool false]) (by show _ = (fun (r : Dec × Bool) => (.tuple #[.agg #[.int .i64 r.1.c, .int .i64 r.1.scale], .bool r.2] : Value)) (decRead s); rw [decRead, h4, h3, h2, h1] <;> rfl) (fin_ret (res_ct (vs := [.int .i64 0, .int .i64 0]) agg26 0 rfl rfl rfl rfl rfl rfl rfl)))))))))))
    ·refine ac_else' (b := (lAtoi ((rdWhole s) ++ (lTrimRight (rdRest s) 48))) == 0) h4 rfl (ac_skip (aQ (aQ (aL (aM 49 (.bool (rdMinus s)) rfl rfl (aN (ac_then' (b := rdMinus s) h3 rfl (aL (aM 50 (.int .i64 (lAtoi ((rdWhole s) ++ (lTrimRight (rdRest s) 48)))) rfl rfl (ao 51 rfl rfl (st_un (v := .int .i64 (w64 (0 - (lAtoi ((rdWhole s) ++ (lTrimRight (rdRest s) 48)))))) rfl rfl (un_neg rfl) (aA 9 (.int .i64 (w64 (0 - (lAtoi ((rdWhole s) ++ (lTrimRight (rdRest s) 48)))))) rfl rfl (aN (aQ (aL (aM 52 (.int .i64 (w64 (0 - (lAtoi ((rdWhole s) ++ (lTrimRight (rdRest s) 48)))))) rfl rfl (aM 53 (.string (lTrimRight (rdRest s) 48)) rfl rfl ?_)))))))))))))))))
     refine ao 54 rfl rfl (st_slen (s := (lTrimRight (rdRest s) 48)) rfl Tryz.underlying9 rfl (ao 55 rfl rfl (st_bd (us := [(0, .int .i64 (w64 (0 - (lAtoi ((rdWhole s) ++ (lTrimRight (rdRest s) 48)))))), (1, .int .i64 (((lTrimRight (rdRest s) 48)).size : Int))]) (v := .agg #[.int .i64 (w64 (0 - (lAtoi ((rdWhole s) ++ (lTrimRight (rdRest s) 48))))), .int .i64 (((lTrimRight (rdRest s) 48)).size : Int)]) rfl rfl (bd26_0_1 _ _) (aS [.int .i64 (w64 (0 - (lAtoi ((rdWhole s) ++ (lTrimRight (rdRest s) 48))))), .int .i64 (((lTrimRight (rdRest s) 48)).size : Int)] agg26 0 rfl rfl rfl rfl rfl rfl (aA 3 (.bool true) rfl rfl (aN (ac_ret ?_)))))))
     exact fin_eq (v := .tuple #[.agg #[.int .i64 (w64 (0 - (lAtoi ((rdWhole s) ++ (lTrimRight (rdRest s) 48))))), .int .i64 (((lTrimRight (rdRest s) 48)).size : Int)], .bool true]) (by show _ = (fun (r : Dec × Bool) => (.tuple #[.agg #[.int .i64 r.1.c, .int .i64 r.1.scale], .bool r.2] : Value)) (decRead s); rw [decRead, h4, h3, h2, h1] <;> rfl) (fin_ret (res_ct (vs := [.int .i64 (w64 (0 - (lAtoi ((rdWhole s) ++ (lTrimRight (rdRest s) 48))))), .int .i64 (((lTrimRight (rdRest s) 48)).size : Int)]) agg26 0 rfl rfl rfl rfl rfl rfl rfl))
   ·refine aK 45 (by show ((rdMinus s) == true) = false; rw [h3]; rfl) rfl (aK 46 (by show ((rdMinus s) == true) = false; rw [h3]; rfl) rfl (ao 47 rfl rfl (st_pkf' (b := rdMinus s) (v := .bool false) h3 rfl rfl rfl (aN (ac_else rfl (ac_skip (aQ (aQ (aL (aM 49 (.bool (rdMinus s)) rfl rfl (aN (ac_else' (b := rdMinus s) h3 rfl (ac_skip (aQ (aL (aM 52 (.int .i64 (lAtoi ((rdWhole s) ++ (lTrimRight (rdRest s) 48)))) rfl rfl (aM 53 (.string (lTrimRight (rdRest s) 48)) rfl rfl (ao 54 rfl rfl (st_slen (s := (lTrimRight (rdRest s) 48)) rfl Tryz.underlying9 rfl ?_)))))))))))))))))))
    refine ao 55 rfl rfl (st_bd (us := [(0, .int .i64 (lAtoi ((rdWhole s) ++ (lTrimRight (rdRest s) 48)))), (1, .int .i64 (((lTrimRight (rdRest s) 48)).size : Int))]) (v := .agg #[.int .i64 (lAtoi ((rdWhole s) ++ (lTrimRight (rdRest s) 48))), .int .i64 (((lTrimRight (rdRest s) 48)).size : Int)]) rfl rfl (bd26_0_1 _ _) (aS [.int .i64 (lAtoi ((rdWhole s) ++ (lTrimRight (rdRest s) 48))), .int .i64 (((lTrimRight (rdRest s) 48)).size : Int)] agg26 0 rfl rfl rfl rfl rfl rfl (aA 3 (.bool true) rfl rfl (aN (ac_ret ?_)))))
    exact fin_eq (v := .tuple #[.agg #[.int .i64 (lAtoi ((rdWhole s) ++ (lTrimRight (rdRest s) 48))), .int .i64 (((lTrimRight (rdRest s) 48)).size : Int)], .bool true]) (by show _ = (fun (r : Dec × Bool) => (.tuple #[.agg #[.int .i64 r.1.c, .int .i64 r.1.scale], .bool r.2] : Value)) (decRead s); rw [decRead, h3, h2, h1] <;> rfl) (fin_ret (res_ct (vs := [.int .i64 (lAtoi ((rdWhole s) ++ (lTrimRight (rdRest s) 48))), .int .i64 (((lTrimRight (rdRest s) 48)).size : Int)]) agg26 0 rfl rfl rfl rfl rfl rfl rfl))
 ·refine aK 26 (by show ((!(decFig (rdWhole s) 5)) == false) = false; rw [h1]; rfl) rfl (aK 27 (by show ((!(decFig (rdWhole s) 5)) == false) = false; rw [h1]; rfl) rfl (aK 28 rfl rfl (aK 29 rfl rfl (aK 30 rfl rfl (aK 31 (by show ((!(decFig (rdWhole s) 5)) == false) = false; rw [h1]; rfl) rfl (ao 32 rfl rfl (st_pkt' (b := !(decFig (rdWhole s) 5)) (v := .bool true) (by rw [h1]; rfl) rfl rfl rfl (aN (ac_then rfl (aQ (aL (ao 33 rfl rfl (st_bd (us := []) (v := .agg #[.int .i64 0, .int .i64 0]) rfl rfl (bd26_ ) (aS [.int .i64 0, .int .i64 0] agg26 0 rfl rfl rfl rfl rfl rfl (aA 3 (.bool false) rfl rfl (aN (ac_ret ?_)))))))))))))))))
  exact fin_eq (v := .tuple #[.agg #[.int .i64 0, .int .i64 0], .bool false]) (by show _ = (fun (r : Dec × Bool) => (.tuple #[.agg #[.int .i64 r.1.c, .int .i64 r.1.scale], .bool r.2] : Value)) (decRead s); rw [decRead, h1] <;> rfl) (fin_ret (res_ct (vs := [.int .i64 0, .int .i64 0]) agg26 0 rfl rfl rfl rfl rfl rfl rfl))
end Go.Proofs.YtalffjplbhelcaaGreatDoor
namespace Go.Proofs.YtalffjplbhelcaaGreatDoor
open Go.RowKit
attribute [local irreducible] AC AR DWalk
def lexLetter (c : Int) : Bool := (bif decide (c ≥ 97) then (bif decide (c ≤ 122) then true else (bif decide (c ≥ 65) then decide (c ≤ 90) else false)) else (bif decide (c ≥ 65) then decide (c ≤ 90) else false))
set_option maxRecDepth 100000 in
theorem c_lexLetter (c : Int) : Gets Tryz.prog 101 #[.int .u8 c] ((fun (r : Bool) => (.bool r : Value)) (lexLetter c)) := by
 refine gets_fin Tryz.func101 rfl rfl rfl (aQ (aL (aA 2 (.bool false) rfl rfl (aN (aQ (aL (aM 3 (.int .u8 c) rfl rfl (aB 4 (.bool (decide (c ≥ 97))) rfl rfl rfl (bk_geq rfl) (aM 5 (.bool (decide (c ≥ 97))) rfl rfl ?_)))))))))
 refine bool_split (decide (c ≥ 97)) (fun h1 => ?_) (fun h1 => ?_)
 ·refine ar_gd (d := (some 6)) (by show ((decide (c ≥ 97)) == true) = true; rw [h1]; rfl) rfl (st_move (v := .int .u8 c) rfl rfl (ar_gd (d := (some 7)) (by show ((decide (c ≥ 97)) == true) = true; rw [h1]; rfl) rfl (st_bi (r := .bool (decide (c ≤ 122))) rfl rfl rfl (bk_leq rfl) (ao 8 rfl rfl (st_pkt' (b := decide (c ≥ 97)) (v := .bool (decide (c ≤ 122))) h1 rfl rfl rfl (aM 9 (.bool (decide (c ≤ 122))) rfl rfl ?_))))))
  refine bool_split (decide (c ≤ 122)) (fun h2 => ?_) (fun h2 => ?_)
  ·refine aK 10 (by show ((decide (c ≤ 122)) == false) = false; rw [h2]; rfl) rfl (aK 11 (by show ((decide (c ≤ 122)) == false) = false; rw [h2]; rfl) rfl (aK 12 (by show ((decide (c ≤ 122)) == false) = false; rw [h2]; rfl) rfl (aK 13 rfl rfl (aK 14 rfl rfl (aK 15 (by show ((decide (c ≤ 122)) == false) = false; rw [h2]; rfl) rfl (ao 16 rfl rfl (st_pkt' (b := decide (c ≤ 122)) (v := .bool true) h2 rfl rfl rfl (aA 2 (.bool true) rfl rfl (aN (ac_ret (fin_eq (v := .bool true) (by show _ = (fun (r : Bool) => (.bool r : Value)) (lexLetter c); rw [lexLetter, h2, h1] <;> rfl) (fin_ret (res_tmp rfl rfl)))))))))))))
  ·refine ar_gd (d := (some 10)) (by show ((decide (c ≤ 122)) == false) = true; rw [h2]; rfl) rfl (st_move (v := .int .u8 c) rfl rfl (ar_gd (d := (some 11)) (by show ((decide (c ≤ 122)) == false) = true; rw [h2]; rfl) rfl (st_bi (r := .bool (decide (c ≥ 65))) rfl rfl rfl (bk_geq rfl) (ar_gd (d := (some 12)) (by show ((decide (c ≤ 122)) == false) = true; rw [h2]; rfl) rfl (st_move (v := .bool (decide (c ≥ 65))) rfl rfl ?_)))))
   refine bool_split (decide (c ≥ 65)) (fun h3 => ?_) (fun h3 => ?_)
   ·refine ar_gd (d := (some 13)) (by show ((decide (c ≥ 65)) == true) = true; rw [h3]; rfl) rfl (st_move (v := .int .u8 c) rfl rfl (ar_gd (d := (some 14)) (by show ((decide (c ≥ 65)) == true) = true; rw [h3]; rfl) rfl (st_bi (r := .bool (decide (c ≤ 90))) rfl rfl rfl (bk_leq rfl) (ar_gd (d := (some 15)) (by show ((decide (c ≤ 122)) == false) = true; rw [h2]; rfl) rfl (st_pkt' (b := decide (c ≥ 65)) (v := .bool (decide (c ≤ 90))) h3 rfl rfl rfl (ao 16 rfl rfl (st_pkf' (b := decide (c ≤ 122)) (v := .bool (decide (c ≤ 90))) h2 rfl rfl rfl (aA 2 (.bool (decide (c ≤ 90))) rfl rfl (aN (ac_ret ?_))))))))))
    exact fin_eq (v := .bool (decide (c ≤ 90))) (by show _ = (fun (r : Bool) => (.bool r : Value)) (lexLetter c); rw [lexLetter, h3, h2, h1] <;> rfl) (fin_ret (res_tmp rfl rfl))
   ·refine aK 13 (by show ((decide (c ≥ 65)) == true) = false; rw [h3]; rfl) rfl (aK 14 (by show ((decide (c ≥ 65)) == true) = false; rw [h3]; rfl) rfl (ar_gd (d := (some 15)) (by show ((decide (c ≤ 122)) == false) = true; rw [h2]; rfl) rfl (st_pkf' (b := decide (c ≥ 65)) (v := .bool false) h3 rfl rfl rfl (ao 16 rfl rfl (st_pkf' (b := decide (c ≤ 122)) (v := .bool false) h2 rfl rfl rfl (aA 2 (.bool false) rfl rfl (aN (ac_ret (fin_eq (v := .bool false) (by show _ = (fun (r : Bool) => (.bool r : Value)) (lexLetter c); rw [lexLetter, h3, h2, h1] <;> rfl) (fin_ret (res_tmp rfl rfl)))))))))))
 ·refine aK 6 (by show ((decide (c ≥ 97)) == true) = false; rw [h1]; rfl) rfl (aK 7 (by show ((decide (c ≥ 97)) == true) = false; rw [h1]; rfl) rfl (ao 8 rfl rfl (st_pkf' (b := decide (c ≥ 97)) (v := .bool false) h1 rfl rfl rfl (aM 9 (.bool false) rfl rfl (ar_gd (d := (some 10)) rfl rfl (st_move (v := .int .u8 c) rfl rfl (ar_gd (d := (some 11)) rfl rfl (st_bi (r := .bool (decide (c ≥ 65))) rfl rfl rfl (bk_geq rfl) (ar_gd (d := (some 12)) rfl rfl (st_move (v := .bool (decide (c ≥ 65))) rfl rfl ?_))))))))))
  refine bool_split (decide (c ≥ 65)) (fun h2 => ?_) (fun h2 => ?_)
  ·refine ar_gd (d := (some 13)) (by show ((decide (c ≥ 65)) == true) = true; rw [h2]; rfl) rfl (st_move (v := .int .u8 c) rfl rfl (ar_gd (d := (some 14)) (by show ((decide (c ≥ 65)) == true) = true; rw [h2]; rfl) rfl (st_bi (r := .bool (decide (c ≤ 90))) rfl rfl rfl (bk_leq rfl) (ar_gd (d := (some 15)) rfl rfl (st_pkt' (b := decide (c ≥ 65)) (v := .bool (decide (c ≤ 90))) h2 rfl rfl rfl (ao 16 rfl rfl (st_pkf (v := .bool (decide (c ≤ 90))) rfl rfl rfl (aA 2 (.bool (decide (c ≤ 90))) rfl rfl (aN (ac_ret (fin_eq (v := .bool (decide (c ≤ 90))) (by show _ = (fun (r : Bool) => (.bool r : Value)) (lexLetter c); rw [lexLetter, h2, h1] <;> rfl) (fin_ret (res_tmp rfl rfl)))))))))))))
  ·refine aK 13 (by show ((decide (c ≥ 65)) == true) = false; rw [h2]; rfl) rfl (aK 14 (by show ((decide (c ≥ 65)) == true) = false; rw [h2]; rfl) rfl (ar_gd (d := (some 15)) rfl rfl (st_pkf' (b := decide (c ≥ 65)) (v := .bool false) h2 rfl rfl rfl (ao 16 rfl rfl (st_pkf (v := .bool false) rfl rfl rfl (aA 2 (.bool false) rfl rfl (aN (ac_ret (fin_eq (v := .bool false) (by show _ = (fun (r : Bool) => (.bool r : Value)) (lexLetter c); rw [lexLetter, h2, h1] <;> rfl) (fin_ret (res_tmp rfl rfl)))))))))))
def lexDigit (c : Int) : Bool := (bif decide (c ≥ 48) then decide (c ≤ 57) else false)
set_option maxRecDepth 100000 in
theorem c_lexDigit (c : Int) : Gets Tryz.prog 102 #[.int .u8 c] ((fun (r : Bool) => (.bool r : Value)) (lexDigit c)) := by
 refine gets_fin Tryz.func102 rfl rfl rfl (aQ (aL (aA 2 (.bool false) rfl rfl (aN (aQ (aL (aM 3 (.int .u8 c) rfl rfl (aB 4 (.bool (decide (c ≥ 48))) rfl rfl rfl (bk_geq rfl) (aM 5 (.bool (decide (c ≥ 48))) rfl rfl ?_)))))))))
 refine bool_split (decide (c ≥ 48)) (fun h1 => ?_) (fun h1 => ?_)
 ·refine ar_gd (d := (some 6)) (by show ((decide (c ≥ 48)) == true) = true; rw [h1]; rfl) rfl (st_move (v := .int .u8 c) rfl rfl (ar_gd (d := (some 7)) (by show ((decide (c ≥ 48)) == true) = true; rw [h1]; rfl) rfl (st_bi (r := .bool (decide (c ≤ 57))) rfl rfl rfl (bk_leq rfl) (ao 8 rfl rfl (st_pkt' (b := decide (c ≥ 48)) (v := .bool (decide (c ≤ 57))) h1 rfl rfl rfl (aA 2 (.bool (decide (c ≤ 57))) rfl rfl (aN (ac_ret (fin_eq (v := .bool (decide (c ≤ 57))) (by show _ = (fun (r : Bool) => (.bool r : Value)) (lexDigit c); rw [lexDigit, h1] <;> rfl) (fin_ret (res_tmp rfl rfl)))))))))))
 ·refine aK 6 (by show ((decide (c ≥ 48)) == true) = false; rw [h1]; rfl) rfl (aK 7 (by show ((decide (c ≥ 48)) == true) = false; rw [h1]; rfl) rfl (ao 8 rfl rfl (st_pkf' (b := decide (c ≥ 48)) (v := .bool false) h1 rfl rfl rfl (aA 2 (.bool false) rfl rfl (aN (ac_ret (fin_eq (v := .bool false) (by show _ = (fun (r : Bool) => (.bool r : Value)) (lexDigit c); rw [lexDigit, h1] <;> rfl) (fin_ret (res_tmp rfl rfl)))))))))
def lexInWord (c : Int) : Bool := (bif lexLetter c then true else (bif lexDigit c then true else (bif c == 45 then true else c == 95)))
set_option maxRecDepth 100000 in
theorem c_lexInWord (c : Int) : Gets Tryz.prog 105 #[.int .u8 c] ((fun (r : Bool) => (.bool r : Value)) (lexInWord c)) := by
 refine gets_fin Tryz.func105 rfl rfl rfl (aQ (aL (aA 2 (.bool false) rfl rfl (aN (aQ (aL (aM 3 (.int .u8 c) rfl rfl (aC 4 (c_lexLetter c) Tryz.func101 ⟨rfl, by decide⟩ rfl rfl (aM 5 (.bool (lexLetter c)) rfl rfl ?_)))))))))
 refine bool_split (lexLetter c) (fun h1 => ?_) (fun h1 => ?_)
 ·refine aK 6 (by show ((lexLetter c) == false) = false; rw [h1]; rfl) rfl (aK 7 (by show ((lexLetter c) == false) = false; rw [h1]; rfl) rfl (ao 8 rfl rfl (st_pkt' (b := lexLetter c) (v := .bool true) h1 rfl rfl rfl (aM 9 (.bool true) rfl rfl (aK 10 rfl rfl (aK 11 rfl rfl (ao 12 rfl rfl (st_pkt (v := .bool true) rfl rfl rfl (aM 13 (.bool true) rfl rfl (aK 14 rfl rfl (aK 15 rfl rfl (ao 16 rfl rfl (st_pkt (v := .bool true) rfl rfl rfl (aA 2 (.bool true) rfl rfl (aN (ac_ret (fin_eq (v := .bool true) (by show _ = (fun (r : Bool) => (.bool r : Value)) (lexInWord c); rw [lexInWord, h1] <;> rfl) (fin_ret (res_tmp rfl rfl)))))))))))))))))))
 ·refine ar_gd (d := (some 6)) (by show ((lexLetter c) == false) = true; rw [h1]; rfl) rfl (st_move (v := .int .u8 c) rfl rfl (ar_gd (d := (some 7)) (by show ((lexLetter c) == false) = true; rw [h1]; rfl) rfl (st_cf (c_lexDigit c) Tryz.func102 rfl (by decide) rfl rfl rfl (ao 8 rfl rfl (st_pkf' (b := lexLetter c) (v := .bool (lexDigit c)) h1 rfl rfl rfl (aM 9 (.bool (lexDigit c)) rfl rfl ?_))))))
  refine bool_split (lexDigit c) (fun h2 => ?_) (fun h2 => ?_)
  ·refine aK 10 (by show ((lexDigit c) == false) = false; rw [h2]; rfl) rfl (aK 11 (by show ((lexDigit c) == false) = false; rw [h2]; rfl) rfl (ao 12 rfl rfl (st_pkt' (b := lexDigit c) (v := .bool true) h2 rfl rfl rfl (aM 13 (.bool true) rfl rfl (aK 14 rfl rfl (aK 15 rfl rfl (ao 16 rfl rfl (st_pkt (v := .bool true) rfl rfl rfl (aA 2 (.bool true) rfl rfl (aN (ac_ret (fin_eq (v := .bool true) (by show _ = (fun (r : Bool) => (.bool r : Value)) (lexInWord c); rw [lexInWord, h2, h1] <;> rfl) (fin_ret (res_tmp rfl rfl))))))))))))))
  ·refine ar_gd (d := (some 10)) (by show ((lexDigit c) == false) = true; rw [h2]; rfl) rfl (st_move (v := .int .u8 c) rfl rfl (ar_gd (d := (some 11)) (by show ((lexDigit c) == false) = true; rw [h2]; rfl) rfl (st_bi (r := .bool (c == 45)) rfl rfl rfl (bk_eql rfl) (ao 12 rfl rfl (st_pkf' (b := lexDigit c) (v := .bool (c == 45)) h2 rfl rfl rfl (aM 13 (.bool (c == 45)) rfl rfl ?_))))))
   refine bool_split (c == 45) (fun h3 => ?_) (fun h3 => ?_)
   ·refine aK 14 (by show ((c == 45) == false) = false; rw [h3]; rfl) rfl (aK 15 (by show ((c == 45) == false) = false; rw [h3]; rfl) rfl (ao 16 rfl rfl (st_pkt' (b := c == 45) (v := .bool true) h3 rfl rfl rfl (aA 2 (.bool true) rfl rfl (aN (ac_ret (fin_eq (v := .bool true) (by show _ = (fun (r : Bool) => (.bool r : Value)) (lexInWord c); rw [lexInWord, h3, h2, h1] <;> rfl) (fin_ret (res_tmp rfl rfl)))))))))
   ·refine ar_gd (d := (some 14)) (by show ((c == 45) == false) = true; rw [h3]; rfl) rfl (st_move (v := .int .u8 c) rfl rfl (ar_gd (d := (some 15)) (by show ((c == 45) == false) = true; rw [h3]; rfl) rfl (st_bi (r := .bool (c == 95)) rfl rfl rfl (bk_eql rfl) (ao 16 rfl rfl (st_pkf' (b := c == 45) (v := .bool (c == 95)) h3 rfl rfl rfl (aA 2 (.bool (c == 95)) rfl rfl (aN (ac_ret (fin_eq (v := .bool (c == 95)) (by show _ = (fun (r : Bool) => (.bool r : Value)) (lexInWord c); rw [lexInWord, h3, h2, h1] <;> rfl) (fin_ret (res_tmp rfl rfl)))))))))))
def lexInNum (c : Int) : Bool := (bif lexDigit c then true else c == 46)
set_option maxRecDepth 100000 in
theorem c_lexInNum (c : Int) : Gets Tryz.prog 106 #[.int .u8 c] ((fun (r : Bool) => (.bool r : Value)) (lexInNum c)) := by
 refine gets_fin Tryz.func106 rfl rfl rfl (aQ (aL (aA 2 (.bool false) rfl rfl (aN (aQ (aL (aM 3 (.int .u8 c) rfl rfl (aC 4 (c_lexDigit c) Tryz.func102 ⟨rfl, by decide⟩ rfl rfl (aM 5 (.bool (lexDigit c)) rfl rfl ?_)))))))))
 refine bool_split (lexDigit c) (fun h1 => ?_) (fun h1 => ?_)
 ·refine aK 6 (by show ((lexDigit c) == false) = false; rw [h1]; rfl) rfl (aK 7 (by show ((lexDigit c) == false) = false; rw [h1]; rfl) rfl (ao 8 rfl rfl (st_pkt' (b := lexDigit c) (v := .bool true) h1 rfl rfl rfl (aA 2 (.bool true) rfl rfl (aN (ac_ret (fin_eq (v := .bool true) (by show _ = (fun (r : Bool) => (.bool r : Value)) (lexInNum c); rw [lexInNum, h1] <;> rfl) (fin_ret (res_tmp rfl rfl)))))))))
 ·refine ar_gd (d := (some 6)) (by show ((lexDigit c) == false) = true; rw [h1]; rfl) rfl (st_move (v := .int .u8 c) rfl rfl (ar_gd (d := (some 7)) (by show ((lexDigit c) == false) = true; rw [h1]; rfl) rfl (st_bi (r := .bool (c == 46)) rfl rfl rfl (bk_eql rfl) (ao 8 rfl rfl (st_pkf' (b := lexDigit c) (v := .bool (c == 46)) h1 rfl rfl rfl (aA 2 (.bool (c == 46)) rfl rfl (aN (ac_ret (fin_eq (v := .bool (c == 46)) (by show _ = (fun (r : Bool) => (.bool r : Value)) (lexInNum c); rw [lexInNum, h1] <;> rfl) (fin_ret (res_tmp rfl rfl)))))))))))
def lexNoLine (c : Int) : Bool := c != 10
set_option maxRecDepth 100000 in
theorem c_lexNoLine (c : Int) : Gets Tryz.prog 104 #[.int .u8 c] ((fun (r : Bool) => (.bool r : Value)) (lexNoLine c)) := by
 refine gets_fin Tryz.func104 rfl rfl rfl (aQ (aL (aA 2 (.bool false) rfl rfl (aN (aQ (aL (aM 3 (.int .u8 c) rfl rfl (aB 4 (.bool (c != 10)) rfl rfl rfl (bk_neq rfl) (aA 2 (.bool (c != 10)) rfl rfl (aN (ac_ret (fin_eq (v := .bool (c != 10)) rfl (fin_ret (res_tmp rfl rfl))))))))))))))
def place (line : Int) (column : Int) : Cx := (⟨fl line, fl column⟩ : Cx)
set_option maxRecDepth 100000 in
theorem c_place (line : Int) (column : Int) : Gets Tryz.prog 100 #[.int .i64 line, .int .i64 column] ((fun (r : Cx) => (.complex .f64 (r).re (r).im : Value)) (place line column)) := by
 refine gets_fin Tryz.func100 rfl rfl rfl (aQ (aL (aA 4 (.complex .f64 ((⟨0, 0⟩ : Cx)).re ((⟨0, 0⟩ : Cx)).im) rfl rfl (aN (aQ (aL (aM 5 (.int .i64 line) rfl rfl (ao 6 rfl rfl (st_cvf (a := line) rfl rfl Tryz.underlying129 Tryz.underlying3 (aM 7 (.int .i64 column) rfl rfl (ao 8 rfl rfl (st_cvf (a := column) rfl rfl Tryz.underlying129 Tryz.underlying3 (ao 9 rfl rfl (st_cpx (a := (fl line)) (b := (fl column)) rfl rfl (aA 4 (.complex .f64 ((⟨fl line, fl column⟩ : Cx)).re ((⟨fl line, fl column⟩ : Cx)).im) rfl rfl (aN (ac_ret (fin_eq (v := .complex .f64 ((⟨fl line, fl column⟩ : Cx)).re ((⟨fl line, fl column⟩ : Cx)).im) rfl (fin_ret (res_tmp rfl rfl))))))))))))))))))))
end Go.Proofs.YtalffjplbhelcaaGreatDoor
namespace Go.Proofs.YtalffjplbhelcaaGreatDoor
def runTo (P : Int → Bool) (s : ByteArray) : Nat → Nat → Nat
  | 0, i => i
  | n + 1, i => bif decide (i < s.size) && P (sAt s i) then runTo P s n (i + 1) else i
theorem runTo_ge (P : Int → Bool) (s : ByteArray) : ∀ n i, i ≤ runTo P s n i
  | 0, i => Nat.le_refl _
  | n + 1, i => by
    rw [runTo]
    cases decide (i < s.size) && P (sAt s i)
    · exact Nat.le_refl _
    · exact Nat.le_trans (Nat.le_succ i) (runTo_ge P s n (i + 1))
theorem runTo_le (P : Int → Bool) (s : ByteArray) : ∀ n i, i ≤ s.size → runTo P s n i ≤ s.size
  | 0, i, h => h
  | n + 1, i, h => by
    rw [runTo]
    cases hd : decide (i < s.size)
    · exact h
    · rw [Bool.true_and]
      cases P (sAt s i)
      · exact h
      · exact runTo_le P s n (i + 1) (of_decide_eq_true hd)
end Go.Proofs.YtalffjplbhelcaaGreatDoor
namespace Go.Proofs.YtalffjplbhelcaaGreatDoor
open Go.RowKit
attribute [local irreducible] AC AR DWalk
set_option maxRecDepth 100000 in
theorem runW_go (s : ByteArray) (i : Nat) (hi : i < s.size) (hp : lexInWord (sAt s i) = true) {Q : Exit → Env → List Box → Prop} {E : Env} {c : Code} {j : Nat} (hc : Tryz.f103.body.bind loopOf = some c) (q0 : E 0 = .string s) (q2 : E 2 = .func (.func 105) #[] #[]) (q7 : E 7 = .int .i64 (i : Int)) (K : ∀ E' : Env, E' 0 = .string s → E' 2 = .func (.func 105) #[] #[] → E' 7 = .int .i64 (w64 ((i : Int) + 1)) → ARounds Tryz.prog 24 c Q j E' []) : ARounds Tryz.prog 24 c Q (j + 1) E [] := by
 rw [show Tryz.f103.body.bind loopOf = some _ from rfl] at hc
 cases hc
 obtain ⟨E0, rfl⟩ : ∃ E0 : Env, E = (((E0.put (some 0) (.string s)).put (some 2) (.func (.func 105) #[] #[])).put (some 7) (.int .i64 (i : Int))) := ⟨E, by rw [put_self q0, put_self q2, put_self q7]⟩
 refine ar_round (aQ (aQ (aL (aM 10 (.int .i64 (i : Int)) rfl rfl (aM 11 (.string s) rfl rfl (ao 12 rfl rfl (st_slen (s := s) rfl Tryz.underlying9 rfl (aB 13 (.bool (decide ((i : Int) < ((s).size : Int)))) rfl rfl rfl (bi_lss rfl) (aM 14 (.bool (decide ((i : Int) < ((s).size : Int)))) rfl rfl (ar_gd (d := (some 15)) (by show ((decide ((i : Int) < ((s).size : Int))) == true) = true; rw [(decide_eq_true (show (i : Int) < ((s).size : Int) by omega))]; rfl) rfl (st_move (v := .func (.func 105) #[] #[]) rfl rfl ?_)))))))))))
 refine ar_gd (d := (some 16)) (by show ((decide ((i : Int) < ((s).size : Int))) == true) = true; rw [(decide_eq_true (show (i : Int) < ((s).size : Int) by omega))]; rfl) rfl (st_move (v := .string s) rfl rfl (ar_gd (d := (some 17)) (by show ((decide ((i : Int) < ((s).size : Int))) == true) = true; rw [(decide_eq_true (show (i : Int) < ((s).size : Int) by omega))]; rfl) rfl (st_move (v := .int .i64 (i : Int)) rfl rfl (ar_gd (d := (some 18)) (by show ((decide ((i : Int) < ((s).size : Int))) == true) = true; rw [(decide_eq_true (show (i : Int) < ((s).size : Int) by omega))]; rfl) rfl (st_six (s := s) (i := i) rfl Tryz.underlying9 rfl rfl hi ?_)))))
 refine ar_gd (d := (some 19)) (by show ((decide ((i : Int) < ((s).size : Int))) == true) = true; rw [(decide_eq_true (show (i : Int) < ((s).size : Int) by omega))]; rfl) rfl (st_cv (c_lexInWord (sAt s i)) Tryz.func105 rfl (by decide) rfl rfl rfl (ao 20 rfl rfl (st_pkt' (b := decide ((i : Int) < ((s).size : Int))) (v := .bool (lexInWord (sAt s i))) (decide_eq_true (show (i : Int) < ((s).size : Int) by omega)) rfl rfl rfl (aN (ac_then' (b := lexInWord (sAt s i)) hp rfl (ac_skip (ac_block (aL (aM 21 (.int .i64 (i : Int)) rfl rfl (aB 22 (.int .i64 (w64 ((i : Int) + 1))) rfl rfl rfl (bi_add rfl) (aA 7 (.int .i64 (w64 ((i : Int) + 1))) rfl rfl (aN ?_))))))))))))
 exact K _ rfl rfl rfl
set_option maxRecDepth 100000 in
theorem runW_no (s : ByteArray) (i : Nat) (hi : i < s.size) (hp : lexInWord (sAt s i) = false) {Q : Exit → Env → List Box → Prop} {E : Env} {c : Code} {j : Nat} (hc : Tryz.f103.body.bind loopOf = some c) (q0 : E 0 = .string s) (q2 : E 2 = .func (.func 105) #[] #[]) (q7 : E 7 = .int .i64 (i : Int)) (K : ∀ E' : Env, E' 7 = .int .i64 (i : Int) → Q (.exit 0) E' []) : ARounds Tryz.prog 24 c Q (j + 1) E [] := by
 rw [show Tryz.f103.body.bind loopOf = some _ from rfl] at hc
 cases hc
 obtain ⟨E0, rfl⟩ : ∃ E0 : Env, E = (((E0.put (some 0) (.string s)).put (some 2) (.func (.func 105) #[] #[])).put (some 7) (.int .i64 (i : Int))) := ⟨E, by rw [put_self q0, put_self q2, put_self q7]⟩
 refine ar_round (aQ (aQ (aL (aM 10 (.int .i64 (i : Int)) rfl rfl (aM 11 (.string s) rfl rfl (ao 12 rfl rfl (st_slen (s := s) rfl Tryz.underlying9 rfl (aB 13 (.bool (decide ((i : Int) < ((s).size : Int)))) rfl rfl rfl (bi_lss rfl) (aM 14 (.bool (decide ((i : Int) < ((s).size : Int)))) rfl rfl (ar_gd (d := (some 15)) (by show ((decide ((i : Int) < ((s).size : Int))) == true) = true; rw [(decide_eq_true (show (i : Int) < ((s).size : Int) by omega))]; rfl) rfl (st_move (v := .func (.func 105) #[] #[]) rfl rfl ?_)))))))))))
 refine ar_gd (d := (some 16)) (by show ((decide ((i : Int) < ((s).size : Int))) == true) = true; rw [(decide_eq_true (show (i : Int) < ((s).size : Int) by omega))]; rfl) rfl (st_move (v := .string s) rfl rfl (ar_gd (d := (some 17)) (by show ((decide ((i : Int) < ((s).size : Int))) == true) = true; rw [(decide_eq_true (show (i : Int) < ((s).size : Int) by omega))]; rfl) rfl (st_move (v := .int .i64 (i : Int)) rfl rfl (ar_gd (d := (some 18)) (by show ((decide ((i : Int) < ((s).size : Int))) == true) = true; rw [(decide_eq_true (show (i : Int) < ((s).size : Int) by omega))]; rfl) rfl (st_six (s := s) (i := i) rfl Tryz.underlying9 rfl rfl hi ?_)))))
 refine ar_gd (d := (some 19)) (by show ((decide ((i : Int) < ((s).size : Int))) == true) = true; rw [(decide_eq_true (show (i : Int) < ((s).size : Int) by omega))]; rfl) rfl (st_cv (c_lexInWord (sAt s i)) Tryz.func105 rfl (by decide) rfl rfl rfl (ao 20 rfl rfl (st_pkt' (b := decide ((i : Int) < ((s).size : Int))) (v := .bool (lexInWord (sAt s i))) (decide_eq_true (show (i : Int) < ((s).size : Int) by omega)) rfl rfl rfl (aN (ac_else' (b := lexInWord (sAt s i)) hp rfl (ac_exit ?_))))))
 exact K _ rfl
set_option maxRecDepth 100000 in
theorem runW_end (s : ByteArray) (i : Nat) (hi : s.size ≤ i) {Q : Exit → Env → List Box → Prop} {E : Env} {c : Code} {j : Nat} (hc : Tryz.f103.body.bind loopOf = some c) (q0 : E 0 = .string s) (q2 : E 2 = .func (.func 105) #[] #[]) (q7 : E 7 = .int .i64 (i : Int)) (K : ∀ E' : Env, E' 7 = .int .i64 (i : Int) → Q (.exit 0) E' []) : ARounds Tryz.prog 24 c Q (j + 1) E [] := by
 rw [show Tryz.f103.body.bind loopOf = some _ from rfl] at hc
 cases hc
 obtain ⟨E0, rfl⟩ : ∃ E0 : Env, E = (((E0.put (some 0) (.string s)).put (some 2) (.func (.func 105) #[] #[])).put (some 7) (.int .i64 (i : Int))) := ⟨E, by rw [put_self q0, put_self q2, put_self q7]⟩
 refine ar_round (aQ (aQ (aL (aM 10 (.int .i64 (i : Int)) rfl rfl (aM 11 (.string s) rfl rfl (ao 12 rfl rfl (st_slen (s := s) rfl Tryz.underlying9 rfl (aB 13 (.bool (decide ((i : Int) < ((s).size : Int)))) rfl rfl rfl (bi_lss rfl) (aM 14 (.bool (decide ((i : Int) < ((s).size : Int)))) rfl rfl (aK 15 (by show ((decide ((i : Int) < ((s).size : Int))) == true) = false; rw [(decide_eq_false (show ¬ ((i : Int) < ((s).size : Int)) by omega))]; rfl) rfl (aK 16 (by show ((decide ((i : Int) < ((s).size : Int))) == true) = false; rw [(decide_eq_false (show ¬ ((i : Int) < ((s).size : Int)) by omega))]; rfl) rfl ?_)))))))))))
 refine aK 17 (by show ((decide ((i : Int) < ((s).size : Int))) == true) = false; rw [(decide_eq_false (show ¬ ((i : Int) < ((s).size : Int)) by omega))]; rfl) rfl (aK 18 (by show ((decide ((i : Int) < ((s).size : Int))) == true) = false; rw [(decide_eq_false (show ¬ ((i : Int) < ((s).size : Int)) by omega))]; rfl) rfl (aK 19 (by show ((decide ((i : Int) < ((s).size : Int))) == true) = false; rw [(decide_eq_false (show ¬ ((i : Int) < ((s).size : Int)) by omega))]; rfl) rfl (ao 20 rfl rfl (st_pkf' (b := decide ((i : Int) < ((s).size : Int))) (v := .bool false) (decide_eq_false (show ¬ ((i : Int) < ((s).size : Int)) by omega)) rfl rfl rfl (aN (ac_else rfl (ac_exit ?_)))))))
 exact K _ rfl
theorem runW_loop (s : ByteArray) (hs : s.size ≤ 9223372036854775807) {Q : Exit → Env → List Box → Prop} {c : Code} (hc : Tryz.f103.body.bind loopOf = some c) : ∀ (k i : Nat) (E : Env), s.size ≤ i + k → E 0 = .string s → E 2 = .func (.func 105) #[] #[] → E 7 = .int .i64 (i : Int) → (∀ E' : Env, E' 7 = .int .i64 (runTo lexInWord s k i : Nat) → Q (.exit 0) E' []) → ARounds Tryz.prog 24 c Q (k + 1) E [] := by
 intro k
 induction k with
 | zero =>
  intro i E hk q0 q2 q7 K
  exact runW_end s i (by omega) hc q0 q2 q7 K
 | succ k ih =>
  intro i E hk q0 q2 q7 K
  by_cases hi : i < s.size
  ·cases hp : lexInWord (sAt s i)
   ·refine runW_no s i hi hp hc q0 q2 q7 (fun E' h7 => K E' ?_)
    rw [h7, runTo, hp, Bool.and_false]; rfl
   ·refine runW_go s i hi hp hc q0 q2 q7 (fun E' f0 f2 f7 => ih (i + 1) E' (by omega) f0 f2 (by rw [f7, w64_in (by omega)]; rfl) (fun E'' h7 => K E'' ?_))
    rw [h7, runTo, hp, decide_eq_true hi]; rfl
  ·refine runW_end s i (by omega) hc q0 q2 q7 (fun E' h7 => K E' ?_)
   rw [h7, runTo, decide_eq_false hi]; rfl
set_option maxRecDepth 100000 in
theorem c_runW (s : ByteArray) (i : Nat) (hs : s.size ≤ 9223372036854775807) (hi : i < s.size) : Gets Tryz.prog 103 #[.string s, .int .i64 (i : Int), .func (.func 105) #[] #[]] (.int .i64 (runTo lexInWord s (s.size - (i + 1)) (i + 1) : Nat)) := by
 refine gets_fin Tryz.func103 rfl rfl rfl (aQ (aL (aA 6 (.int .i64 0) rfl rfl (aN (aQ (aL (aM 8 (.int .i64 (i : Int)) rfl rfl (aB 9 (.int .i64 (w64 ((i : Int) + 1))) rfl rfl rfl (bi_add rfl) (aA 7 (.int .i64 (w64 ((i : Int) + 1))) rfl rfl (aN (aQ (ac_block ?_))))))))))))
 refine ac_rounds (s.size - (i + 1) + 1) ?_
 refine runW_loop s hs rfl (s.size - (i + 1)) (i + 1) _ (by omega) rfl rfl (by show Value.int _ _ = _; rw [w64_in (by omega)]; rfl) ?_
 intro E' f7
 obtain ⟨E0, rfl⟩ : ∃ E0 : Env, E' = (E0.put (some 7) (.int .i64 ((runTo lexInWord s (s.size - (i + 1)) (i + 1) : Nat) : Int))) := ⟨E', by rw [put_self f7]⟩
 refine aQ (aL (aM 23 (.int .i64 ((runTo lexInWord s (s.size - (i + 1)) (i + 1) : Nat) : Int)) rfl rfl (aA 6 (.int .i64 ((runTo lexInWord s (s.size - (i + 1)) (i + 1) : Nat) : Int)) rfl rfl (aN (ac_ret (fin_eq (v := .int .i64 ((runTo lexInWord s (s.size - (i + 1)) (i + 1) : Nat) : Int)) rfl (fin_ret (res_tmp rfl rfl))))))))
end Go.Proofs.YtalffjplbhelcaaGreatDoor
namespace Go.Proofs.YtalffjplbhelcaaGreatDoor
open Go.RowKit
attribute [local irreducible] AC AR DWalk
set_option maxRecDepth 100000 in
theorem runN_go (s : ByteArray) (i : Nat) (hi : i < s.size) (hp : lexInNum (sAt s i) = true) {Q : Exit → Env → List Box → Prop} {E : Env} {c : Code} {j : Nat} (hc : Tryz.f103.body.bind loopOf = some c) (q0 : E 0 = .string s) (q2 : E 2 = .func (.func 106) #[] #[]) (q7 : E 7 = .int .i64 (i : Int)) (K : ∀ E' : Env, E' 0 = .string s → E' 2 = .func (.func 106) #[] #[] → E' 7 = .int .i64 (w64 ((i : Int) + 1)) → ARounds Tryz.prog 24 c Q j E' []) : ARounds Tryz.prog 24 c Q (j + 1) E [] := by
 rw [show Tryz.f103.body.bind loopOf = some _ from rfl] at hc
 cases hc
 obtain ⟨E0, rfl⟩ : ∃ E0 : Env, E = (((E0.put (some 0) (.string s)).put (some 2) (.func (.func 106) #[] #[])).put (some 7) (.int .i64 (i : Int))) := ⟨E, by rw [put_self q0, put_self q2, put_self q7]⟩
 refine ar_round (aQ (aQ (aL (aM 10 (.int .i64 (i : Int)) rfl rfl (aM 11 (.string s) rfl rfl (ao 12 rfl rfl (st_slen (s := s) rfl Tryz.underlying9 rfl (aB 13 (.bool (decide ((i : Int) < ((s).size : Int)))) rfl rfl rfl (bi_lss rfl) (aM 14 (.bool (decide ((i : Int) < ((s).size : Int)))) rfl rfl (ar_gd (d := (some 15)) (by show ((decide ((i : Int) < ((s).size : Int))) == true) = true; rw [(decide_eq_true (show (i : Int) < ((s).size : Int) by omega))]; rfl) rfl (st_move (v := .func (.func 106) #[] #[]) rfl rfl ?_)))))))))))
 refine ar_gd (d := (some 16)) (by show ((decide ((i : Int) < ((s).size : Int))) == true) = true; rw [(decide_eq_true (show (i : Int) < ((s).size : Int) by omega))]; rfl) rfl (st_move (v := .string s) rfl rfl (ar_gd (d := (some 17)) (by show ((decide ((i : Int) < ((s).size : Int))) == true) = true; rw [(decide_eq_true (show (i : Int) < ((s).size : Int) by omega))]; rfl) rfl (st_move (v := .int .i64 (i : Int)) rfl rfl (ar_gd (d := (some 18)) (by show ((decide ((i : Int) < ((s).size : Int))) == true) = true; rw [(decide_eq_true (show (i : Int) < ((s).size : Int) by omega))]; rfl) rfl (st_six (s := s) (i := i) rfl Tryz.underlying9 rfl rfl hi ?_)))))
 refine ar_gd (d := (some 19)) (by show ((decide ((i : Int) < ((s).size : Int))) == true) = true; rw [(decide_eq_true (show (i : Int) < ((s).size : Int) by omega))]; rfl) rfl (st_cv (c_lexInNum (sAt s i)) Tryz.func106 rfl (by decide) rfl rfl rfl (ao 20 rfl rfl (st_pkt' (b := decide ((i : Int) < ((s).size : Int))) (v := .bool (lexInNum (sAt s i))) (decide_eq_true (show (i : Int) < ((s).size : Int) by omega)) rfl rfl rfl (aN (ac_then' (b := lexInNum (sAt s i)) hp rfl (ac_skip (ac_block (aL (aM 21 (.int .i64 (i : Int)) rfl rfl (aB 22 (.int .i64 (w64 ((i : Int) + 1))) rfl rfl rfl (bi_add rfl) (aA 7 (.int .i64 (w64 ((i : Int) + 1))) rfl rfl (aN ?_))))))))))))
 exact K _ rfl rfl rfl
set_option maxRecDepth 100000 in
theorem runN_no (s : ByteArray) (i : Nat) (hi : i < s.size) (hp : lexInNum (sAt s i) = false) {Q : Exit → Env → List Box → Prop} {E : Env} {c : Code} {j : Nat} (hc : Tryz.f103.body.bind loopOf = some c) (q0 : E 0 = .string s) (q2 : E 2 = .func (.func 106) #[] #[]) (q7 : E 7 = .int .i64 (i : Int)) (K : ∀ E' : Env, E' 7 = .int .i64 (i : Int) → Q (.exit 0) E' []) : ARounds Tryz.prog 24 c Q (j + 1) E [] := by
 rw [show Tryz.f103.body.bind loopOf = some _ from rfl] at hc
 cases hc
 obtain ⟨E0, rfl⟩ : ∃ E0 : Env, E = (((E0.put (some 0) (.string s)).put (some 2) (.func (.func 106) #[] #[])).put (some 7) (.int .i64 (i : Int))) := ⟨E, by rw [put_self q0, put_self q2, put_self q7]⟩
 refine ar_round (aQ (aQ (aL (aM 10 (.int .i64 (i : Int)) rfl rfl (aM 11 (.string s) rfl rfl (ao 12 rfl rfl (st_slen (s := s) rfl Tryz.underlying9 rfl (aB 13 (.bool (decide ((i : Int) < ((s).size : Int)))) rfl rfl rfl (bi_lss rfl) (aM 14 (.bool (decide ((i : Int) < ((s).size : Int)))) rfl rfl (ar_gd (d := (some 15)) (by show ((decide ((i : Int) < ((s).size : Int))) == true) = true; rw [(decide_eq_true (show (i : Int) < ((s).size : Int) by omega))]; rfl) rfl (st_move (v := .func (.func 106) #[] #[]) rfl rfl ?_)))))))))))
 refine ar_gd (d := (some 16)) (by show ((decide ((i : Int) < ((s).size : Int))) == true) = true; rw [(decide_eq_true (show (i : Int) < ((s).size : Int) by omega))]; rfl) rfl (st_move (v := .string s) rfl rfl (ar_gd (d := (some 17)) (by show ((decide ((i : Int) < ((s).size : Int))) == true) = true; rw [(decide_eq_true (show (i : Int) < ((s).size : Int) by omega))]; rfl) rfl (st_move (v := .int .i64 (i : Int)) rfl rfl (ar_gd (d := (some 18)) (by show ((decide ((i : Int) < ((s).size : Int))) == true) = true; rw [(decide_eq_true (show (i : Int) < ((s).size : Int) by omega))]; rfl) rfl (st_six (s := s) (i := i) rfl Tryz.underlying9 rfl rfl hi ?_)))))
 refine ar_gd (d := (some 19)) (by show ((decide ((i : Int) < ((s).size : Int))) == true) = true; rw [(decide_eq_true (show (i : Int) < ((s).size : Int) by omega))]; rfl) rfl (st_cv (c_lexInNum (sAt s i)) Tryz.func106 rfl (by decide) rfl rfl rfl (ao 20 rfl rfl (st_pkt' (b := decide ((i : Int) < ((s).size : Int))) (v := .bool (lexInNum (sAt s i))) (decide_eq_true (show (i : Int) < ((s).size : Int) by omega)) rfl rfl rfl (aN (ac_else' (b := lexInNum (sAt s i)) hp rfl (ac_exit ?_))))))
 exact K _ rfl
set_option maxRecDepth 100000 in
theorem runN_end (s : ByteArray) (i : Nat) (hi : s.size ≤ i) {Q : Exit → Env → List Box → Prop} {E : Env} {c : Code} {j : Nat} (hc : Tryz.f103.body.bind loopOf = some c) (q0 : E 0 = .string s) (q2 : E 2 = .func (.func 106) #[] #[]) (q7 : E 7 = .int .i64 (i : Int)) (K : ∀ E' : Env, E' 7 = .int .i64 (i : Int) → Q (.exit 0) E' []) : ARounds Tryz.prog 24 c Q (j + 1) E [] := by
 rw [show Tryz.f103.body.bind loopOf = some _ from rfl] at hc
 cases hc
 obtain ⟨E0, rfl⟩ : ∃ E0 : Env, E = (((E0.put (some 0) (.string s)).put (some 2) (.func (.func 106) #[] #[])).put (some 7) (.int .i64 (i : Int))) := ⟨E, by rw [put_self q0, put_self q2, put_self q7]⟩
 refine ar_round (aQ (aQ (aL (aM 10 (.int .i64 (i : Int)) rfl rfl (aM 11 (.string s) rfl rfl (ao 12 rfl rfl (st_slen (s := s) rfl Tryz.underlying9 rfl (aB 13 (.bool (decide ((i : Int) < ((s).size : Int)))) rfl rfl rfl (bi_lss rfl) (aM 14 (.bool (decide ((i : Int) < ((s).size : Int)))) rfl rfl (aK 15 (by show ((decide ((i : Int) < ((s).size : Int))) == true) = false; rw [(decide_eq_false (show ¬ ((i : Int) < ((s).size : Int)) by omega))]; rfl) rfl (aK 16 (by show ((decide ((i : Int) < ((s).size : Int))) == true) = false; rw [(decide_eq_false (show ¬ ((i : Int) < ((s).size : Int)) by omega))]; rfl) rfl ?_)))))))))))
 refine aK 17 (by show ((decide ((i : Int) < ((s).size : Int))) == true) = false; rw [(decide_eq_false (show ¬ ((i : Int) < ((s).size : Int)) by omega))]; rfl) rfl (aK 18 (by show ((decide ((i : Int) < ((s).size : Int))) == true) = false; rw [(decide_eq_false (show ¬ ((i : Int) < ((s).size : Int)) by omega))]; rfl) rfl (aK 19 (by show ((decide ((i : Int) < ((s).size : Int))) == true) = false; rw [(decide_eq_false (show ¬ ((i : Int) < ((s).size : Int)) by omega))]; rfl) rfl (ao 20 rfl rfl (st_pkf' (b := decide ((i : Int) < ((s).size : Int))) (v := .bool false) (decide_eq_false (show ¬ ((i : Int) < ((s).size : Int)) by omega)) rfl rfl rfl (aN (ac_else rfl (ac_exit ?_)))))))
 exact K _ rfl
theorem runN_loop (s : ByteArray) (hs : s.size ≤ 9223372036854775807) {Q : Exit → Env → List Box → Prop} {c : Code} (hc : Tryz.f103.body.bind loopOf = some c) : ∀ (k i : Nat) (E : Env), s.size ≤ i + k → E 0 = .string s → E 2 = .func (.func 106) #[] #[] → E 7 = .int .i64 (i : Int) → (∀ E' : Env, E' 7 = .int .i64 (runTo lexInNum s k i : Nat) → Q (.exit 0) E' []) → ARounds Tryz.prog 24 c Q (k + 1) E [] := by
 intro k
 induction k with
 | zero =>
  intro i E hk q0 q2 q7 K
  exact runN_end s i (by omega) hc q0 q2 q7 K
 | succ k ih =>
  intro i E hk q0 q2 q7 K
  by_cases hi : i < s.size
  ·cases hp : lexInNum (sAt s i)
   ·refine runN_no s i hi hp hc q0 q2 q7 (fun E' h7 => K E' ?_)
    rw [h7, runTo, hp, Bool.and_false]; rfl
   ·refine runN_go s i hi hp hc q0 q2 q7 (fun E' f0 f2 f7 => ih (i + 1) E' (by omega) f0 f2 (by rw [f7, w64_in (by omega)]; rfl) (fun E'' h7 => K E'' ?_))
    rw [h7, runTo, hp, decide_eq_true hi]; rfl
  ·refine runN_end s i (by omega) hc q0 q2 q7 (fun E' h7 => K E' ?_)
   rw [h7, runTo, decide_eq_false hi]; rfl
set_option maxRecDepth 100000 in
theorem c_runN (s : ByteArray) (i : Nat) (hs : s.size ≤ 9223372036854775807) (hi : i < s.size) : Gets Tryz.prog 103 #[.string s, .int .i64 (i : Int), .func (.func 106) #[] #[]] (.int .i64 (runTo lexInNum s (s.size - (i + 1)) (i + 1) : Nat)) := by
 refine gets_fin Tryz.func103 rfl rfl rfl (aQ (aL (aA 6 (.int .i64 0) rfl rfl (aN (aQ (aL (aM 8 (.int .i64 (i : Int)) rfl rfl (aB 9 (.int .i64 (w64 ((i : Int) + 1))) rfl rfl rfl (bi_add rfl) (aA 7 (.int .i64 (w64 ((i : Int) + 1))) rfl rfl (aN (aQ (ac_block ?_))))))))))))
 refine ac_rounds (s.size - (i + 1) + 1) ?_
 refine runN_loop s hs rfl (s.size - (i + 1)) (i + 1) _ (by omega) rfl rfl (by show Value.int _ _ = _; rw [w64_in (by omega)]; rfl) ?_
 intro E' f7
 obtain ⟨E0, rfl⟩ : ∃ E0 : Env, E' = (E0.put (some 7) (.int .i64 ((runTo lexInNum s (s.size - (i + 1)) (i + 1) : Nat) : Int))) := ⟨E', by rw [put_self f7]⟩
 refine aQ (aL (aM 23 (.int .i64 ((runTo lexInNum s (s.size - (i + 1)) (i + 1) : Nat) : Int)) rfl rfl (aA 6 (.int .i64 ((runTo lexInNum s (s.size - (i + 1)) (i + 1) : Nat) : Int)) rfl rfl (aN (ac_ret (fin_eq (v := .int .i64 ((runTo lexInNum s (s.size - (i + 1)) (i + 1) : Nat) : Int)) rfl (fin_ret (res_tmp rfl rfl))))))))
end Go.Proofs.YtalffjplbhelcaaGreatDoor
namespace Go.Proofs.YtalffjplbhelcaaGreatDoor
open Go.RowKit
attribute [local irreducible] AC AR DWalk
set_option maxRecDepth 100000 in
theorem runL_go (s : ByteArray) (i : Nat) (hi : i < s.size) (hp : lexNoLine (sAt s i) = true) {Q : Exit → Env → List Box → Prop} {E : Env} {c : Code} {j : Nat} (hc : Tryz.f103.body.bind loopOf = some c) (q0 : E 0 = .string s) (q2 : E 2 = .func (.func 104) #[] #[]) (q7 : E 7 = .int .i64 (i : Int)) (K : ∀ E' : Env, E' 0 = .string s → E' 2 = .func (.func 104) #[] #[] → E' 7 = .int .i64 (w64 ((i : Int) + 1)) → ARounds Tryz.prog 24 c Q j E' []) : ARounds Tryz.prog 24 c Q (j + 1) E [] := by
 rw [show Tryz.f103.body.bind loopOf = some _ from rfl] at hc
 cases hc
 obtain ⟨E0, rfl⟩ : ∃ E0 : Env, E = (((E0.put (some 0) (.string s)).put (some 2) (.func (.func 104) #[] #[])).put (some 7) (.int .i64 (i : Int))) := ⟨E, by rw [put_self q0, put_self q2, put_self q7]⟩
 refine ar_round (aQ (aQ (aL (aM 10 (.int .i64 (i : Int)) rfl rfl (aM 11 (.string s) rfl rfl (ao 12 rfl rfl (st_slen (s := s) rfl Tryz.underlying9 rfl (aB 13 (.bool (decide ((i : Int) < ((s).size : Int)))) rfl rfl rfl (bi_lss rfl) (aM 14 (.bool (decide ((i : Int) < ((s).size : Int)))) rfl rfl (ar_gd (d := (some 15)) (by show ((decide ((i : Int) < ((s).size : Int))) == true) = true; rw [(decide_eq_true (show (i : Int) < ((s).size : Int) by omega))]; rfl) rfl (st_move (v := .func (.func 104) #[] #[]) rfl rfl ?_)))))))))))
 refine ar_gd (d := (some 16)) (by show ((decide ((i : Int) < ((s).size : Int))) == true) = true; rw [(decide_eq_true (show (i : Int) < ((s).size : Int) by omega))]; rfl) rfl (st_move (v := .string s) rfl rfl (ar_gd (d := (some 17)) (by show ((decide ((i : Int) < ((s).size : Int))) == true) = true; rw [(decide_eq_true (show (i : Int) < ((s).size : Int) by omega))]; rfl) rfl (st_move (v := .int .i64 (i : Int)) rfl rfl (ar_gd (d := (some 18)) (by show ((decide ((i : Int) < ((s).size : Int))) == true) = true; rw [(decide_eq_true (show (i : Int) < ((s).size : Int) by omega))]; rfl) rfl (st_six (s := s) (i := i) rfl Tryz.underlying9 rfl rfl hi ?_)))))
 refine ar_gd (d := (some 19)) (by show ((decide ((i : Int) < ((s).size : Int))) == true) = true; rw [(decide_eq_true (show (i : Int) < ((s).size : Int) by omega))]; rfl) rfl (st_cv (c_lexNoLine (sAt s i)) Tryz.func104 rfl (by decide) rfl rfl rfl (ao 20 rfl rfl (st_pkt' (b := decide ((i : Int) < ((s).size : Int))) (v := .bool (lexNoLine (sAt s i))) (decide_eq_true (show (i : Int) < ((s).size : Int) by omega)) rfl rfl rfl (aN (ac_then' (b := lexNoLine (sAt s i)) hp rfl (ac_skip (ac_block (aL (aM 21 (.int .i64 (i : Int)) rfl rfl (aB 22 (.int .i64 (w64 ((i : Int) + 1))) rfl rfl rfl (bi_add rfl) (aA 7 (.int .i64 (w64 ((i : Int) + 1))) rfl rfl (aN ?_))))))))))))
 exact K _ rfl rfl rfl
set_option maxRecDepth 100000 in
theorem runL_no (s : ByteArray) (i : Nat) (hi : i < s.size) (hp : lexNoLine (sAt s i) = false) {Q : Exit → Env → List Box → Prop} {E : Env} {c : Code} {j : Nat} (hc : Tryz.f103.body.bind loopOf = some c) (q0 : E 0 = .string s) (q2 : E 2 = .func (.func 104) #[] #[]) (q7 : E 7 = .int .i64 (i : Int)) (K : ∀ E' : Env, E' 7 = .int .i64 (i : Int) → Q (.exit 0) E' []) : ARounds Tryz.prog 24 c Q (j + 1) E [] := by
 rw [show Tryz.f103.body.bind loopOf = some _ from rfl] at hc
 cases hc
 obtain ⟨E0, rfl⟩ : ∃ E0 : Env, E = (((E0.put (some 0) (.string s)).put (some 2) (.func (.func 104) #[] #[])).put (some 7) (.int .i64 (i : Int))) := ⟨E, by rw [put_self q0, put_self q2, put_self q7]⟩
 refine ar_round (aQ (aQ (aL (aM 10 (.int .i64 (i : Int)) rfl rfl (aM 11 (.string s) rfl rfl (ao 12 rfl rfl (st_slen (s := s) rfl Tryz.underlying9 rfl (aB 13 (.bool (decide ((i : Int) < ((s).size : Int)))) rfl rfl rfl (bi_lss rfl) (aM 14 (.bool (decide ((i : Int) < ((s).size : Int)))) rfl rfl (ar_gd (d := (some 15)) (by show ((decide ((i : Int) < ((s).size : Int))) == true) = true; rw [(decide_eq_true (show (i : Int) < ((s).size : Int) by omega))]; rfl) rfl (st_move (v := .func (.func 104) #[] #[]) rfl rfl ?_)))))))))))
 refine ar_gd (d := (some 16)) (by show ((decide ((i : Int) < ((s).size : Int))) == true) = true; rw [(decide_eq_true (show (i : Int) < ((s).size : Int) by omega))]; rfl) rfl (st_move (v := .string s) rfl rfl (ar_gd (d := (some 17)) (by show ((decide ((i : Int) < ((s).size : Int))) == true) = true; rw [(decide_eq_true (show (i : Int) < ((s).size : Int) by omega))]; rfl) rfl (st_move (v := .int .i64 (i : Int)) rfl rfl (ar_gd (d := (some 18)) (by show ((decide ((i : Int) < ((s).size : Int))) == true) = true; rw [(decide_eq_true (show (i : Int) < ((s).size : Int) by omega))]; rfl) rfl (st_six (s := s) (i := i) rfl Tryz.underlying9 rfl rfl hi ?_)))))
 refine ar_gd (d := (some 19)) (by show ((decide ((i : Int) < ((s).size : Int))) == true) = true; rw [(decide_eq_true (show (i : Int) < ((s).size : Int) by omega))]; rfl) rfl (st_cv (c_lexNoLine (sAt s i)) Tryz.func104 rfl (by decide) rfl rfl rfl (ao 20 rfl rfl (st_pkt' (b := decide ((i : Int) < ((s).size : Int))) (v := .bool (lexNoLine (sAt s i))) (decide_eq_true (show (i : Int) < ((s).size : Int) by omega)) rfl rfl rfl (aN (ac_else' (b := lexNoLine (sAt s i)) hp rfl (ac_exit ?_))))))
 exact K _ rfl
set_option maxRecDepth 100000 in
theorem runL_end (s : ByteArray) (i : Nat) (hi : s.size ≤ i) {Q : Exit → Env → List Box → Prop} {E : Env} {c : Code} {j : Nat} (hc : Tryz.f103.body.bind loopOf = some c) (q0 : E 0 = .string s) (q2 : E 2 = .func (.func 104) #[] #[]) (q7 : E 7 = .int .i64 (i : Int)) (K : ∀ E' : Env, E' 7 = .int .i64 (i : Int) → Q (.exit 0) E' []) : ARounds Tryz.prog 24 c Q (j + 1) E [] := by
 rw [show Tryz.f103.body.bind loopOf = some _ from rfl] at hc
 cases hc
 obtain ⟨E0, rfl⟩ : ∃ E0 : Env, E = (((E0.put (some 0) (.string s)).put (some 2) (.func (.func 104) #[] #[])).put (some 7) (.int .i64 (i : Int))) := ⟨E, by rw [put_self q0, put_self q2, put_self q7]⟩
 refine ar_round (aQ (aQ (aL (aM 10 (.int .i64 (i : Int)) rfl rfl (aM 11 (.string s) rfl rfl (ao 12 rfl rfl (st_slen (s := s) rfl Tryz.underlying9 rfl (aB 13 (.bool (decide ((i : Int) < ((s).size : Int)))) rfl rfl rfl (bi_lss rfl) (aM 14 (.bool (decide ((i : Int) < ((s).size : Int)))) rfl rfl (aK 15 (by show ((decide ((i : Int) < ((s).size : Int))) == true) = false; rw [(decide_eq_false (show ¬ ((i : Int) < ((s).size : Int)) by omega))]; rfl) rfl (aK 16 (by show ((decide ((i : Int) < ((s).size : Int))) == true) = false; rw [(decide_eq_false (show ¬ ((i : Int) < ((s).size : Int)) by omega))]; rfl) rfl ?_)))))))))))
 refine aK 17 (by show ((decide ((i : Int) < ((s).size : Int))) == true) = false; rw [(decide_eq_false (show ¬ ((i : Int) < ((s).size : Int)) by omega))]; rfl) rfl (aK 18 (by show ((decide ((i : Int) < ((s).size : Int))) == true) = false; rw [(decide_eq_false (show ¬ ((i : Int) < ((s).size : Int)) by omega))]; rfl) rfl (aK 19 (by show ((decide ((i : Int) < ((s).size : Int))) == true) = false; rw [(decide_eq_false (show ¬ ((i : Int) < ((s).size : Int)) by omega))]; rfl) rfl (ao 20 rfl rfl (st_pkf' (b := decide ((i : Int) < ((s).size : Int))) (v := .bool false) (decide_eq_false (show ¬ ((i : Int) < ((s).size : Int)) by omega)) rfl rfl rfl (aN (ac_else rfl (ac_exit ?_)))))))
 exact K _ rfl
theorem runL_loop (s : ByteArray) (hs : s.size ≤ 9223372036854775807) {Q : Exit → Env → List Box → Prop} {c : Code} (hc : Tryz.f103.body.bind loopOf = some c) : ∀ (k i : Nat) (E : Env), s.size ≤ i + k → E 0 = .string s → E 2 = .func (.func 104) #[] #[] → E 7 = .int .i64 (i : Int) → (∀ E' : Env, E' 7 = .int .i64 (runTo lexNoLine s k i : Nat) → Q (.exit 0) E' []) → ARounds Tryz.prog 24 c Q (k + 1) E [] := by
 intro k
 induction k with
 | zero =>
  intro i E hk q0 q2 q7 K
  exact runL_end s i (by omega) hc q0 q2 q7 K
 | succ k ih =>
  intro i E hk q0 q2 q7 K
  by_cases hi : i < s.size
  ·cases hp : lexNoLine (sAt s i)
   ·refine runL_no s i hi hp hc q0 q2 q7 (fun E' h7 => K E' ?_)
    rw [h7, runTo, hp, Bool.and_false]; rfl
   ·refine runL_go s i hi hp hc q0 q2 q7 (fun E' f0 f2 f7 => ih (i + 1) E' (by omega) f0 f2 (by rw [f7, w64_in (by omega)]; rfl) (fun E'' h7 => K E'' ?_))
    rw [h7, runTo, hp, decide_eq_true hi]; rfl
  ·refine runL_end s i (by omega) hc q0 q2 q7 (fun E' h7 => K E' ?_)
   rw [h7, runTo, decide_eq_false hi]; rfl
set_option maxRecDepth 100000 in
theorem c_runL (s : ByteArray) (i : Nat) (hs : s.size ≤ 9223372036854775807) (hi : i < s.size) : Gets Tryz.prog 103 #[.string s, .int .i64 (i : Int), .func (.func 104) #[] #[]] (.int .i64 (runTo lexNoLine s (s.size - (i + 1)) (i + 1) : Nat)) := by
 refine gets_fin Tryz.func103 rfl rfl rfl (aQ (aL (aA 6 (.int .i64 0) rfl rfl (aN (aQ (aL (aM 8 (.int .i64 (i : Int)) rfl rfl (aB 9 (.int .i64 (w64 ((i : Int) + 1))) rfl rfl rfl (bi_add rfl) (aA 7 (.int .i64 (w64 ((i : Int) + 1))) rfl rfl (aN (aQ (ac_block ?_))))))))))))
 refine ac_rounds (s.size - (i + 1) + 1) ?_
 refine runL_loop s hs rfl (s.size - (i + 1)) (i + 1) _ (by omega) rfl rfl (by show Value.int _ _ = _; rw [w64_in (by omega)]; rfl) ?_
 intro E' f7
 obtain ⟨E0, rfl⟩ : ∃ E0 : Env, E' = (E0.put (some 7) (.int .i64 ((runTo lexNoLine s (s.size - (i + 1)) (i + 1) : Nat) : Int))) := ⟨E', by rw [put_self f7]⟩
 refine aQ (aL (aM 23 (.int .i64 ((runTo lexNoLine s (s.size - (i + 1)) (i + 1) : Nat) : Int)) rfl rfl (aA 6 (.int .i64 ((runTo lexNoLine s (s.size - (i + 1)) (i + 1) : Nat) : Int)) rfl rfl (aN (ac_ret (fin_eq (v := .int .i64 ((runTo lexNoLine s (s.size - (i + 1)) (i + 1) : Nat) : Int)) rfl (fin_ret (res_tmp rfl rfl))))))))
end Go.Proofs.YtalffjplbhelcaaGreatDoor
