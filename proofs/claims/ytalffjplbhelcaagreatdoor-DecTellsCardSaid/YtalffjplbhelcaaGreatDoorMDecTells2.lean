import Derived.Test.YtalffjplbhelcaaGreatDoorMDecTells1
import Derived.Laws.MakeOwn
import Derived.Laws.IdiomStrings
set_option linter.unusedVariables false
set_option linter.unusedSimpArgs false
namespace Go.Proofs.YtalffjplbhelcaaGreatDoor
theorem sEq_iff (a b : ByteArray) : sEq a b = true ↔ a = b := by
  unfold sEq
  rw [beq_iff_eq, Lib.toList_data, Lib.toList_data]
  constructor
  · intro h
    rw [← Lib.mk_data a, ← Lib.mk_data b, h]
  · intro h; rw [h]
def IsDig (b : UInt8) : Prop := 48 ≤ b.toNat ∧ b.toNat ≤ 57
theorem fig_dig : ∀ b : UInt8, (figs.data.toList.contains b) = true → IsDig b := by
  intro b h
  have h2 : b ∈ figs.data.toList := List.contains_iff_mem.1 h
  simp only [figs, List.mem_cons, List.not_mem_nil, or_false] at h2
  rcases h2 with rfl | rfl | rfl | rfl | rfl | rfl | rfl | rfl | rfl | rfl <;> exact ⟨by decide, by decide⟩
theorem dig_fig : ∀ b : UInt8, IsDig b → (figs.data.toList.contains b) = true := by
  intro b h
  obtain ⟨h1, h2⟩ := h
  have e : b = UInt8.ofNat b.toNat := by simp
  rw [e]
  generalize b.toNat = n at *
  rcases (by omega : n = 48 ∨ n = 49 ∨ n = 50 ∨ n = 51 ∨ n = 52 ∨ n = 53 ∨ n = 54 ∨ n = 55 ∨ n = 56 ∨ n = 57) with rfl | rfl | rfl | rfl | rfl | rfl | rfl | rfl | rfl | rfl <;> decide
theorem dropWhile_nil {α : Type} (p : α → Bool) : ∀ l : List α, l.dropWhile p = [] ↔ ∀ b ∈ l, p b = true
  | [] => by simp
  | a :: l => by
    rw [List.dropWhile_cons]
    split
    · rename_i h; rw [dropWhile_nil p l]; simp [h]
    · rename_i h; simp [h]
theorem dropWhile_sub {α : Type} (p : α → Bool) : ∀ l : List α, (∀ b ∈ l.dropWhile p, p b = true) → l.dropWhile p = []
  | [], _ => rfl
  | a :: l, h => by
    rw [List.dropWhile_cons] at h ⊢
    split
    · rename_i h1; rw [if_pos h1] at h; exact dropWhile_sub p l h
    · rename_i h1; rw [if_neg h1] at h; exact absurd (h a List.mem_cons_self) h1
theorem trimS_nil (l cs : List UInt8) : Lib.trimS l cs = [] ↔ ∀ b ∈ l, cs.contains b = true := by
  unfold Lib.trimS Lib.trimLeftS Lib.trimRightS
  rw [dropWhile_nil]
  constructor
  · intro h
    have h2 : l.reverse.dropWhile (cs.contains ·) = [] := dropWhile_sub _ _ (fun b hb => h b (List.mem_reverse.2 hb))
    rw [dropWhile_nil] at h2
    exact fun b hb => h2 b (List.mem_reverse.2 hb)
  · intro h
    have h2 : l.reverse.dropWhile (cs.contains ·) = [] := (dropWhile_nil _ _).2 (fun b hb => h b (List.mem_reverse.1 hb))
    rw [h2]; simp
theorem decFig_iff (s : ByteArray) (n : Int) : decFig s n = true ↔ s.data.toList ≠ [] ∧ (s.size : Int) ≤ n ∧ ∀ b ∈ s.data.toList, IsDig b := by
  have e0 : sEq s (⟨#[]⟩ : ByteArray) = true ↔ s.data.toList = [] := by
    rw [sEq_iff]
    constructor
    · rintro rfl; rfl
    · intro h; rw [← Lib.mk_data s, h]
  have e1 : sEq (lTrimFig s) (⟨#[]⟩ : ByteArray) = true ↔ ∀ b ∈ s.data.toList, IsDig b := by
    rw [sEq_iff]
    unfold lTrimFig byA
    constructor
    · intro h
      have h2 : Lib.trimS s.data.toList figs.data.toList = [] := by
        have := congrArg (fun x : ByteArray => x.data.toList) h
        simpa using this
      exact fun b hb => fig_dig b ((trimS_nil _ _).1 h2 b hb)
    · intro h
      rw [(trimS_nil _ _).2 (fun b hb => dig_fig b (h b hb))]
  unfold decFig
  cases h : sEq s (⟨#[]⟩ : ByteArray)
  · have h0 : s.data.toList ≠ [] := fun k => by rw [e0.2 k] at h; cases h
    rw [cond_false]
    by_cases k : (s.size : Int) ≤ n
    · rw [decide_eq_true k, cond_true, e1]; simp [h0, k]
    · rw [decide_eq_false k, cond_false]; simp [k]
  · rw [cond_true]; simp [e0.1 h]
def rdBody (s : ByteArray) : ByteArray := (lCutPrefix s (⟨#[45]⟩ : ByteArray)).1
def rdMinus (s : ByteArray) : Bool := (lCutPrefix s (⟨#[45]⟩ : ByteArray)).2
def rdWhole (s : ByteArray) : ByteArray := (cutDot (rdBody s)).1
def rdRest (s : ByteArray) : ByteArray := (cutDot (rdBody s)).2.1
def rdPoint (s : ByteArray) : Bool := (cutDot (rdBody s)).2.2
theorem body_sz {s : ByteArray} (hs : s.size ≤ 9223372036854775807) : (rdBody s).size ≤ 9223372036854775807 := by
  have : (rdBody s).size ≤ s.size := by
    unfold rdBody lCutPrefix
    rw [byA_size, Lib.size_eq s]
    unfold Lib.trimPrefix
    split
    · rw [List.length_drop]; omega
    · exact Nat.le_refl _
  omega
theorem fig_le {s : ByteArray} (h : decFig s 5 = true) : s.size ≤ 5 := by have := ((decFig_iff _ _).1 h).2.1; omega
def RestOk (s : ByteArray) : Prop := rdPoint s = false ∨ (rdPoint s = true ∧ decFig (rdRest s) 6 = true)
theorem rest_none {s : ByteArray} (h : rdPoint s = false) : rdRest s = (⟨#[]⟩ : ByteArray) := by
  unfold rdPoint at h
  unfold rdRest
  unfold cutDot at *
  unfold cutDot0 at *
  cases hd : decide (lIndex (rdBody s) 46 ≥ 0)
  · rfl
  · rw [hd] at h; cases h
theorem rest_6 {s : ByteArray} (h : RestOk s) : (rdRest s).size ≤ 6 ∧ ∀ b ∈ (rdRest s).data.toList, IsDig b := by
  rcases h with h | ⟨_, h⟩
  · rw [rest_none h]; exact ⟨by decide, by simp⟩
  · have := (decFig_iff _ _).1 h
    exact ⟨by omega, this.2.2⟩
theorem rest_sz {s : ByteArray} (h : RestOk s) : (rdRest s).size ≤ 9223372036854775807 := by have := (rest_6 h).1; omega
theorem trimB_sub (l : List UInt8) (c : UInt8) : (∀ b ∈ Lib.trimRightB l c, b ∈ l) ∧ (Lib.trimRightB l c).length ≤ l.length := by
  unfold Lib.trimRightB
  have hs : List.Sublist (l.reverse.dropWhile (· == c)) l.reverse := List.dropWhile_sublist _
  constructor
  · intro b hb
    have := hs.subset (List.mem_reverse.1 hb)
    exact List.mem_reverse.1 this
  · rw [List.length_reverse]
    have := hs.length_le
    simpa using this
theorem trim_6 {s : ByteArray} (h : RestOk s) : (lTrimRight (rdRest s) 48).size ≤ 6 ∧ ∀ b ∈ (lTrimRight (rdRest s) 48).data.toList, IsDig b := by
  have h1 := rest_6 h
  have h2 := trimB_sub (rdRest s).data.toList 48
  unfold lTrimRight
  rw [byA_size]
  rw [Lib.size_eq] at h1
  exact ⟨by omega, fun b hb => h1.2 b (h2.1 b hb)⟩
theorem rest_sz2 {s : ByteArray} (h : RestOk s) : (lTrimRight (rdRest s) 48).size ≤ 6 := (trim_6 h).1
theorem atoi_sz {s : ByteArray} (hw : decFig (rdWhole s) 5 = true) (h : RestOk s) : (rdWhole s ++ lTrimRight (rdRest s) 48).size ≤ 18 := by
  have := fig_le hw
  have := rest_sz2 h
  rw [ByteArray.size_append']
  omega
theorem decFrom_some : ∀ (l : List UInt8) (a : Nat), (∀ b ∈ l, IsDig b) → ∃ n, Lib.decFrom a l = some n
  | [], a, _ => ⟨a, rfl⟩
  | b :: l, a, h => by
    have hb := h b List.mem_cons_self
    have e : Lib.digitVal b = some (b.toNat - 48) := by unfold Lib.digitVal; exact if_pos hb
    rw [Lib.decFrom, e]
    exact decFrom_some l _ (fun c hc => h c (List.mem_cons_of_mem _ hc))
theorem atoi_digs {l : List UInt8} (h0 : l ≠ []) (h : ∀ b ∈ l, IsDig b) : ∃ n : Nat, Lib.decFrom 0 l = some n ∧ Lib.atoi l = some (n : Int) := by
  obtain ⟨n, hn⟩ := decFrom_some l 0 h
  refine ⟨n, hn, ?_⟩
  cases l with
  | nil => exact absurd rfl h0
  | cons b r =>
    have hb := h b List.mem_cons_self
    have h1 : (b == 45) = false := by
      rw [beq_eq_false_iff_ne]; rintro rfl; exact absurd hb.1 (by decide)
    have h2 : (b == 43) = false := by
      rw [beq_eq_false_iff_ne]; rintro rfl; exact absurd hb.1 (by decide)
    rw [Lib.atoi, h1, h2]
    simp [Lib.decNat, hn]
theorem app_list (a b : ByteArray) : (a ++ b).data.toList = a.data.toList ++ b.data.toList := by simp
theorem atoi_ok {s : ByteArray} (hw : decFig (rdWhole s) 5 = true) (h : RestOk s) : (Lib.atoi (rdWhole s ++ lTrimRight (rdRest s) 48).data.toList).isSome = true := by
  have h1 := (decFig_iff _ _).1 hw
  have h2 := trim_6 h
  rw [app_list]
  obtain ⟨n, _, hn⟩ := atoi_digs (l := (rdWhole s).data.toList ++ (lTrimRight (rdRest s) 48).data.toList) (by simp [h1.1]) (fun b hb => by
    rcases List.mem_append.1 hb with hb | hb
    · exact h1.2.2 b hb
    · exact h2.2 b hb)
  rw [hn]; rfl
end Go.Proofs.YtalffjplbhelcaaGreatDoor
namespace Go.Proofs.YtalffjplbhelcaaGreatDoor
open Go.RowKit
attribute [local irreducible] AC AR DWalk
def decRead (s : ByteArray) : Dec × Bool := (bif decFig (rdWhole s) 5 then (bif rdPoint s then (bif decFig (rdRest s) 6 then (bif rdMinus s then (bif (lAtoi ((rdWhole s) ++ (lTrimRight (rdRest s) 48))) == 0 then ((⟨0, 0⟩ : Dec), false) else ((⟨w64 (0 - (lAtoi ((rdWhole s) ++ (lTrimRight (rdRest s) 48)))), (((lTrimRight (rdRest s) 48)).size : Int)⟩ : Dec), true)) else ((⟨(lAtoi ((rdWhole s) ++ (lTrimRight (rdRest s) 48))), (((lTrimRight (rdRest s) 48)).size : Int)⟩ : Dec), true)) else ((⟨0, 0⟩ : Dec), false)) else (bif rdMinus s then (bif (lAtoi ((rdWhole s) ++ (lTrimRight (rdRest s) 48))) == 0 then ((⟨0, 0⟩ : Dec), false) else ((⟨w64 (0 - (lAtoi ((rdWhole s) ++ (lTrimRight (rdRest s) 48)))), (((lTrimRight (rdRest s) 48)).size : Int)⟩ : Dec), true)) else ((⟨(lAtoi ((rdWhole s) ++ (lTrimRight (rdRest s) 48))), (((lTrimRight (rdRest s) 48)).size : Int)⟩ : Dec), true))) else ((⟨0, 0⟩ : Dec), false))
set_option maxRecDepth 100000 in
set_option maxHeartbeats 4000000 in
theorem c_decRead (s : ByteArray) (hs : s.size ≤ 9223372036854775807) : Gets Tryz.prog 28 #[.string s] ((fun (r : Dec × Bool) => (.tuple #[.agg #[.int .i64 r.1.c, .int .i64 r.1.scale], .bool r.2] : Value)) (decRead s)) := by
 refine gets_fin Tryz.func28 rfl rfl rfl (aQ (aL (ao 2 rfl rfl (st_new zero26 rfl fun g0 => (aA 3 (.bool false) rfl rfl (aN (aQ (aL (aM 12 (.string s) rfl rfl (aC 13 (c_lCutPrefix s (⟨#[45]⟩ : ByteArray)) Tryz.func66 ⟨rfl, by decide⟩ rfl rfl (aM 11 (.tuple #[.string (rdBody s), .bool (rdMinus s)]) rfl rfl (aX 14 (.string (rdBody s)) rfl rfl rfl (aX 15 (.bool (rdMinus s)) rfl rfl rfl (aA 4 (.string (rdBody s)) rfl rfl (aA 5 (.bool (rdMinus s)) rfl rfl (aN (aQ (aL (aM 17 (.string (rdBody s)) rfl rfl (aC 18 (c_cutDot (rdBody s) (body_sz hs)) Tryz.func67 ⟨rfl, by decide⟩ rfl rfl ?_))))))))))))))))))))
 refine aM 16 (.tuple #[.string (rdWhole s), .string (rdRest s), .bool (rdPoint s)]) rfl rfl (aX 19 (.string (rdWhole s)) rfl rfl rfl (aX 20 (.string (rdRest s)) rfl rfl rfl (aX 21 (.bool (rdPoint s)) rfl rfl rfl (aA 6 (.string (rdWhole s)) rfl rfl (aA 7 (.string (rdRest s)) rfl rfl (aA 8 (.bool (rdPoint s)) rfl rfl (aN (aQ (aQ (aL (aM 22 (.string (rdWhole s)) rfl rfl (aC 23 (c_decFig (rdWhole s) 5 (by decide)) Tryz.func68 ⟨rfl, by decide⟩ rfl rfl (ao 24 rfl rfl (st_un (v := .bool (!(decFig (rdWhole s) 5))) rfl rfl (un_not rfl) (aM 25 (.bool (!(decFig (rdWhole s) 5))) rfl rfl ?_)))))))))))))))
 refine bool_split (decFig (rdWhole s) 5) (fun h1 => ?_) (fun h1 => ?_)
 ·refine ar_gd (d := (some 26)) (by show ((!(decFig (rdWhole s) 5)) == false) = true; rw [h1]; rfl) rfl (st_move (v := .bool (rdPoint s)) rfl rfl (ar_gd (d := (some 27)) (by show ((!(decFig (rdWhole s) 5)) == false) = true; rw [h1]; rfl) rfl (st_move (v := .bool (rdPoint s)) rfl rfl ?_)))
  refine bool_split (rdPoint s) (fun h2 => ?_) (fun h2 => ?_)
  ·refine ar_gd (d := (some 28)) (by show ((rdPoint s) == true) = true; rw [h2]; rfl) rfl (st_move (v := .string (rdRest s)) rfl rfl (ar_gd (d := (some 29)) (by show ((rdPoint s) == true) = true; rw [h2]; rfl) rfl (st_cf (c_decFig (rdRest s) 6 (by decide)) Tryz.func68 rfl (by decide) rfl rfl rfl (ar_gd (d := (some 30)) (by show ((rdPoint s) == true) = true; rw [h2]; rfl) rfl (st_un (v := .bool (!(decFig (rdRest s) 6))) rfl rfl (un_not rfl) (ar_gd (d := (some 31)) (by show ((!(decFig (rdWhole s) 5)) == false) = true; rw [h1]; rfl) rfl (st_pkt' (b := rdPoint s) (v := .bool (!(decFig (rdRest s) 6))) h2 rfl rfl rfl ?_)))))))
   refine ao 32 rfl rfl (st_pkf' (b := !(decFig (rdWhole s) 5)) (v := .bool (!(decFig (rdRest s) 6))) (by rw [h1]; rfl) rfl rfl rfl (aN ?_))
   refine bool_split (decFig (rdRest s) 6) (fun h3 => ?_) (fun h3 => ?_)
   ·refine ac_else' (b := !(decFig (rdRest s) 6)) (by rw [h3]; rfl) rfl (ac_skip (aQ (aL (aM 34 (.string (rdRest s)) rfl rfl (aC 35 (c_lTrimRight (rdRest s) 48 (by decide) (rest_sz (.inr ⟨h2, h3⟩))) Tryz.func69 ⟨rfl, by decide⟩ rfl rfl (aA 7 (.string (lTrimRight (rdRest s) 48)) rfl rfl (aN (aQ (aL (aM 37 (.string (rdWhole s)) rfl rfl (aM 38 (.string (lTrimRight (rdRest s) 48)) rfl rfl (aB 39 (.string ((rdWhole s) ++ (lTrimRight (rdRest s) 48))) rfl rfl rfl (bi_sadd (sz_two (fig_le h1) (rest_sz2 (.inr ⟨h2, h3⟩)) (by decide))) ?_))))))))))))
    refine aC 40 (c_lAtoi ((rdWhole s) ++ (lTrimRight (rdRest s) 48)) (atoi_sz h1 (.inr ⟨h2, h3⟩)) (atoi_ok h1 (.inr ⟨h2, h3⟩))) Tryz.func70 ⟨rfl, by decide⟩ rfl rfl (aM 36 (.tuple #[.int .i64 (lAtoi ((rdWhole s) ++ (lTrimRight (rdRest s) 48))), .nilIface]) rfl rfl (aX 41 (.int .i64 (lAtoi ((rdWhole s) ++ (lTrimRight (rdRest s) 48)))) rfl rfl rfl (aX 42 (.nilIface) rfl rfl rfl (aA 9 (.int .i64 (lAtoi ((rdWhole s) ++ (lTrimRight (rdRest s) 48)))) rfl rfl (aA 10 (.nilIface) rfl rfl (aN (aQ (aQ (aL (aM 43 (.bool (rdMinus s)) rfl rfl (aM 44 (.bool (rdMinus s)) rfl rfl ?_)))))))))))
    refine bool_split (rdMinus s) (fun h4 => ?_) (fun h4 => ?_)
    ·refine ar_gd (d := (some 45)) (by show ((rdMinus s) == true) = true; rw [h4]; rfl) rfl (st_move (v := .int .i64 (lAtoi ((rdWhole s) ++ (lTrimRight (rdRest s) 48)))) rfl rfl (ar_gd (d := (some 46)) (by show ((rdMinus s) == true) = true; rw [h4]; rfl) rfl (st_bi (r := .bool ((lAtoi ((rdWhole s) ++ (lTrimRight (rdRest s) 48))) == 0)) rfl rfl rfl (bi_eql rfl) (ao 47 rfl rfl (st_pkt' (b := rdMinus s) (v := .bool ((lAtoi ((rdWhole s) ++ (lTrimRight (rdRest s) 48))) == 0)) h4 rfl rfl rfl (aN ?_))))))
     refine bool_split ((lAtoi ((rdWhole s) ++ (lTrimRight (rdRest s) 48))) == 0) (fun h5 => ?_) (fun h5 => ?_)
     ·refine ac_then' (b := (lAtoi ((rdWhole s) ++ (lTrimRight (rdRest s) 48))) == 0) h5 rfl (aQ (aL (ao 48 rfl rfl (st_bd (us := []) (v := .agg #[.int .i64 0, .int .i64 0]) rfl rfl (bd26_ ) (aS [.int .i64 0, .int .i64 0] agg26 0 rfl rfl rfl rfl rfl rfl (aA 3 (.bool false) rfl rfl (aN (ac_ret (fin_eq (v := .tuple #[.agg #[.int .i64 0, .int .i64 0], .bool false]) (by show _ = (fun (r : Dec × Bool) => (.tuple #[.agg #[.int .i64 r.1.c, .int .i64 r.1.scale], .bool r.2] : Value)) (decRead s); rw [decRead, h5, h4, h3, h2, h1] <;> rfl) (fin_ret (res_ct (vs := [.int .i64 0, .int .i64 0]) agg26 0 rfl rfl rfl rfl rfl rfl rfl)))))))))))
     ·refine ac_else' (b := (lAtoi ((rdWhole s) ++ (lTrimRight (rdRest s) 48))) == 0) h5 rfl (ac_skip (aQ (aQ (aL (aM 49 (.bool (rdMinus s)) rfl rfl (aN (ac_then' (b := rdMinus s) h4 rfl (aL (aM 50 (.int .i64 (lAtoi ((rdWhole s) ++ (lTrimRight (rdRest s) 48)))) rfl rfl (ao 51 rfl rfl (st_un (v := .int .i64 (w64 (0 - (lAtoi ((rdWhole s) ++ (lTrimRight (rdRest s) 48)))))) rfl rfl (un_neg rfl) (aA 9 (.int .i64 (w64 (0 - (lAtoi ((rdWhole s) ++ (lTrimRight (rdRest s) 48)))))) rfl rfl (aN (aQ (aL (aM 52 (.int .i64 (w64 (0 - (lAtoi ((rdWhole s) ++ (lTrimRight (rdRest s) 48)))))) rfl rfl (aM 53 (.string (lTrimRight (rdRest s) 48)) rfl rfl ?_)))))))))))))))))
      refine ao 54 rfl rfl (st_slen (s := (lTrimRight (rdRest s) 48)) rfl Tryz.underlying9 rfl (ao 55 rfl rfl (st_bd (us := [(0, .int .i64 (w64 (0 - (lAtoi ((rdWhole s) ++ (lTrimRight (rdRest s) 48)))))), (1, .int .i64 (((lTrimRight (rdRest s) 48)).size : Int))]) (v := .agg #[.int .i64 (w64 (0 - (lAtoi ((rdWhole s) ++ (lTrimRight (rdRest s) 48))))), .int .i64 (((lTrimRight (rdRest s) 48)).size : Int)]) rfl rfl (bd26_0_1 _ _) (aS [.int .i64 (w64 (0 - (lAtoi ((rdWhole s) ++ (lTrimRight (rdRest s) 48))))), .int .i64 (((lTrimRight (rdRest s) 48)).size : Int)] agg26 0 rfl rfl rfl rfl rfl rfl (aA 3 (.bool true) rfl rfl (aN (ac_ret ?_)))))))
      exact fin_eq (v := .tuple #[.agg #[.int .i64 (w64 (0 - (lAtoi ((rdWhole s) ++ (lTrimRight (rdRest s) 48))))), .int .i64 (((lTrimRight (rdRest s) 48)).size : Int)], .bool true]) (by show _ = (fun (r : Dec × Bool) => (.tuple #[.agg #[.int .i64 r.1.c, .int .i64 r.1.scale], .bool r.2] : Value)) (decRead s); rw [decRead, h5, h4, h3, h2, h1] <;> rfl) (fin_ret (res_ct (vs := [.int .i64 (w64 (0 - (lAtoi ((rdWhole s) ++ (lTrimRight (rdRest s) 48))))), .int .i64 (((lTrimRight (rdRest s) 48)).size : Int)]) agg26 0 rfl rfl rfl rfl rfl rfl rfl))
    ·refine aK 45 (by show ((rdMinus s) == true) = false; rw [h4]; rfl) rfl (aK 46 (by show ((rdMinus s) == true) = false; rw [h4]; rfl) rfl (ao 47 rfl rfl (st_pkf' (b := rdMinus s) (v := .bool false) h4 rfl rfl rfl (aN (ac_else rfl (ac_skip (aQ (aQ (aL (aM 49 (.bool (rdMinus s)) rfl rfl (aN (ac_else' (b := rdMinus s) h4 rfl (ac_skip (aQ (aL (aM 52 (.int .i64 (lAtoi ((rdWhole s) ++ (lTrimRight (rdRest s) 48)))) rfl rfl (aM 53 (.string (lTrimRight (rdRest s) 48)) rfl rfl (ao 54 rfl rfl (st_slen (s := (lTrimRight (rdRest s) 48)) rfl Tryz.underlying9 rfl ?_)))))))))))))))))))
     refine ao 55 rfl rfl (st_bd (us := [(0, .int .i64 (lAtoi ((rdWhole s) ++ (lTrimRight (rdRest s) 48)))), (1, .int .i64 (((lTrimRight (rdRest s) 48)).size : Int))]) (v := .agg #[.int .i64 (lAtoi ((rdWhole s) ++ (lTrimRight (rdRest s) 48))), .int .i64 (((lTrimRight (rdRest s) 48)).size : Int)]) rfl rfl (bd26_0_1 _ _) (aS [.int .i64 (lAtoi ((rdWhole s) ++ (lTrimRight (rdRest s) 48))), .int .i64 (((lTrimRight (rdRest s) 48)).size : Int)] agg26 0 rfl rfl rfl rfl rfl rfl (aA 3 (.bool true) rfl rfl (aN (ac_ret ?_)))))
     exact fin_eq (v := .tuple #[.agg #[.int .i64 (lAtoi ((rdWhole s) ++ (lTrimRight (rdRest s) 48))), .int .i64 (((lTrimRight (rdRest s) 48)).size : Int)], .bool true]) (by show _ = (fun (r : Dec × Bool) => (.tuple #[.agg #[.int .i64 r.1.c, .int .i64 r.1.scale], .bool r.2] : Value)) (decRead s); rw [decRead, h4, h3, h2, h1] <;> rfl) (fin_ret (res_ct (vs := [.int .i64 (lAtoi ((rdWhole s) ++ (lTrimRight (rdRest s) 48))), .int .i64 (((lTrimRight (rdRest s) 48)).size : Int)]) agg26 0 rfl rfl rfl rfl rfl rfl rfl))
   ·refine ac_then' (b := !(decFig (rdRest s) 6)) (by rw [h3]; rfl) rfl (aQ (aL (ao 33 rfl rfl (st_bd (us := []) (v := .agg #[.int .i64 0, .int .i64 0]) rfl rfl (bd26_ ) (aS [.int .i64 0, .int .i64 0] agg26 0 rfl rfl rfl rfl rfl rfl (aA 3 (.bool false) rfl rfl (aN (ac_ret (fin_eq (v := .tuple #[.agg #[.int .i64 0, .int .i64 0], .bool false]) (by show _ = (fun (r : Dec × Bool) => (.tuple #[.agg #[.int .i64 r.1.c, .int .i64 r.1.scale], .bool r.2] : Value)) (decRead s); rw [decRead, h3, h2, h1] <;> rfl) (fin_ret (res_ct (vs := [.int .i64 0, .int .i64 0]) agg26 0 rfl rfl rfl rfl rfl rfl rfl)))))))))))
  ·refine aK 28 (by show ((rdPoint s) == true) = false; rw [h2]; rfl) rfl (aK 29 (by show ((rdPoint s) == true) = false; rw [h2]; rfl) rfl (aK 30 (by show ((rdPoint s) == true) = false; rw [h2]; rfl) rfl (ar_gd (d := (some 31)) (by show ((!(decFig (rdWhole s) 5)) == false) = true; rw [h1]; rfl) rfl (st_pkf' (b := rdPoint s) (v := .bool false) h2 rfl rfl rfl (ao 32 rfl rfl (st_pkf' (b := !(decFig (rdWhole s) 5)) (v := .bool false) (by rw [h1]; rfl) rfl rfl rfl (aN (ac_else rfl (ac_skip (aQ (aL (aM 34 (.string (rdRest s)) rfl rfl (aC 35 (c_lTrimRight (rdRest s) 48 (by decide) (rest_sz (.inl h2))) Tryz.func69 ⟨rfl, by decide⟩ rfl rfl ?_)))))))))))))
   refine aA 7 (.string (lTrimRight (rdRest s) 48)) rfl rfl (aN (aQ (aL (aM 37 (.string (rdWhole s)) rfl rfl (aM 38 (.string (lTrimRight (rdRest s) 48)) rfl rfl (aB 39 (.string ((rdWhole s) ++ (lTrimRight (rdRest s) 48))) rfl rfl rfl (bi_sadd (sz_two (fig_le h1) (rest_sz2 (.inl h2)) (by decide))) (aC 40 (c_lAtoi ((rdWhole s) ++ (lTrimRight (rdRest s) 48)) (atoi_sz h1 (.inl h2)) (atoi_ok h1 (.inl h2))) Tryz.func70 ⟨rfl, by decide⟩ rfl rfl (aM 36 (.tuple #[.int .i64 (lAtoi ((rdWhole s) ++ (lTrimRight (rdRest s) 48))), .nilIface]) rfl rfl (aX 41 (.int .i64 (lAtoi ((rdWhole s) ++ (lTrimRight (rdRest s) 48)))) rfl rfl rfl (aX 42 (.nilIface) rfl rfl rfl ?_))))))))))
   refine aA 9 (.int .i64 (lAtoi ((rdWhole s) ++ (lTrimRight (rdRest s) 48)))) rfl rfl (aA 10 (.nilIface) rfl rfl (aN (aQ (aQ (aL (aM 43 (.bool (rdMinus s)) rfl rfl (aM 44 (.bool (rdMinus s)) rfl rfl ?_)))))))
   refine bool_split (rdMinus s) (fun h3 => ?_) (fun h3 => ?_)
   ·refine ar_gd (d := (some 45)) (by show ((rdMinus s) == true) = true; rw [h3]; rfl) rfl (st_move (v := .int .i64 (lAtoi ((rdWhole s) ++ (lTrimRight (rdRest s) 48)))) rfl rfl (ar_gd (d := (some 46)) (by show ((rdMinus s) == true) = true; rw [h3]; rfl) rfl (st_bi (r := .bool ((lAtoi ((rdWhole s) ++ (lTrimRight (rdRest s) 48))) == 0)) rfl rfl rfl (bi_eql rfl) (ao 47 rfl rfl (st_pkt' (b := rdMinus s) (v := .bool ((lAtoi ((rdWhole s) ++ (lTrimRight (rdRest s) 48))) == 0)) h3 rfl rfl rfl (aN ?_))))))
    refine bool_split ((lAtoi ((rdWhole s) ++ (lTrimRight (rdRest s) 48))) == 0) (fun h4 => ?_) (fun h4 => ?_)
    ·refine ac_then' (b := (lAtoi ((rdWhole s) ++ (lTrimRight (rdRest s) 48))) == 0) h4 rfl (aQ (aL (ao 48 rfl rfl (st_bd (us := []) (v := .agg #[.int .i64 0, .int .i64 0]) rfl rfl (bd26_ ) (aS [.int .i64 0, .int .i64 0] agg26 0 rfl rfl rfl rfl rfl rfl (aA 3 (.bool false) rfl rfl (aN (ac_ret (fin_eq (v := .tuple #[.agg #[.int .i64 0, .int .i64 0], .bool false]) (by show _ = (fun (r : Dec × Bool) => (.tuple #[.agg #[.int .i64 r.1.c, .int .i64 r.1.scale], .bool r.2] : Value)) (decRead s); rw [decRead, h4, h3, h2, h1] <;> rfl) (fin_ret (res_ct (vs := [.int .i64 0, .int .i64 0]) agg26 0 rfl rfl rfl rfl rfl rfl rfl)))))))))))
    ·refine ac_else' (b := (lAtoi ((rdWhole s) ++ (lTrimRight (rdRest s) 48))) == 0) h4 rfl (ac_skip (aQ (aQ (aL (aM 49 (.bool (rdMinus s)) rfl rfl (aN (ac_then' (b := rdMinus s) h3 rfl (aL (aM 50 (.int .i64 (lAtoi ((rdWhole s) ++ (lTrimRight (rdRest s) 48)))) rfl rfl (ao 51 rfl rfl (st_un (v := .int .i64 (w64 (0 - (lAtoi ((rdWhole s) ++ (lTrimRight (rdRest s) 48)))))) rfl rfl (un_neg rfl) (aA 9 (.int .i64 (w64 (0 - (lAtoi ((rdWhole s) ++ (lTrimRight (rdRest s) 48)))))) rfl rfl (aN (aQ (aL (aM 52 (.int .i64 (w64 (0 - (lAtoi ((rdWhole s) ++ (lTrimRight (rdRest s) 48)))))) rfl rfl (aM 53 (.string (lTrimRight (rdRest s) 48)) rfl rfl ?_)))))))))))))))))
     refine ao 54 rfl rfl (st_slen (s := (lTrimRight (rdRest s) 48)) rfl Tryz.underlying9 rfl (ao 55 rfl rfl (st_bd (us := [(0, .int .i64 (w64 (0 - (lAtoi ((rdWhole s) ++ (lTrimRight (rdRest s) 48)))))), (1, .int .i64 (((lTrimRight (rdRest s) 48)).size : Int))]) (v := .agg #[.int .i64 (w64 (0 - (lAtoi ((rdWhole s) ++ (lTrimRight (rdRest s) 48))))), .int .i64 (((lTrimRight (rdRest s) 48)).size : Int)]) rfl rfl (bd26_0_1 _ _) (aS [.int .i64 (w64 (0 - (lAtoi ((rdWhole s) ++ (lTrimRight (rdRest s) 48))))), .int .i64 (((lTrimRight (rdRest s) 48)).size : Int)] agg26 0 rfl rfl rfl rfl rfl rfl (aA 3 (.bool true) rfl rfl (aN (ac_ret ?_)))))))
     exact fin_eq (v := .tuple #[.agg #[.int .i64 (w64 (0 - (lAtoi ((rdWhole s) ++ (lTrimRight (rdRest s) 48))))), .int .i64 (((lTrimRight (rdRest s) 48)).size : Int)], .bool true]) (by show _ = (fun (r : Dec × Bool) => (.tuple #[.agg #[.int .i64 r.1.c, .int .i64 r.1.scale], .bool r.2] : Value)) (decRead s); rw [decRead, h4, h3, h2, h1] <;> rfl) (fin_ret (res_ct (vs := [.int .i64 (w64 (0 - (lAtoi ((rdWhole s) ++ (lTrimRight (rdRest s) 48))))), .int .i64 (((lTrimRight (rdRest s) 48)).size : Int)]) agg26 0 rfl rfl rfl rfl rfl rfl rfl))
   ·refine aK 45 (by show ((rdMinus s) == true) = false; rw [h3]; rfl) rfl (aK 46 (by show ((rdMinus s) == true) = false; rw [h3]; rfl) rfl (ao 47 rfl rfl (st_pkf' (b := rdMinus s) (v := .bool false) h3 rfl rfl rfl (aN (ac_else rfl (ac_skip (aQ (aQ (aL (aM 49 (.bool (rdMinus s)) rfl rfl (aN (ac_else' (b := rdMinus s) h3 rfl (ac_skip (aQ (aL (aM 52 (.int .i64 (lAtoi ((rdWhole s) ++ (lTrimRight (rdRest s) 48)))) rfl rfl (aM 53 (.string (lTrimRight (rdRest s) 48)) rfl rfl (ao 54 rfl rfl (st_slen (s := (lTrimRight (rdRest s) 48)) rfl Tryz.underlying9 rfl ?_)))))))))))))))))))
    refine ao 55 rfl rfl (st_bd (us := [(0, .int .i64 (lAtoi ((rdWhole s) ++ (lTrimRight (rdRest s) 48)))), (1, .int .i64 (((lTrimRight (rdRest s) 48)).size : Int))]) (v := .agg #[.int .i64 (lAtoi ((rdWhole s) ++ (lTrimRight (rdRest s) 48))), .int .i64 (((lTrimRight (rdRest s) 48)).size : Int)]) rfl rfl (bd26_0_1 _ _) (aS [.int .i64 (lAtoi ((rdWhole s) ++ (lTrimRight (rdRest s) 48))), .int .i64 (((lTrimRight (rdRest s) 48)).size : Int)] agg26 0 rfl rfl rfl rfl rfl rfl (aA 3 (.bool true) rfl rfl (aN (ac_ret ?_)))))
    exact fin_eq (v := .tuple #[.agg #[.int .i64 (lAtoi ((rdWhole s) ++ (lTrimRight (rdRest s) 48))), .int .i64 (((lTrimRight (rdRest s) 48)).size : Int)], .bool true]) (by show _ = (fun (r : Dec × Bool) => (.tuple #[.agg #[.int .i64 r.1.c, .int .i64 r.1.scale], .bool r.2] : Value)) (decRead s); rw [decRead, h3, h2, h1] <;> rfl) (fin_ret (res_ct (vs := [.int .i64 (lAtoi ((rdWhole s) ++ (lTrimRight (rdRest s) 48))), .int .i64 (((lTrimRight (rdRest s) 48)).size : Int)]) agg26 0 rfl rfl rfl rfl rfl rfl rfl))
 ·refine aK 26 (by show ((!(decFig (rdWhole s) 5)) == false) = false; rw [h1]; rfl) rfl (aK 27 (by show ((!(decFig (rdWhole s) 5)) == false) = false; rw [h1]; rfl) rfl (aK 28 rfl rfl (aK 29 rfl rfl (aK 30 rfl rfl (aK 31 (by show ((!(decFig (rdWhole s) 5)) == false) = false; rw [h1]; rfl) rfl (ao 32 rfl rfl (st_pkt' (b := !(decFig (rdWhole s) 5)) (v := .bool true) (by rw [h1]; rfl) rfl rfl rfl (aN (ac_then rfl (aQ (aL (ao 33 rfl rfl (st_bd (us := []) (v := .agg #[.int .i64 0, .int .i64 0]) rfl rfl (bd26_ ) (aS [.int .i64 0, .int .i64 0] agg26 0 rfl rfl rfl rfl rfl rfl (aA 3 (.bool false) rfl rfl (aN (ac_ret ?_)))))))))))))))))
  exact fin_eq (v := .tuple #[.agg #[.int .i64 0, .int .i64 0], .bool false]) (by show _ = (fun (r : Dec × Bool) => (.tuple #[.agg #[.int .i64 r.1.c, .int .i64 r.1.scale], .bool r.2] : Value)) (decRead s); rw [decRead, h1] <;> rfl) (fin_ret (res_ct (vs := [.int .i64 0, .int .i64 0]) agg26 0 rfl rfl rfl rfl rfl rfl rfl))
end Go.Proofs.YtalffjplbhelcaaGreatDoor
namespace Go.Proofs.YtalffjplbhelcaaGreatDoor
open Go.RowKit
attribute [local irreducible] AC AR DWalk
end Go.Proofs.YtalffjplbhelcaaGreatDoor
namespace Go.Proofs.YtalffjplbhelcaaGreatDoor
end Go.Proofs.YtalffjplbhelcaaGreatDoor
namespace Go.Proofs.YtalffjplbhelcaaGreatDoor
open Go.RowKit
attribute [local irreducible] AC AR DWalk
end Go.Proofs.YtalffjplbhelcaaGreatDoor
namespace Go.Proofs.YtalffjplbhelcaaGreatDoor
open Go.RowKit
attribute [local irreducible] AC AR DWalk
end Go.Proofs.YtalffjplbhelcaaGreatDoor
namespace Go.Proofs.YtalffjplbhelcaaGreatDoor
open Go.RowKit
attribute [local irreducible] AC AR DWalk
end Go.Proofs.YtalffjplbhelcaaGreatDoor
namespace Go.Proofs.YtalffjplbhelcaaGreatDoor
structure Tok where
  kind : Int
  text : ByteArray
  at_ : Cx
deriving DecidableEq
end Go.Proofs.YtalffjplbhelcaaGreatDoor
namespace Go.Proofs.YtalffjplbhelcaaGreatDoor
open Go.RowKit
section
variable {p : Program} {n : Nat} {ops : Array Oper} {Q : Exit → Env → List Box → Prop} {l : List Oper} {E : Env} {H : List Box} {o : Oper} {ρ : Operand → Value} {K : Post}
end
end Go.Proofs.YtalffjplbhelcaaGreatDoor
namespace Go.Proofs.YtalffjplbhelcaaGreatDoor
open Go.RowKit
attribute [local irreducible] AC AR DWalk
end Go.Proofs.YtalffjplbhelcaaGreatDoor
namespace Go.Proofs.YtalffjplbhelcaaGreatDoor
def restL (s : ByteArray) (i : Nat) : List UInt8 := s.data.toList.drop i
theorem rest_len (s : ByteArray) (i : Nat) : (restL s i).length = s.size - i := by
  unfold restL
  rw [List.length_drop]
  rfl
theorem rest_add {s : ByteArray} {i : Nat} {w r : List UInt8} (h : restL s i = w ++ r) : restL s (i + w.length) = r := by
  unfold restL at *
  rw [← List.drop_drop, h, List.drop_left]
theorem rest_cons {s : ByteArray} {i : Nat} {b : UInt8} {r : List UInt8} (h : restL s i = b :: r) : i < s.size ∧ sAt s i = (b.toNat : Int) ∧ restL s (i + 1) = r := by
  have hl := rest_len s i
  rw [h] at hl
  simp only [List.length_cons] at hl
  have hi : i < s.size := by omega
  refine ⟨hi, ?_, rest_add (w := [b]) h⟩
  have e : s.data.toList[i]? = some b := by
    have h0 : (s.data.toList.drop i)[0]? = some b := by
      rw [show s.data.toList.drop i = b :: r from h]; rfl
    rw [List.getElem?_drop] at h0
    exact h0
  unfold sAt
  have e2 : s[i]? = some b := by
    rw [getElem?_pos s i hi]
    rw [Array.getElem?_toList] at e
    obtain ⟨_, hb⟩ := Array.getElem?_eq_some_iff.1 e
    rw [← hb]
    rfl
  rw [e2]
  rfl
theorem sub_rest {s : ByteArray} {i : Nat} {w post : List UInt8} (h : restL s i = w ++ post) : subS s (i : Int) ((i + w.length : Nat) : Int) = byA w := by
  unfold subS byA
  apply ByteArray.ext
  apply Array.ext'
  simp only [Int.toNat_natCast, ByteArray.data_extract, Array.toList_extract]
  rw [List.extract_eq_take_drop, show (s.data.toList.drop i) = w ++ post from h]
  simp
section
variable {s : ByteArray} {n i : Nat} {line start : Int} {any_ : Bool} {out : List Tok}
end
end Go.Proofs.YtalffjplbhelcaaGreatDoor
namespace Go.Proofs.YtalffjplbhelcaaGreatDoor
theorem sub_tl (b : UInt8) (r : List UInt8) : subS (byA (b :: r)) 1 (((byA (b :: r)).size : Nat) : Int) = byA r := by
  have h : restL (byA (b :: r)) 1 = r ++ [] := by simp [restL, byA]
  have := sub_rest (s := byA (b :: r)) (i := 1) h
  rw [← this]
  congr 1
  show ((r.length + 1 : Nat) : Int) = _
  omega
theorem sAt_hd (b : UInt8) (r : List UInt8) : sAt (byA (b :: r)) 0 = (b.toNat : Int) := (rest_cons (s := byA (b :: r)) (i := 0) rfl).2.1
theorem byA_pos (b : UInt8) (r : List UInt8) : 0 < (byA (b :: r)).size := Nat.succ_pos _
section
variable {p : Program} {n : Nat} {o : Oper} {H : List Box} {ρ : Operand → Value} {K : Post}
theorem bk_sub8 {t : Nat} {a b : Int} (x y : Operand) : Runs p (do eqGuard .sub t x y (.int .u8 a) (.int .u8 b); binOp .sub t (.int .u8 a) (.int .u8 b)) (.int .u8 (IntKind.u8.wrap (a - b))) := ⟨fun w => by
  simp [eqGuard, binOp, Op.intArith, Sem.run_bind]⟩
theorem st_cv8 {t u : Nat} {x : Operand} {a : Int} (ho : o.op = .convert t u x) (hu : p.underlying u = some (.int .i64)) (ht : p.underlying t = some (.int .u8)) (hx : ρ x = .int .u8 a) (kk : K (.int .i64 (w64 a)) H) : Step p ρ o H K :=
  st_run (s := convert t u (.int .u8 a)) (by rw [execOp, ho]; simp only [hx]) ⟨fun w => by simp [convert, Sem.run_bind, run_underlying hu w, run_underlying ht w, Conv.intToInt]⟩ kk
end
end Go.Proofs.YtalffjplbhelcaaGreatDoor
namespace Go.Proofs.YtalffjplbhelcaaGreatDoor
open Go.RowKit
section
variable {p : Program} {n : Nat} {o : Oper} {H : List Box} {ρ : Operand → Value} {K : Post}
end
end Go.Proofs.YtalffjplbhelcaaGreatDoor
namespace Go.Proofs.YtalffjplbhelcaaGreatDoor
open Go.RowKit
attribute [local irreducible] AC AR DWalk
def hPick_e0 (n : Int) (m : Int) : Int := (bif decide ((Int.tmod n m) < 0) then (w64 ((Int.tmod n m) + m)) else (Int.tmod n m))
def hPick (n : Int) (m : Int) : Int := (hPick_e0 n m)
set_option maxRecDepth 100000 in
theorem c_hPick (n : Int) (m : Int) (hm : m ≠ 0) : Gets Tryz.prog 10 #[.int .i64 n, .int .i64 m] ((fun (r : Int) => (.int .i64 r : Value)) (hPick n m)) := by
 refine gets_fin Tryz.func10 rfl rfl rfl (aQ (aL (aA 4 (.int .i64 0) rfl rfl (aN (aQ (aL (aM 5 (.int .i64 n) rfl rfl (aM 6 (.int .i64 m) rfl rfl (aB 7 (.int .i64 (Int.tmod n m)) rfl rfl rfl (bi_rem hm rfl) (aA 0 (.int .i64 (Int.tmod n m)) rfl rfl (aN (aQ (aQ (aL (aM 8 (.int .i64 (Int.tmod n m)) rfl rfl (aB 9 (.bool (decide ((Int.tmod n m) < 0))) rfl rfl rfl (bi_lss rfl) (aN ?_)))))))))))))))))
 refine ac_mergeE (fun E9 => ((((Env.put E9 (some 10) (.int .i64 (Int.tmod n m))).put (some 11) (.int .i64 m)).put (some 12) (.int .i64 (w64 ((Int.tmod n m) + m)))).put (some 0) (.int .i64 (w64 ((Int.tmod n m) + m))))) (fun E9 => ((((Env.put E9 (some 10) (bif decide ((Int.tmod n m) < 0) then (.int .i64 (Int.tmod n m) : Value) else E9 10)).put (some 11) (bif decide ((Int.tmod n m) < 0) then (.int .i64 m : Value) else E9 11)).put (some 12) (bif decide ((Int.tmod n m) < 0) then (.int .i64 (w64 ((Int.tmod n m) + m)) : Value) else E9 12)).put (some 0) (.int .i64 (hPick_e0 n m)))) (b := decide ((Int.tmod n m) < 0)) rfl (fun hm => ?_) (fun hm => ?_) (fun hm => ?_) ?_
 ·refine aL (aM 10 (.int .i64 (Int.tmod n m)) rfl rfl (aM 11 (.int .i64 m) rfl rfl (aB 12 (.int .i64 (w64 ((Int.tmod n m) + m))) rfl rfl rfl (bi_add rfl) (aA 0 (.int .i64 (w64 ((Int.tmod n m) + m))) rfl rfl (aN ?_)))))
  exact ⟨rfl, rfl, rfl⟩
 ·unfold hPick_e0; rw [hm]; rfl
 ·unfold hPick_e0; rw [hm]; exact ((put_self rfl).trans ((put_self rfl).trans ((put_self rfl).trans (put_self rfl))))
 refine aQ (aL (aM 13 (.int .i64 (hPick_e0 n m)) rfl rfl (aA 4 (.int .i64 (hPick_e0 n m)) rfl rfl (aN (ac_ret (fin_eq (v := .int .i64 (hPick_e0 n m)) rfl (fin_ret (res_tmp rfl rfl))))))))
end Go.Proofs.YtalffjplbhelcaaGreatDoor
namespace Go.Proofs.YtalffjplbhelcaaGreatDoor
theorem hPick_spec (n : Int) {m : Int} (hm : 0 < m) (hm' : m ≤ 9223372036854775807) : hPick n m = n % m := by
  have h1 := Int.tmod_lt_of_pos n hm
  have h2 := Int.lt_tmod_of_pos n hm
  have he := Int.mul_tdiv_add_tmod n m
  unfold hPick hPick_e0
  by_cases h : n.tmod m < 0
  · rw [decide_eq_true h, w64_in (by omega)]
    simp only [cond_true]
    refine (((Int.ediv_emod_unique (q := n.tdiv m - 1) hm).2 ⟨?_, by omega, by omega⟩).2).symm
    rw [Int.mul_sub, Int.mul_one]; omega
  · rw [decide_eq_false h]
    simp only [cond_false]
    exact (((Int.ediv_emod_unique (q := n.tdiv m) hm).2 ⟨by omega, by omega, by omega⟩).2).symm
theorem hPick_lt (n : Int) {m : Int} (hm : 0 < m) (hm' : m ≤ 9223372036854775807) : 0 ≤ hPick n m ∧ hPick n m < m := by
  rw [hPick_spec n hm hm']
  exact ⟨Int.emod_nonneg n (by omega), Int.emod_lt_of_pos n hm⟩
end Go.Proofs.YtalffjplbhelcaaGreatDoor
namespace Go.Proofs.YtalffjplbhelcaaGreatDoor
end Go.Proofs.YtalffjplbhelcaaGreatDoor
namespace Go.Proofs.YtalffjplbhelcaaGreatDoor
section
variable {p : Program} {n : Nat} {o : Oper} {H : List Box} {ρ : Operand → Value} {K : Post}
end
def loopsOf : Code → List Code
  | .seq a b => loopsOf a ++ loopsOf b
  | .cond _ a b => loopsOf a ++ loopsOf b
  | .block _ a => loopsOf a
  | .scope a => loopsOf a
  | .loop c => [c]
  | _ => []
def loopN (k : Nat) (c : Code) : Option Code := (loopsOf c)[k]?
end Go.Proofs.YtalffjplbhelcaaGreatDoor
