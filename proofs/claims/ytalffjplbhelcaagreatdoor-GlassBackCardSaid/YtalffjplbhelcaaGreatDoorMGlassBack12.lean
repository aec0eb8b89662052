import Derived.Test.YtalffjplbhelcaaGreatDoorMGlassBack10
import Derived.Test.YtalffjplbhelcaaGreatDoorMGlassBack8
import Derived.Test.YtalffjplbhelcaaGreatDoorMGlassBack9
import Derived.Test.YtalffjplbhelcaaGreatDoorMGlassBack11
import Derived.Test.YtalffjplbhelcaaGreatDoorMGlassBack7
set_option linter.unusedVariables false
set_option linter.unusedSimpArgs false
namespace Go.Proofs.YtalffjplbhelcaaGreatDoor
def low : Nat → Nat → List UInt8
  | _, 0 => []
  | u, s + 1 => low (u / 10) s ++ [UInt8.ofNat (48 + u % 10)]
theorem low_len : ∀ (s u : Nat), (low u s).length = s
  | 0, _ => rfl
  | s + 1, u => by rw [low, List.length_append, low_len s]; rfl
theorem pad_split : ∀ (s u : Nat), List.replicate (s + 1 - (Lib.decDigits u).length) 48 ++ Lib.decDigits u = Lib.decDigits (u / 10 ^ s) ++ low u s
  | 0, u => by
    have h := List.length_pos_iff.2 (decDig_all u).2.2
    rw [show 0 + 1 - (Lib.decDigits u).length = 0 by omega, Nat.pow_zero, Nat.div_one, low, List.append_nil]; rfl
  | s + 1, u => by
    have ih := pad_split s (u / 10)
    have e1 : u / 10 ^ (s + 1) = u / 10 / 10 ^ s := by rw [Nat.pow_succ, Nat.mul_comm, Nat.div_div_eq_div_mul]
    rw [low, e1, ← List.append_assoc, ← ih]
    by_cases h : u < 10
    · have e0 : u / 10 = 0 := Nat.div_eq_of_lt h
      have d0 : Lib.decDigits 0 = [48] := by rw [Lib.decDigits, dif_pos (by decide)]; rfl
      have du : Lib.decDigits u = [UInt8.ofNat (48 + u % 10)] := by rw [Lib.decDigits, dif_pos h, Nat.mod_eq_of_lt h]
      rw [e0, d0, du]
      show List.replicate (s + 1) 48 ++ _ = (List.replicate s 48 ++ [48]) ++ _
      rw [← List.replicate_succ']
    · have du : Lib.decDigits u = Lib.decDigits (u / 10) ++ [UInt8.ofNat (48 + u % 10)] := by conv => lhs; rw [Lib.decDigits, dif_neg h]
      rw [du, List.length_append, List.length_singleton, show s + 1 + 1 - ((Lib.decDigits (u / 10)).length + 1) = s + 1 - (Lib.decDigits (u / 10)).length by omega, List.append_assoc]
theorem dig_gt (h : Nat) : decide (((Lib.decDigits h).length : Int) > 5) = decide ((h : Int) > 99999) := by
  obtain ⟨d1, d2, d3⟩ := decDig_all h
  by_cases hh : h < 100000
  · have := dg_len 4 h hh
    rw [decide_eq_false (by omega), decide_eq_false (by omega)]
  · rw [decide_eq_true (show (h : Int) > 99999 by omega), decide_eq_true]
    have hl := dval_lt (Lib.decDigits h) 0 0 d1 (by decide)
    rw [d2, Nat.zero_add] at hl
    by_cases h5 : (Lib.decDigits h).length ≤ 5
    · have : 10 ^ (Lib.decDigits h).length ≤ 10 ^ 5 := Nat.pow_le_pow_right (by decide) h5
      omega
    · omega
theorem print_parts {d : Dec} (h : decRight d = true) : decPrint d = bif decide (((d.c.natAbs / 10 ^ d.scale.toNat : Nat) : Int) > 99999) then (⟨#[]⟩ : ByteArray) else byA (sgnL (decide (d.c < 0)) ++ (Lib.decDigits (d.c.natAbs / 10 ^ d.scale.toNat) ++ ptL (low d.c.natAbs d.scale.toNat))) := by
  have hb := dr_bounds h
  have hL : zer d ++ ito d = byA (List.replicate (padN d).toNat 48 ++ Lib.decDigits d.c.natAbs) := by rw [zer_L, ito_L h, byA_app]
  have hp : (padN d).toNat = d.scale.toNat + 1 - (Lib.decDigits d.c.natAbs).length := by
    have := padN_eq h
    have e : (ito d).size = (Lib.decDigits d.c.natAbs).length := by rw [ito_L h]; rfl
    rw [this, e]
    omega
  rw [hp, pad_split] at hL
  obtain ⟨p1, p2⟩ := pad_all h
  have hform := decPrint_form d
  rw [h, cond_true, p1, hL] at hform
  generalize hW : Lib.decDigits (d.c.natAbs / 10 ^ d.scale.toNat) = W at *
  have hF : (low d.c.natAbs d.scale.toNat).length = d.scale.toNat := low_len _ _
  generalize low d.c.natAbs d.scale.toNat = F at *
  have hsz : ((byA (W ++ F)).size : Int) - d.scale = (W.length : Int) := by
    show (((W ++ F).length : Nat) : Int) - d.scale = _
    rw [List.length_append]
    omega
  have e3 : ((byA (W ++ F)).size : Int) = ((W.length + F.length : Nat) : Int) := by show (((W ++ F).length : Nat) : Int) = _; rw [List.length_append]
  rw [hsz, e3] at hform
  have e1 := sub_rest (s := byA (W ++ F)) (i := 0) (w := W) (post := F) rfl
  have e2 := sub_rest (s := byA (W ++ F)) (i := W.length) (w := F) (post := []) (by rw [List.append_nil]; show (W ++ F).drop W.length = F; rw [List.drop_left])
  rw [Nat.zero_add] at e1
  rw [hform, show subS (byA (W ++ F)) 0 (W.length : Int) = byA W from e1, e2, sEq_nil, show (byA W).size = W.length from rfl, ← hW, dig_gt]
  unfold prForm
  cases decide (((d.c.natAbs / 10 ^ d.scale.toNat : Nat) : Int) > 99999)
  · simp only [cond_false]
    cases decide (d.c < 0) <;> cases hF' : F <;> simp only [List.isEmpty_nil, List.isEmpty_cons, cond_true, cond_false, sgnL, ptL, List.nil_append, List.append_nil, List.cons_append]
    · rw [show (⟨#[46]⟩ : ByteArray) = byA [46] from rfl, byA_app, byA_app, List.append_assoc]; rfl
    · rw [show (⟨#[45]⟩ : ByteArray) = byA [45] from rfl, byA_app]; rfl
    · rw [show (⟨#[46]⟩ : ByteArray) = byA [46] from rfl, show (⟨#[45]⟩ : ByteArray) = byA [45] from rfl, byA_app, byA_app, byA_app]
      simp
  · rfl
end Go.Proofs.YtalffjplbhelcaaGreatDoor
namespace Go.Proofs.YtalffjplbhelcaaGreatDoor
def pl (d : Dec) : List UInt8 := (decPrint d).data.toList
structure DOk (d : Dec) : Prop where
  num : nOk (pl d) = true
  word : wOk (pl d) = false
  read : decRead (decPrint d) = (d, true)
  some : sEq (decPrint d) (⟨#[]⟩ : ByteArray) = false
  short : (decPrint d).size ≤ 20
theorem dig_in {b : UInt8} (h : IsDig b) : lexDigit (b.toNat : Int) = true ∧ lexInNum (b.toNat : Int) = true ∧ lexLetter (b.toNat : Int) = false := by
  obtain ⟨h1, h2⟩ := h
  have k : ∀ n : Nat, n < 256 → (48 ≤ n ∧ n ≤ 57) → lexDigit (n : Int) = true ∧ lexInNum (n : Int) = true ∧ lexLetter (n : Int) = false := by decide +kernel
  exact k b.toNat b.toNat_lt ⟨h1, h2⟩
theorem form_ok (mn : Bool) {W F : List UInt8} (h0 : W ≠ []) (hW : ∀ b ∈ W, IsDig b) (hF : ∀ b ∈ F, IsDig b) {d : Dec} (hr : decRead (byA (sgnL mn ++ (W ++ ptL F))) = (d, true)) : nOk (sgnL mn ++ (W ++ ptL F)) = true ∧ wOk (sgnL mn ++ (W ++ ptL F)) = false := by
  obtain ⟨b, r, rfl⟩ : ∃ b r, W = b :: r := by cases W with | nil => exact absurd rfl h0 | cons b r => exact ⟨b, r, rfl⟩
  have hb := dig_in (hW b List.mem_cons_self)
  have hP : ∀ c ∈ ptL F, lexInNum (c.toNat : Int) = true := by
    intro c hc
    unfold ptL at hc
    cases F with
    | nil => cases hc
    | cons f F =>
      rcases List.mem_cons.1 hc with rfl | hc
      · decide
      · exact (dig_in (hF c hc)).2.1
  have hR : ∀ c ∈ r ++ ptL F, lexInNum (c.toNat : Int) = true := fun c hc => (List.mem_append.1 hc).elim (fun h => (dig_in (hW c (List.mem_cons_of_mem _ h))).2.1) (hP c)
  cases mn
  · have e : sgnL false ++ ((b :: r) ++ ptL F) = b :: (r ++ ptL F) := rfl
    rw [e] at hr ⊢
    refine ⟨?_, ?_⟩
    · rw [nOk, hb.1, hr, List.all_eq_true.2 hR]; rfl
    · rw [wOk, hb.2.2]; rfl
  · have e : sgnL true ++ ((b :: r) ++ ptL F) = 45 :: (b :: (r ++ ptL F)) := rfl
    rw [e] at hr ⊢
    refine ⟨?_, ?_⟩
    · rw [nOk, hr, List.all_eq_true.2 (fun c hc => by
        rcases List.mem_cons.1 hc with rfl | hc
        · exact hb.2.1
        · exact hR c hc)]; rfl
    · rw [wOk, show lexLetter (((45 : UInt8).toNat : Nat) : Int) = false from by decide]; rfl
theorem low_dig : ∀ (s u : Nat), ∀ b ∈ low u s, IsDig b
  | 0, u, b, h => by cases h
  | s + 1, u, b, h => by
    rw [low] at h
    rcases List.mem_append.1 h with h | h
    · exact low_dig s _ b h
    · obtain rfl := List.mem_singleton.1 h
      exact isDig_of (Nat.mod_lt _ (by decide))
theorem digs_len {n : Nat} (h : n < 100000) : (Lib.decDigits n).length ≤ 5 := dg_len 4 n (by omega)
theorem dok {d : Dec} (h : decRight d = true) (hq : d.c.natAbs / 10 ^ d.scale.toNat < 100000) : DOk d := by
  have hp := print_parts h
  rw [decide_eq_false (by omega), cond_false] at hp
  have hw := (decDig_all (d.c.natAbs / 10 ^ d.scale.toNat))
  have hs := dr_bounds h
  have hlen := digs_len hq
  have hlo := low_len d.scale.toNat d.c.natAbs
  have hld := low_dig d.scale.toNat d.c.natAbs
  generalize Lib.decDigits (d.c.natAbs / 10 ^ d.scale.toNat) = W at *
  generalize low d.c.natAbs d.scale.toNat = F at *
  have hne : decPrint d ≠ (⟨#[]⟩ : ByteArray) := by
    rw [hp]
    intro e
    have h9 : (sgnL (decide (d.c < 0)) ++ (W ++ ptL F)).length = 0 := congrArg ByteArray.size e
    have h8 := List.length_pos_iff.2 hw.2.2
    rw [List.length_append, List.length_append] at h9
    omega
  have hr := print_back h hne
  have hr2 := hr
  rw [hp] at hr2
  obtain ⟨k1, k2⟩ := form_ok (decide (d.c < 0)) hw.2.2 hw.1 hld hr2
  have epl : pl d = sgnL (decide (d.c < 0)) ++ (W ++ ptL F) := by
    unfold pl
    rw [hp]; rfl
  refine ⟨by rw [epl]; exact k1, by rw [epl]; exact k2, hr, ?_, ?_⟩
  · cases e : sEq (decPrint d) (⟨#[]⟩ : ByteArray)
    · rfl
    · exact absurd ((sEq_iff _ _).1 e) hne
  · rw [hp]
    show (sgnL (decide (d.c < 0)) ++ (W ++ ptL F)).length ≤ 20
    have l1 : (sgnL (decide (d.c < 0))).length ≤ 1 := by cases decide (d.c < 0) <;> decide
    have l2 : (ptL F).length ≤ F.length + 1 := by
      unfold ptL
      cases F with
      | nil => decide
      | cons f F => simp
    rw [List.length_append, List.length_append]
    omega
def HD (k : Nat) (c : Int) (d : Dec) : Prop := ∃ s : Nat, d.scale = (s : Int) ∧ s ≤ k ∧ d.c * (10 : Int) ^ (k - s) = c ∧ (s = 0 ∨ d.c.tmod 10 ≠ 0)
theorem hd_ok {k : Nat} {c : Int} {d : Dec} (h : HD k c d) (hk : k ≤ 5) (hc : c.natAbs < 100000 * 10 ^ k) : DOk d := by
  obtain ⟨s, h1, h2, h3, h4⟩ := h
  have e : d.c.natAbs * 10 ^ (k - s) = c.natAbs := by
    rw [← h3, Int.natAbs_mul, Int.natAbs_pow]; rfl
  have hp : 0 < 10 ^ (k - s) := Nat.pow_pos (by decide)
  have hlt : d.c.natAbs < 100000 * 10 ^ s := by
    have e2 : 10 ^ k = 10 ^ s * 10 ^ (k - s) := by rw [← Nat.pow_add]; congr 1; omega
    rw [← e, e2, ← Nat.mul_assoc] at hc
    exact Nat.lt_of_mul_lt_mul_right hc
  have hs5 : 10 ^ s ≤ 10 ^ 5 := Nat.pow_le_pow_right (by decide) (by omega)
  have hR : decRight d = true := by
    have hb : d.c.natAbs < 10000000000 := by omega
    unfold decRight
    rw [decide_eq_true (show d.c ≥ _ by omega), decide_eq_true (show d.c ≤ _ by omega), decide_eq_true (show d.scale ≥ 0 by omega), decide_eq_true (show d.scale ≤ 6 by omega)]
    rcases h4 with h4 | h4
    · rw [show (d.scale == 0) = true from beq_iff_eq.2 (by omega)]; rfl
    · rw [show (Int.tmod d.c 10 != 0) = true from bne_iff_ne.2 h4]
      cases d.scale == 0 <;> rfl
  refine dok hR ?_
  rw [h1, Int.toNat_natCast]
  exact Nat.div_lt_of_lt_mul (by rw [Nat.mul_comm]; exact hlt)
def gw : List UInt8 := [103, 108, 97, 115, 115]
def lineR (z : Glass) (r : List UInt8) : List UInt8 := gw ++ 32 :: (z.name.data.toList ++ 32 :: (pl z.b.d0 ++ 32 :: (pl z.c.d0 ++ 32 :: (pl z.b.d1 ++ 32 :: (pl z.c.d1 ++ 32 :: (pl z.b.d2 ++ 32 :: (pl z.c.d2 ++ 10 :: r)))))))
def textR : List Glass → List UInt8
  | [] => []
  | z :: zs => lineR z (textR zs)
def toksZ (z : Glass) : List (Int × ByteArray) := [(1, byA gw), (1, z.name), (2, decPrint z.b.d0), (2, decPrint z.c.d0), (2, decPrint z.b.d1), (2, decPrint z.c.d1), (2, decPrint z.b.d2), (2, decPrint z.c.d2), (3, ⟨#[]⟩)]
structure GOk (z : Glass) : Prop where
  name : wOk z.name.data.toList = true
  short : z.name.size ≤ 20
  b0 : DOk z.b.d0
  c0 : DOk z.c.d0
  b1 : DOk z.b.d1
  c1 : DOk z.c.d1
  b2 : DOk z.b.d2
  c2 : DOk z.c.d2
theorem lx_dec {s : ByteArray} {d : Dec} {r : List UInt8} {c : UInt8} {T : List (Int × ByteArray)} (hs : s.size ≤ 4000) (hd : DOk d) (hc1 : lexInWord (c.toNat : Int) = false) (hc2 : lexInNum (c.toNat : Int) = false) (h : LxL s (c :: r) true T) : LxL s (32 :: (pl d ++ c :: r)) true ((2, decPrint d) :: T) := by
  have h1 := lxL_tok (any_ := true) hs (l := pl d) (by rw [hd.num, Bool.or_true]) hc1 hc2 h
  rw [kindL, hd.word, cond_false] at h1
  exact lxL_blank (.inl rfl) h1
theorem lx_line {s : ByteArray} {z : Glass} {r : List UInt8} {T : List (Int × ByteArray)} (hs : s.size ≤ 4000) (hz : GOk z) (h : LxL s r false T) : LxL s (lineR z r) false (toksZ z ++ T) := by
  have h0 : LxL s (10 :: r) true ((3, ⟨#[]⟩) :: T) := lxL_feed h
  have b : ∀ {d : Dec} {r : List UInt8} {T : List (Int × ByteArray)}, DOk d → LxL s (32 :: r) true T → LxL s (32 :: (pl d ++ 32 :: r)) true ((2, decPrint d) :: T) := fun hd h => lx_dec hs hd (by decide) (by decide) h
  have h1 := b hz.b0 (b hz.c0 (b hz.b1 (b hz.c1 (b hz.b2 (lx_dec hs hz.c2 (by decide) (by decide) h0)))))
  have h2 := lxL_tok (any_ := true) hs (l := z.name.data.toList) (by rw [hz.name, Bool.true_or]) (by decide) (by decide) h1
  rw [kindL, hz.name, cond_true] at h2
  exact lxL_tok (any_ := false) hs (l := gw) (by decide) (by decide) (by decide) (lxL_blank (.inl rfl) h2)
theorem lx_text {s : ByteArray} (hs : s.size ≤ 4000) : ∀ zs : List Glass, (∀ z ∈ zs, GOk z) → LxL s (textR zs) false (zs.flatMap toksZ)
  | [], _ => lxL_end
  | z :: zs, h => by
    rw [List.flatMap_cons]
    exact lx_line hs (h z List.mem_cons_self) (lx_text hs zs fun y hy => h y (List.mem_cons_of_mem _ hy))
theorem plz_len {d : Dec} (h : DOk d) : (pl d).length ≤ 20 := h.short
theorem line_len {z : Glass} (h : GOk z) (r : List UInt8) : (lineR z r).length ≤ r.length + 200 := by
  have h0 : z.name.data.toList.length ≤ 20 := h.short
  have h1 := plz_len h.b0
  have h2 := plz_len h.c0
  have h3 := plz_len h.b1
  have h4 := plz_len h.c1
  have h5 := plz_len h.b2
  have h6 := plz_len h.c2
  have h7 : gw.length = 5 := rfl
  unfold lineR
  simp only [List.length_append, List.length_cons]
  omega
theorem text_len : ∀ zs : List Glass, (∀ z ∈ zs, GOk z) → (textR zs).length ≤ 200 * zs.length
  | [], _ => Nat.le_refl _
  | z :: zs, h => by
    have h1 := line_len (h z List.mem_cons_self) (textR zs)
    have h2 := text_len zs fun y hy => h y (List.mem_cons_of_mem _ hy)
    rw [textR, List.length_cons]
    omega
theorem gFind_no (x : Nat → Glass) (nm : ByteArray) : ∀ (j i : Nat), (∀ k, i ≤ k → k < i + j → sEq (x k).name nm = false) → gFind x nm j i = (Glass.zero, false)
  | 0, _, _ => rfl
  | j + 1, i, h => by rw [gFind, h i (Nat.le_refl _) (by omega), cond_false, gFind_no x nm j (i + 1) (fun k h1 h2 => h k (by omega) (by omega))]
def KT (z : Glass) (y : Nat → Tok) : Prop := ∀ i, i < 9 → kt (y i) = (toksZ z).getD i (0, ⟨#[]⟩)
theorem kt_at {z : Glass} {y : Nat → Tok} (h : KT z y) (i : Nat) (hi : i < 9) {a : Int} {b : ByteArray} (e : (toksZ z).getD i (0, ⟨#[]⟩) = (a, b)) : (y i).kind = a ∧ (y i).text = b := by
  have h1 := (h i hi).trans e
  unfold kt at h1
  injection h1 with h2 h3
  exact ⟨h2, h3⟩
theorem gNums_step {y : Nat → Tok} {j k : Nat} {z : Glass} {d : Dec} (hd : DOk d) (h : (y (2 + k)).kind = 2 ∧ (y (2 + k)).text = decPrint d) : gNums y (j + 1) k z = gNums y j (k + 1) (setK z k d) := by
  rw [gNums, h.1, h.2, hd.read]
  rfl
theorem one_read {m : Nat} {x : Nat → Glass} {y : Nat → Tok} {z : Glass} (hz : GOk z) (hy : KT z y) (hf : (gFind x z.name m 0).2 = false) (ha : sEq z.name (⟨#[97, 105, 114]⟩ : ByteArray) = false) (hm : m ≠ 30) : gOne m x y = (z, true, (⟨0, 0⟩ : Cx), 0) := by
  have e0 := kt_at hy 0 (by decide) rfl
  have e1 := kt_at hy 1 (by decide) rfl
  have e2 := kt_at hy (2 + 0) (by decide) rfl
  have e3 := kt_at hy (2 + 1) (by decide) rfl
  have e4 := kt_at hy (2 + 2) (by decide) rfl
  have e5 := kt_at hy (2 + 3) (by decide) rfl
  have e6 := kt_at hy (2 + 4) (by decide) rfl
  have e7 := kt_at hy (2 + 5) (by decide) rfl
  have e8 := kt_at hy 8 (by decide) rfl
  have hn : gName m x (y 1) = 0 := by
    rw [gName, e1.1, e1.2, hf, ha, show ((m : Int) == 30) = false from beq_eq_false_iff_ne.2 (by omega)]
    rfl
  have hg : sEq (byA gw) (⟨#[103, 108, 97, 115, 115]⟩ : ByteArray) = true := (sEq_iff _ _).2 rfl
  rw [gOne, e0.1, e0.2, hg, hn, e1.2, gNums_step hz.b0 e2, gNums_step hz.c0 e3, gNums_step hz.b1 e4, gNums_step hz.c1 e5, gNums_step hz.b2 e6, gNums_step hz.c2 e7, gNums, e8.1]
  rfl
def nameK : Nat → ByteArray
  | 0 => ⟨#[99, 114, 111, 119, 110]⟩
  | 1 => ⟨#[102, 108, 105, 110, 116]⟩
  | 2 => ⟨#[103, 48]⟩
  | 3 => ⟨#[103, 49]⟩
  | _ => ⟨#[103, 50]⟩
theorem name_ne : ∀ i, i < 5 → ∀ j, j < 5 → i ≠ j → sEq (nameK i) (nameK j) = false := by decide +kernel
theorem name_air : ∀ i, i < 5 → sEq (nameK i) (⟨#[97, 105, 114]⟩ : ByteArray) = false := by decide +kernel
theorem name_ok : ∀ i, i < 5 → wOk (nameK i).data.toList = true ∧ (nameK i).size ≤ 20 := by decide +kernel
theorem name_named : ∀ i, i < 5 → gNamed (nameK i) = true := by decide +kernel
def NmOk (L : List Glass) : Prop := L.length ≤ 5 ∧ ∀ i, i < L.length → (gAt L i).name = nameK i
theorem gAt_app {l zs : List Glass} {i : Nat} (h : i < l.length) : gAt (l ++ zs) i = gAt l i := by
  unfold gAt
  rw [List.getD_eq_getElem?_getD, List.getD_eq_getElem?_getD, List.getElem?_append_left h]
theorem gAt_mid {l zs : List Glass} {z : Glass} : gAt (l ++ z :: zs) l.length = z := by
  unfold gAt
  rw [List.getD_eq_getElem?_getD, List.getElem?_append_right (Nat.le_refl _), Nat.sub_self]
  rfl
theorem nm_find {l zs : List Glass} {z : Glass} (h : NmOk (l ++ z :: zs)) : (gFind (gAt l) z.name l.length 0).2 = false ∧ sEq z.name (⟨#[97, 105, 114]⟩ : ByteArray) = false := by
  obtain ⟨h5, hn⟩ := h
  have hl : (l ++ z :: zs).length = l.length + (zs.length + 1) := by rw [List.length_append, List.length_cons]
  have hz := hn l.length (by omega)
  rw [gAt_mid] at hz
  rw [hz]
  refine ⟨?_, name_air _ (by omega)⟩
  rw [gFind_no _ _ _ _ (fun k _ hk => by
    have e := hn k (by omega)
    rw [gAt_app (by omega)] at e
    rw [e]
    exact name_ne k (by omega) l.length (by omega) (by omega))]
def KTs : List Glass → (Nat → Tok) → Prop
  | [], _ => True
  | z :: zs, y => KT z y ∧ KTs zs (fun i => y (i + 9))
theorem read_all : ∀ (zs l : List Glass) (y : Nat → Tok) (j n : Nat), n = 9 * zs.length → zs.length < j → KTs zs y → (∀ z ∈ zs, GOk z) → NmOk (l ++ zs) → gReadF j l y n = (l ++ zs, (⟨0, 0⟩ : Cx), 0)
  | [], l, y, j, n, hn, hj, _, _, _ => by
    obtain ⟨j, rfl⟩ : ∃ j', j = j' + 1 := ⟨j - 1, by simp only [List.length_nil] at hj; omega⟩
    subst hn
    rw [gReadF, List.append_nil]
    rfl
  | z :: zs, l, y, j, n, hn, hj, hy, hz, hN => by
    rw [List.length_cons] at hn hj
    obtain ⟨j, rfl⟩ : ∃ j', j = j' + 1 := ⟨j - 1, by omega⟩
    obtain ⟨f1, f2⟩ := nm_find hN
    have h5 := hN.1
    rw [List.length_append, List.length_cons] at h5
    have e1 := one_read (m := l.length) (x := gAt l) (hz z List.mem_cons_self) hy.1 f1 f2 (by omega)
    rw [gReadF, decide_eq_true (show (n : Int) > 0 by omega), e1]
    show gReadF j (l ++ [z]) (fun i => y (i + 9)) (n - 9) = _
    rw [read_all zs (l ++ [z]) _ j (n - 9) (by omega) (by omega) hy.2 (fun q hq => hz q (List.mem_cons_of_mem _ hq)) (by rw [List.append_assoc]; exact hN), List.append_assoc]
    rfl
theorem kts_of : ∀ (zs : List Glass) (T : List Tok), T.map kt = zs.flatMap toksZ → KTs zs (fun i => T.getD i Tok.nil) ∧ T.length = 9 * zs.length
  | [], T, h => by
    have h0 : T = [] := List.map_eq_nil_iff.1 h
    subst h0
    exact ⟨trivial, rfl⟩
  | z :: zs, T, h => by
    have hl9 : (toksZ z).length = 9 := rfl
    rw [List.flatMap_cons] at h
    have hl := congrArg List.length h
    rw [List.length_map, List.length_append, hl9] at hl
    have hd : (T.drop 9).map kt = zs.flatMap toksZ := by rw [List.map_drop, h, ← hl9, List.drop_left]
    obtain ⟨k1, k2⟩ := kts_of zs (T.drop 9) hd
    rw [List.length_drop] at k2
    have e9 : (fun i => (T.drop 9).getD i Tok.nil) = (fun i => T.getD (i + 9) Tok.nil) := by
      funext i
      rw [List.getD_eq_getElem?_getD, List.getD_eq_getElem?_getD, List.getElem?_drop, Nat.add_comm]
    rw [e9] at k1
    refine ⟨⟨fun i hi => ?_, k1⟩, by rw [List.length_cons]; omega⟩
    have hT : i < T.length := by omega
    have e1 : (T.map kt)[i]? = (toksZ z ++ zs.flatMap toksZ)[i]? := by rw [h]
    rw [List.getElem?_map, List.getElem?_append_left (by omega), List.getElem?_eq_getElem hT, Option.map_some] at e1
    show kt (T.getD i Tok.nil) = _
    rw [List.getD_eq_getElem?_getD, List.getD_eq_getElem?_getD, List.getElem?_eq_getElem hT, ← e1]
    rfl
theorem gRead_text {L : List Glass} (hz : ∀ z ∈ L, GOk z) (hN : NmOk L) : gRead (byA (textR L)) = (L, (⟨0, 0⟩ : Cx), 0) := by
  have h5 := hN.1
  have hs : (byA (textR L)).size ≤ 4000 := Nat.le_trans (text_len L hz) (by omega)
  obtain ⟨T, e, hT⟩ := lxL_all hs (lx_text hs L hz)
  obtain ⟨k1, k2⟩ := kts_of L T hT
  unfold gRead
  rw [e]
  show gReadF (T.length + 1) [] (fun i => T.getD i Tok.nil) T.length = _
  exact read_all L [] _ _ _ k2 (by omega) k1 hz hN
theorem line_eq (x : Nat → Glass) (i : Nat) (l r : List UInt8) : gLine x i l ++ r = l ++ lineR (x i) r := by
  unfold gLine lineR gw pl
  simp only [ByteArray.data_append, Array.toList_append, List.append_assoc, List.cons_append, List.nil_append]
theorem lines_eq (L : List Glass) : ∀ (j i : Nat) (l : List UInt8), i + j = L.length → gLines (gAt L) j i l = l ++ textR (L.drop i)
  | 0, i, l, h => by
    rw [gLines, List.drop_of_length_le (by omega), textR, List.append_nil]
  | j + 1, i, l, h => by
    have hi : i < L.length := by omega
    have e : gAt L i = L[i] := by
      unfold gAt
      rw [List.getD_eq_getElem?_getD, List.getElem?_eq_getElem hi]
      rfl
    rw [gLines, lines_eq L j (i + 1) _ (by omega), line_eq, List.drop_eq_getElem_cons hi, textR, e]
theorem con_no {d0 d1 d2 d3 d4 d5 : Dec} (h0 : DOk d0) (h1 : DOk d1) (h2 : DOk d2) (h3 : DOk d3) (h4 : DOk d4) (h5 : DOk d5) : gCon d0 d1 d2 d3 d4 d5 = false := by
  have b : ∀ {d : Dec}, DOk d → gBad d = false := fun hd => by rw [gBad, gPrinted, hd.some]; rfl
  rw [gCon, gIdx, b h0, b h1, b h2, b h3, b h4, b h5]
  rfl
theorem gAt_mem {L : List Glass} {i : Nat} (h : i < L.length) : gAt L i ∈ L := by
  unfold gAt
  rw [List.getD_eq_getElem?_getD, List.getElem?_eq_getElem h]
  exact List.getElem_mem h
theorem bad_no {L : List Glass} (hz : ∀ z ∈ L, GOk z) (hN : NmOk L) {i : Nat} (hi : i < L.length) : gBadAt (gAt L) i = false := by
  obtain ⟨h5, hn⟩ := hN
  have g := hz _ (gAt_mem hi)
  have hc := con_no g.b0 g.c0 g.b1 g.c1 g.b2 g.c2
  have hf : gFind (gAt L) (nameK i) i 0 = (Glass.zero, false) := gFind_no _ _ _ _ fun k _ hk => by
    rw [hn k (by omega)]
    exact name_ne k (by omega) i (by omega) (by omega)
  rw [gBadAt, hc, hn i hi, hf, name_air i (by omega), name_named i (by omega)]
  rfl
theorem right_all {L : List Glass} (hz : ∀ z ∈ L, GOk z) (hN : NmOk L) : gRight (gAt L) L.length = true := by
  have h : ∀ j i, i + j = L.length → gRightF (gAt L) j i = true := by
    intro j
    induction j with
    | zero => intro i _; rfl
    | succ j ih => intro i hi; rw [gRightF, bad_no hz hN (by omega), cond_false]; exact ih (i + 1) (by omega)
  rw [gRight, h L.length 0 (by omega), decide_eq_true (by have := hN.1; omega)]
  rfl
theorem print_all {L : List Glass} (hz : ∀ z ∈ L, GOk z) (hN : NmOk L) : gRead (gPrint (gAt L) L.length) = (L, (⟨0, 0⟩ : Cx), 0) := by
  rw [gPrint, right_all hz hN, cond_true, lines_eq L L.length 0 [] (by omega), List.nil_append, List.drop_zero]
  exact gRead_text hz hN
def hDecN : Nat → Int → Dec
  | 0, c => ⟨c, 0⟩
  | k + 1, c => bif (Int.tmod c 10) == 0 then hDecN k (w64 (Int.tdiv c 10)) else ⟨c, ((k + 1 : Nat) : Int)⟩
theorem hd_N : ∀ (k : Nat) (c : Int), -1000000000000 ≤ c → c ≤ 1000000000000 → HD k c (hDecN k c)
  | 0, c, _, _ => ⟨0, rfl, Nat.le_refl _, by show c * 1 = c; omega, .inl rfl⟩
  | k + 1, c, h1, h2 => by
    rw [hDecN]
    by_cases h : Int.tmod c 10 = 0
    · rw [beq_iff_eq.2 h, cond_true]
      have e := Int.mul_tdiv_add_tmod c 10
      obtain ⟨s, q1, q2, q3, q4⟩ := hd_N k (w64 (Int.tdiv c 10)) (by rw [w64_in (by omega)]; omega) (by rw [w64_in (by omega)]; omega)
      refine ⟨s, q1, by omega, ?_, q4⟩
      rw [show k + 1 - s = (k - s) + 1 by omega, Int.pow_succ, ← Int.mul_assoc, q3, w64_in (by omega)]
      omega
    · rw [beq_eq_false_iff_ne.2 h, cond_false]
      exact ⟨k + 1, rfl, Nat.le_refl _, by rw [Nat.sub_self]; show c * 1 = c; omega, .inr h⟩
theorem ok5 {c : Int} (h1 : -1000000 ≤ c) (h2 : c ≤ 1000000) : DOk (hDec5 c) := hd_ok (k := 5) (c := c) (hd_N 5 c (by omega) (by omega)) (by decide) (by omega)
theorem ok4 {c : Int} (h1 : -2000000 ≤ c) (h2 : c ≤ 2000000) : DOk (hDec4 c) := hd_ok (k := 4) (c := c) (hd_N 4 c (by omega) (by omega)) (by decide) (by omega)
theorem ok3 {c : Int} (h1 : -1000000 ≤ c) (h2 : c ≤ 1000000) : DOk (hDec3 c) := hd_ok (k := 3) (c := c) (hd_N 3 c (by omega) (by omega)) (by decide) (by omega)
theorem ok0 : DOk (⟨0, 0⟩ : Dec) := hd_ok (k := 0) (c := 0) (hd_N 0 0 (by omega) (by omega)) (by decide) (by decide)
theorem digK : ∀ i, i < 10 → Lib.decDigits i = [UInt8.ofNat (48 + i)] := fun i h => by rw [Lib.decDigits, dif_pos h]
theorem glE_name (i : Nat) (z : Int) (h : i < 3) : (hGlE i z).name = nameK (2 + i) := by
  show (⟨#[103]⟩ : ByteArray) ++ rDigs (i : Int) = _
  unfold rDigs
  rw [Int.toNat_natCast, digK i (by omega)]
  rcases (by omega : i = 0 ∨ i = 1 ∨ i = 2) with rfl | rfl | rfl <;> rfl
theorem glE_ok (i : Nat) (z : Int) (h : i < 3) : GOk (hGlE i z) := by
  have hn := glE_name i z h
  have p1 := hPick_lt z (m := 200000) (by omega) (by omega)
  have p2 := hPick_lt (w64 (Int.tdiv z 7)) (m := 50000) (by omega) (by omega)
  have p3 := hPick_lt (w64 (Int.tdiv z 11)) (m := 3000) (by omega) (by omega)
  have p4 := hPick_lt (w64 (Int.tdiv z 13)) (m := 9000) (by omega) (by omega)
  have p5 := hPick_lt (w64 (Int.tdiv z 17)) (m := 200000) (by omega) (by omega)
  exact ⟨by rw [hn]; exact (name_ok _ (by omega)).1, by rw [hn]; exact (name_ok _ (by omega)).2, ok5 (by omega) (by omega), ok5 (by omega) (by omega), ok5 (by omega) (by omega), ok5 (by omega) (by omega), ok0, ok3 (by rw [w64_in (by omega)]; omega) (by rw [w64_in (by omega)]; omega)⟩
theorem gl0_ok : ∀ z ∈ hGl0, GOk z := by
  intro z hz
  rcases List.mem_cons.1 hz with rfl | hz
  · exact ⟨(name_ok 0 (by decide)).1, (name_ok 0 (by decide)).2, ok5 (c := 103961) (by decide) (by decide), ok5 (c := 600) (by decide) (by decide), ok5 (c := 23179) (by decide) (by decide), ok5 (c := 2002) (by decide) (by decide), ok5 (c := 101047) (by decide) (by decide), ok4 (c := 1035607) (by decide) (by decide)⟩
  · obtain rfl := List.mem_singleton.1 hz
    exact ⟨(name_ok 1 (by decide)).1, (name_ok 1 (by decide)).2, ok5 (c := 173760) (by decide) (by decide), ok5 (c := 1319) (by decide) (by decide), ok5 (c := 31375) (by decide) (by decide), ok5 (c := 6231) (by decide) (by decide), ok5 (c := 189878) (by decide) (by decide), ok4 (c := 1552363) (by decide) (by decide)⟩
theorem glF_ok (x : Nat → Int) (N : Nat) : ∀ (r i : Nat), i + r = 3 → (∀ z ∈ hGlF x N r i, GOk z) ∧ ∀ k, k < (hGlF x N r i).length → (gAt (hGlF x N r i) k).name = nameK (2 + (i + k))
  | 0, i, _ => ⟨fun z hz => (nomatch hz), fun k hk => absurd hk (Nat.not_lt_zero _)⟩
  | r + 1, i, h => by
    rw [hGlF]
    cases hi : decide (i < N)
    · exact ⟨fun z hz => (nomatch hz), fun k hk => absurd hk (Nat.not_lt_zero _)⟩
    · obtain ⟨k1, k2⟩ := glF_ok x N r (i + 1) (by omega)
      rw [cond_true]
      refine ⟨fun z hz => ?_, fun k hk => ?_⟩
      · rcases List.mem_cons.1 hz with rfl | hz
        · exact glE_ok i (x i) (by omega)
        · exact k1 z hz
      · cases k with
        | zero => exact glE_name i (x i) (by omega)
        | succ k =>
          have e := k2 k (by rw [List.length_cons] at hk; omega)
          rw [show i + (k + 1) = i + 1 + k by omega]
          exact e
theorem hGl_ok (N : Nat) (x : Nat → Int) : (∀ z ∈ hGl N x, GOk z) ∧ NmOk (hGl N x) := by
  obtain ⟨k1, k2⟩ := glF_ok x N 3 0 rfl
  have hl := len_hGlF x N 3 0
  have h0 : hGl0.length = 2 := rfl
  unfold hGl
  refine ⟨fun z hz => (List.mem_append.1 hz).elim (gl0_ok z) (k1 z), by rw [List.length_append]; omega, fun i hi => ?_⟩
  rw [List.length_append] at hi
  by_cases h2 : i < 2
  · rw [gAt_app (by omega)]
    rcases (by omega : i = 0 ∨ i = 1) with rfl | rfl <;> rfl
  · have e := k2 (i - 2) (by omega)
    rw [show 2 + (0 + (i - 2)) = i by omega] at e
    rw [← e]
    unfold gAt
    rw [List.getD_eq_getElem?_getD, List.getD_eq_getElem?_getD, List.getElem?_append_right (by omega), h0]
end Go.Proofs.YtalffjplbhelcaaGreatDoor
namespace Go.Proofs.YtalffjplbhelcaaGreatDoor
open Go.RowKit
def noI64 (v : Value) : Bool := match v with
  | .int .i64 _ => false
  | _ => true
theorem pow_no : ∀ v ∈ (powBox 0).cs, noI64 v = true := by decide
theorem pow_args {W : World} {tP : Nat} {a1 : Option Addr} {N : Nat} (hT : At [powBox tP] W) (h1 : Ints W a1 N) : ∃ (NA : List Box) (x1 : Nat → Int), ArgI a1 N x1 NA ∧ (NA.all fun b => b.ro) = true ∧ At (powBox tP :: NA) W ∧ ((powBox tP :: NA).map Box.g).Nodup := by
  by_cases h0 : N = 0
  · exact ⟨[], fun _ => 0, .inl ⟨rfl, h0⟩, rfl, hT, by simp⟩
  · rcases h1 with h | ⟨b1, o1, rfl, cs1, t1, fr1, hh1, z1, hz1⟩
    · exact absurd h h0
    · have ht := hT (powBox tP) List.mem_cons_self
      refine ⟨[⟨b1, cs1, t1, true⟩], z1, .inr ⟨b1, o1, cs1, t1, rfl, rfl, hz1⟩, rfl, ?_, ?_⟩
      · intro c hc
        rcases List.mem_cons.1 hc with rfl | hc
        · exact ht
        · obtain rfl := List.mem_singleton.1 hc
          exact ⟨fr1, hh1⟩
      · have hne : (powBox tP).g ≠ b1 := by
          rintro rfl
          obtain ⟨fr, hp⟩ := ht
          have he := hp.symm.trans hh1
          have hcs : (powBox 0).cs = cs1 := by
            have h2 := Option.some.inj he
            injection h2 with h3 h4 h5
            exact congrArg Array.toList h3
          have hv := hz1 0 (by omega)
          rw [← hcs] at hv
          exact Bool.noConfusion (pow_no _ (List.mem_of_getElem? hv))
        show [(powBox tP).g, b1].Nodup
        simp [hne]
end Go.Proofs.YtalffjplbhelcaaGreatDoor
namespace Go.Proofs.YtalffjplbhelcaaGreatDoor
open Go.RowKit
theorem glassBack_calls {W : World} {tP : Nat} (hT : At [powBox tP] W) (a1 : Option Addr) (N cap : Nat) (h1 : Ints W a1 N) : Calls Tryz.prog 6 #[.slice a1 N cap] W fun e W' => e = .returned (.bool true) ∧ Below W.heap.size W W' := by
  obtain ⟨NA, x1, ha, hro, hA, hnd⟩ := pow_args hT h1
  obtain ⟨h2, h5⟩ := hGl_len N x1
  obtain ⟨hz, hN⟩ := hGl_ok N x1
  have hnm : ∀ i, (gAt (hGl N x1) i).name.size ≤ 100000 := gAt_name fun z hq => Nat.le_trans (hz z hq).short (by decide)
  exact (c_lawGlassBack a1 N cap tP x1 _ NA ha rfl h2 h5 hnm (print_all hz hN) (right_all hz hN) hro W hA hnd).mono fun e w' ⟨v, N', he, ⟨hv, _⟩, _, _, hb⟩ => ⟨by rw [he, hv], hb⟩
end Go.Proofs.YtalffjplbhelcaaGreatDoor
