import Derived.Test.YtalffjplbhelcaaGreatDoorMGlassKnown9
import Derived.Test.YtalffjplbhelcaaGreatDoorMGlassKnown10
import Derived.Test.YtalffjplbhelcaaGreatDoorMGlassKnown13
import Derived.Test.YtalffjplbhelcaaGreatDoorMGlassKnown8
import Derived.Test.YtalffjplbhelcaaGreatDoorMGlassKnown12
set_option linter.unusedVariables false
set_option linter.unusedSimpArgs false
namespace Go.Proofs.YtalffjplbhelcaaGreatDoor
def pl (d : Dec) : List UInt8 := (decPrint d).data.toList
structure DOk (d : Dec) : Prop where
  num : nOk (pl d) = true
  word : wOk (pl d) = false
  read : decRead (decPrint d) = (d, true)
  some : sEq (decPrint d) (⟨#[]⟩ : ByteArray) = false
  short : (decPrint d).size ≤ 20
theorem dig_in {b : UInt8} (h : IsDig b) : lexDigit (b.toNat : Int) = true ∧ lexInNum (b.toNat : Int) = true ∧ lexLetter (b.toNat : Int) = false := by
  obtain ⟨h1, h2⟩ := h
  have k : ∀ n : Nat, n < 256 → (48 ≤ n ∧ n ≤ 57) → lexDigit (n : Int) = true ∧ lexInNum (n : Int) = true ∧ lexLetter (n : Int) = false := by decide +kernel
  exact k b.toNat b.toNat_lt ⟨h1, h2⟩
theorem form_ok (mn : Bool) {W F : List UInt8} (h0 : W ≠ []) (hW : ∀ b ∈ W, IsDig b) (hF : ∀ b ∈ F, IsDig b) {d : Dec} (hr : decRead (byA (sgnL mn ++ (W ++ ptL F))) = (d, true)) : nOk (sgnL mn ++ (W ++ ptL F)) = true ∧ wOk (sgnL mn ++ (W ++ ptL F)) = false := by
  obtain ⟨b, r, rfl⟩ : ∃ b r, W = b :: r := by cases W with | nil => exact absurd rfl h0 | cons b r => exact ⟨b, r, rfl⟩
  have hb := dig_in (hW b List.mem_cons_self)
  have hP : ∀ c ∈ ptL F, lexInNum (c.toNat : Int) = true := by
    intro c hc
    unfold ptL at hc
    cases F with
    | nil => cases hc
    | cons f F =>
      rcases List.mem_cons.1 hc with rfl | hc
      · decide
      · exact (dig_in (hF c hc)).2.1
  have hR : ∀ c ∈ r ++ ptL F, lexInNum (c.toNat : Int) = true := fun c hc => (List.mem_append.1 hc).elim (fun h => (dig_in (hW c (List.mem_cons_of_mem _ h))).2.1) (hP c)
  cases mn
  · have e : sgnL false ++ ((b :: r) ++ ptL F) = b :: (r ++ ptL F) := rfl
    rw [e] at hr ⊢
    refine ⟨?_, ?_⟩
    · rw [nOk, hb.1, hr, List.all_eq_true.2 hR]; rfl
    · rw [wOk, hb.2.2]; rfl
  · have e : sgnL true ++ ((b :: r) ++ ptL F) = 45 :: (b :: (r ++ ptL F)) := rfl
    rw [e] at hr ⊢
    refine ⟨?_, ?_⟩
    · rw [nOk, hr, List.all_eq_true.2 (fun c hc => by
        rcases List.mem_cons.1 hc with rfl | hc
        · exact hb.2.1
        · exact hR c hc)]; rfl
    · rw [wOk, show lexLetter (((45 : UInt8).toNat : Nat) : Int) = false from by decide]; rfl
theorem low_dig : ∀ (s u : Nat), ∀ b ∈ low u s, IsDig b
  | 0, u, b, h => by cases h
  | s + 1, u, b, h => by
    rw [low] at h
    rcases List.mem_append.1 h with h | h
    · exact low_dig s _ b h
    · obtain rfl := List.mem_singleton.1 h
      exact isDig_of (Nat.mod_lt _ (by decide))
theorem digs_len {n : Nat} (h : n < 100000) : (Lib.decDigits n).length ≤ 5 := dg_len 4 n (by omega)
theorem dok {d : Dec} (h : decRight d = true) (hq : d.c.natAbs / 10 ^ d.scale.toNat < 100000) : DOk d := by
  have hp := print_parts h
  rw [decide_eq_false (by omega), cond_false] at hp
  have hw := (decDig_all (d.c.natAbs / 10 ^ d.scale.toNat))
  have hs := dr_bounds h
  have hlen := digs_len hq
  have hlo := low_len d.scale.toNat d.c.natAbs
  have hld := low_dig d.scale.toNat d.c.natAbs
  generalize Lib.decDigits (d.c.natAbs / 10 ^ d.scale.toNat) = W at *
  generalize low d.c.natAbs d.scale.toNat = F at *
  have hne : decPrint d ≠ (⟨#[]⟩ : ByteArray) := by
    rw [hp]
    intro e
    have h9 : (sgnL (decide (d.c < 0)) ++ (W ++ ptL F)).length = 0 := congrArg ByteArray.size e
    have h8 := List.length_pos_iff.2 hw.2.2
    rw [List.length_append, List.length_append] at h9
    omega
  have hr := print_back h hne
  have hr2 := hr
  rw [hp] at hr2
  obtain ⟨k1, k2⟩ := form_ok (decide (d.c < 0)) hw.2.2 hw.1 hld hr2
  have epl : pl d = sgnL (decide (d.c < 0)) ++ (W ++ ptL F) := by
    unfold pl
    rw [hp]; rfl
  refine ⟨by rw [epl]; exact k1, by rw [epl]; exact k2, hr, ?_, ?_⟩
  · cases e : sEq (decPrint d) (⟨#[]⟩ : ByteArray)
    · rfl
    · exact absurd ((sEq_iff _ _).1 e) hne
  · rw [hp]
    show (sgnL (decide (d.c < 0)) ++ (W ++ ptL F)).length ≤ 20
    have l1 : (sgnL (decide (d.c < 0))).length ≤ 1 := by cases decide (d.c < 0) <;> decide
    have l2 : (ptL F).length ≤ F.length + 1 := by
      unfold ptL
      cases F with
      | nil => decide
      | cons f F => simp
    rw [List.length_append, List.length_append]
    omega
def HD (k : Nat) (c : Int) (d : Dec) : Prop := ∃ s : Nat, d.scale = (s : Int) ∧ s ≤ k ∧ d.c * (10 : Int) ^ (k - s) = c ∧ (s = 0 ∨ d.c.tmod 10 ≠ 0)
theorem hd_ok {k : Nat} {c : Int} {d : Dec} (h : HD k c d) (hk : k ≤ 5) (hc : c.natAbs < 100000 * 10 ^ k) : DOk d := by
  obtain ⟨s, h1, h2, h3, h4⟩ := h
  have e : d.c.natAbs * 10 ^ (k - s) = c.natAbs := by
    rw [← h3, Int.natAbs_mul, Int.natAbs_pow]; rfl
  have hp : 0 < 10 ^ (k - s) := Nat.pow_pos (by decide)
  have hlt : d.c.natAbs < 100000 * 10 ^ s := by
    have e2 : 10 ^ k = 10 ^ s * 10 ^ (k - s) := by rw [← Nat.pow_add]; congr 1; omega
    rw [← e, e2, ← Nat.mul_assoc] at hc
    exact Nat.lt_of_mul_lt_mul_right hc
  have hs5 : 10 ^ s ≤ 10 ^ 5 := Nat.pow_le_pow_right (by decide) (by omega)
  have hR : decRight d = true := by
    have hb : d.c.natAbs < 10000000000 := by omega
    unfold decRight
    rw [decide_eq_true (show d.c ≥ _ by omega), decide_eq_true (show d.c ≤ _ by omega), decide_eq_true (show d.scale ≥ 0 by omega), decide_eq_true (show d.scale ≤ 6 by omega)]
    rcases h4 with h4 | h4
    · rw [show (d.scale == 0) = true from beq_iff_eq.2 (by omega)]; rfl
    · rw [show (Int.tmod d.c 10 != 0) = true from bne_iff_ne.2 h4]
      cases d.scale == 0 <;> rfl
  refine dok hR ?_
  rw [h1, Int.toNat_natCast]
  exact Nat.div_lt_of_lt_mul (by rw [Nat.mul_comm]; exact hlt)
def gw : List UInt8 := [103, 108, 97, 115, 115]
def lineR (z : Glass) (r : List UInt8) : List UInt8 := gw ++ 32 :: (z.name.data.toList ++ 32 :: (pl z.b.d0 ++ 32 :: (pl z.c.d0 ++ 32 :: (pl z.b.d1 ++ 32 :: (pl z.c.d1 ++ 32 :: (pl z.b.d2 ++ 32 :: (pl z.c.d2 ++ 10 :: r)))))))
def textR : List Glass → List UInt8
  | [] => []
  | z :: zs => lineR z (textR zs)
def toksZ (z : Glass) : List (Int × ByteArray) := [(1, byA gw), (1, z.name), (2, decPrint z.b.d0), (2, decPrint z.c.d0), (2, decPrint z.b.d1), (2, decPrint z.c.d1), (2, decPrint z.b.d2), (2, decPrint z.c.d2), (3, ⟨#[]⟩)]
structure GOk (z : Glass) : Prop where
  name : wOk z.name.data.toList = true
  short : z.name.size ≤ 20
  b0 : DOk z.b.d0
  c0 : DOk z.c.d0
  b1 : DOk z.b.d1
  c1 : DOk z.c.d1
  b2 : DOk z.b.d2
  c2 : DOk z.c.d2
theorem gFind_no (x : Nat → Glass) (nm : ByteArray) : ∀ (j i : Nat), (∀ k, i ≤ k → k < i + j → sEq (x k).name nm = false) → gFind x nm j i = (Glass.zero, false)
  | 0, _, _ => rfl
  | j + 1, i, h => by rw [gFind, h i (Nat.le_refl _) (by omega), cond_false, gFind_no x nm j (i + 1) (fun k h1 h2 => h k (by omega) (by omega))]
def KT (z : Glass) (y : Nat → Tok) : Prop := ∀ i, i < 9 → kt (y i) = (toksZ z).getD i (0, ⟨#[]⟩)
theorem kt_at {z : Glass} {y : Nat → Tok} (h : KT z y) (i : Nat) (hi : i < 9) {a : Int} {b : ByteArray} (e : (toksZ z).getD i (0, ⟨#[]⟩) = (a, b)) : (y i).kind = a ∧ (y i).text = b := by
  have h1 := (h i hi).trans e
  unfold kt at h1
  injection h1 with h2 h3
  exact ⟨h2, h3⟩
theorem gNums_step {y : Nat → Tok} {j k : Nat} {z : Glass} {d : Dec} (hd : DOk d) (h : (y (2 + k)).kind = 2 ∧ (y (2 + k)).text = decPrint d) : gNums y (j + 1) k z = gNums y j (k + 1) (setK z k d) := by
  rw [gNums, h.1, h.2, hd.read]
  rfl
theorem one_read {m : Nat} {x : Nat → Glass} {y : Nat → Tok} {z : Glass} (hz : GOk z) (hy : KT z y) (hf : (gFind x z.name m 0).2 = false) (ha : sEq z.name (⟨#[97, 105, 114]⟩ : ByteArray) = false) (hm : m ≠ 30) : gOne m x y = (z, true, (⟨0, 0⟩ : Cx), 0) := by
  have e0 := kt_at hy 0 (by decide) rfl
  have e1 := kt_at hy 1 (by decide) rfl
  have e2 := kt_at hy (2 + 0) (by decide) rfl
  have e3 := kt_at hy (2 + 1) (by decide) rfl
  have e4 := kt_at hy (2 + 2) (by decide) rfl
  have e5 := kt_at hy (2 + 3) (by decide) rfl
  have e6 := kt_at hy (2 + 4) (by decide) rfl
  have e7 := kt_at hy (2 + 5) (by decide) rfl
  have e8 := kt_at hy 8 (by decide) rfl
  have hn : gName m x (y 1) = 0 := by
    rw [gName, e1.1, e1.2, hf, ha, show ((m : Int) == 30) = false from beq_eq_false_iff_ne.2 (by omega)]
    rfl
  have hg : sEq (byA gw) (⟨#[103, 108, 97, 115, 115]⟩ : ByteArray) = true := (sEq_iff _ _).2 rfl
  rw [gOne, e0.1, e0.2, hg, hn, e1.2, gNums_step hz.b0 e2, gNums_step hz.c0 e3, gNums_step hz.b1 e4, gNums_step hz.c1 e5, gNums_step hz.b2 e6, gNums_step hz.c2 e7, gNums, e8.1]
  rfl
theorem gAt_app {l zs : List Glass} {i : Nat} (h : i < l.length) : gAt (l ++ zs) i = gAt l i := by
  unfold gAt
  rw [List.getD_eq_getElem?_getD, List.getD_eq_getElem?_getD, List.getElem?_append_left h]
theorem gAt_mid {l zs : List Glass} {z : Glass} : gAt (l ++ z :: zs) l.length = z := by
  unfold gAt
  rw [List.getD_eq_getElem?_getD, List.getElem?_append_right (Nat.le_refl _), Nat.sub_self]
  rfl
def KTs : List Glass → (Nat → Tok) → Prop
  | [], _ => True
  | z :: zs, y => KT z y ∧ KTs zs (fun i => y (i + 9))
theorem kts_of : ∀ (zs : List Glass) (T : List Tok), T.map kt = zs.flatMap toksZ → KTs zs (fun i => T.getD i Tok.nil) ∧ T.length = 9 * zs.length
  | [], T, h => by
    have h0 : T = [] := List.map_eq_nil_iff.1 h
    subst h0
    exact ⟨trivial, rfl⟩
  | z :: zs, T, h => by
    have hl9 : (toksZ z).length = 9 := rfl
    rw [List.flatMap_cons] at h
    have hl := congrArg List.length h
    rw [List.length_map, List.length_append, hl9] at hl
    have hd : (T.drop 9).map kt = zs.flatMap toksZ := by rw [List.map_drop, h, ← hl9, List.drop_left]
    obtain ⟨k1, k2⟩ := kts_of zs (T.drop 9) hd
    rw [List.length_drop] at k2
    have e9 : (fun i => (T.drop 9).getD i Tok.nil) = (fun i => T.getD (i + 9) Tok.nil) := by
      funext i
      rw [List.getD_eq_getElem?_getD, List.getD_eq_getElem?_getD, List.getElem?_drop, Nat.add_comm]
    rw [e9] at k1
    refine ⟨⟨fun i hi => ?_, k1⟩, by rw [List.length_cons]; omega⟩
    have hT : i < T.length := by omega
    have e1 : (T.map kt)[i]? = (toksZ z ++ zs.flatMap toksZ)[i]? := by rw [h]
    rw [List.getElem?_map, List.getElem?_append_left (by omega), List.getElem?_eq_getElem hT, Option.map_some] at e1
    show kt (T.getD i Tok.nil) = _
    rw [List.getD_eq_getElem?_getD, List.getD_eq_getElem?_getD, List.getElem?_eq_getElem hT, ← e1]
    rfl
def hDecN : Nat → Int → Dec
  | 0, c => ⟨c, 0⟩
  | k + 1, c => bif (Int.tmod c 10) == 0 then hDecN k (w64 (Int.tdiv c 10)) else ⟨c, ((k + 1 : Nat) : Int)⟩
theorem hd_N : ∀ (k : Nat) (c : Int), -1000000000000 ≤ c → c ≤ 1000000000000 → HD k c (hDecN k c)
  | 0, c, _, _ => ⟨0, rfl, Nat.le_refl _, by show c * 1 = c; omega, .inl rfl⟩
  | k + 1, c, h1, h2 => by
    rw [hDecN]
    by_cases h : Int.tmod c 10 = 0
    · rw [beq_iff_eq.2 h, cond_true]
      have e := Int.mul_tdiv_add_tmod c 10
      obtain ⟨s, q1, q2, q3, q4⟩ := hd_N k (w64 (Int.tdiv c 10)) (by rw [w64_in (by omega)]; omega) (by rw [w64_in (by omega)]; omega)
      refine ⟨s, q1, by omega, ?_, q4⟩
      rw [show k + 1 - s = (k - s) + 1 by omega, Int.pow_succ, ← Int.mul_assoc, q3, w64_in (by omega)]
      omega
    · rw [beq_eq_false_iff_ne.2 h, cond_false]
      exact ⟨k + 1, rfl, Nat.le_refl _, by rw [Nat.sub_self]; show c * 1 = c; omega, .inr h⟩
theorem ok0 : DOk (⟨0, 0⟩ : Dec) := hd_ok (k := 0) (c := 0) (hd_N 0 0 (by omega) (by omega)) (by decide) (by decide)
end Go.Proofs.YtalffjplbhelcaaGreatDoor
namespace Go.Proofs.YtalffjplbhelcaaGreatDoor
open Go.RowKit
attribute [local irreducible] AC AR DWalk
set_option maxRecDepth 100000 in
set_option maxHeartbeats 1000000 in
theorem km_go (v3 v4 v5 v6 v7 v8 v9 v10 v11 v12 : Value) (S : ByteArray) (i : Nat) (hi : i < 31) (hS : S.size ≤ 10000) {H : List Box} {Q : Exit → Env → List Box → Prop} {E : Env} {c : Code} {j : Nat} (hc : Tryz.f4.body.bind loopOf = some c) (q1 : E 1 = .func (.func 20) #[] #[]) (q2 : E 2 = .string (⟨#[32, 49, 32, 48, 32, 48, 32, 49, 32, 48, 32, 49, 10]⟩ : ByteArray)) (q3 : E 3 = v3) (q4 : E 4 = v4) (q5 : E 5 = v5) (q6 : E 6 = v6) (q7 : E 7 = v7) (q8 : E 8 = v8) (q9 : E 9 = v9) (q10 : E 10 = v10) (q11 : E 11 = v11) (q12 : E 12 = v12) (q13 : E 13 = .string S) (q14 : E 14 = .int .i64 (i : Int)) (K : ∀ E' : Env, E' 1 = .func (.func 20) #[] #[] → E' 2 = .string (⟨#[32, 49, 32, 48, 32, 48, 32, 49, 32, 48, 32, 49, 10]⟩ : ByteArray) → E' 3 = v3 → E' 4 = v4 → E' 5 = v5 → E' 6 = v6 → E' 7 = v7 → E' 8 = v8 → E' 9 = v9 → E' 10 = v10 → E' 11 = v11 → E' 12 = v12 → E' 13 = .string (((S ++ (⟨#[103, 108, 97, 115, 115, 32, 113]⟩ : ByteArray)) ++ (rDigs (i : Int))) ++ (⟨#[32, 49, 32, 48, 32, 48, 32, 49, 32, 48, 32, 49, 10]⟩ : ByteArray)) → E' 14 = .int .i64 ((i + 1 : Nat) : Int) → ARounds Tryz.prog 204 c Q j E' H) : ARounds Tryz.prog 204 c Q (j + 1) E H := by
 rw [show Tryz.f4.body.bind loopOf = some _ from rfl] at hc
 cases hc
 obtain ⟨E0, rfl⟩ : ∃ E0 : Env, E = ((((((((((((((E0.put (some 1) (.func (.func 20) #[] #[])).put (some 2) (.string (⟨#[32, 49, 32, 48, 32, 48, 32, 49, 32, 48, 32, 49, 10]⟩ : ByteArray))).put (some 3) (v3)).put (some 4) (v4)).put (some 5) (v5)).put (some 6) (v6)).put (some 7) (v7)).put (some 8) (v8)).put (some 9) (v9)).put (some 10) (v10)).put (some 11) (v11)).put (some 12) (v12)).put (some 13) (.string S)).put (some 14) (.int .i64 (i : Int))) := ⟨E, by rw [put_self q1, put_self q2, put_self q3, put_self q4, put_self q5, put_self q6, put_self q7, put_self q8, put_self q9, put_self q10, put_self q11, put_self q12, put_self q13, put_self q14]⟩
 refine ar_round (aQ (aQ (aL (aM 61 (.int .i64 (i : Int)) rfl rfl (aB 62 (.bool (decide ((i : Int) < 31))) rfl rfl rfl (bi_lss rfl) (aN (ac_then' (b := decide ((i : Int) < 31)) (decide_eq_true (by omega)) rfl (ac_skip (aQ (ac_block (aL (aM 65 (.string S) rfl rfl (aB 66 (.string (S ++ (⟨#[103, 108, 97, 115, 115, 32, 113]⟩ : ByteArray))) rfl rfl rfl (bi_sadd (sz_two hS (show ((⟨#[103, 108, 97, 115, 115, 32, 113]⟩ : ByteArray)).size ≤ 7 from Nat.le_refl _) (by decide))) (aM 67 (.int .i64 (i : Int)) rfl rfl (aC 68 (c_rDigI (i : Int) (by omega)) Tryz.func22 ⟨rfl, by decide⟩ rfl rfl ?_)))))))))))))))
 refine aB 69 (.string ((S ++ (⟨#[103, 108, 97, 115, 115, 32, 113]⟩ : ByteArray)) ++ (rDigs (i : Int)))) rfl rfl rfl (bi_sadd (sz_two (sz_add hS (show ((⟨#[103, 108, 97, 115, 115, 32, 113]⟩ : ByteArray)).size ≤ 7 from Nat.le_refl _)) (rDigs_sz (show 0 ≤ ((i : Int) : Int) ∧ ((i : Int) : Int) < 1000000000000000000 by omega)) (by decide))) (aM 70 (.string (⟨#[32, 49, 32, 48, 32, 48, 32, 49, 32, 48, 32, 49, 10]⟩ : ByteArray)) rfl rfl ?_)
 refine aB 71 (.string (((S ++ (⟨#[103, 108, 97, 115, 115, 32, 113]⟩ : ByteArray)) ++ (rDigs (i : Int))) ++ (⟨#[32, 49, 32, 48, 32, 48, 32, 49, 32, 48, 32, 49, 10]⟩ : ByteArray))) rfl rfl rfl (bi_sadd (sz_two (sz_add (sz_add hS (show ((⟨#[103, 108, 97, 115, 115, 32, 113]⟩ : ByteArray)).size ≤ 7 from Nat.le_refl _)) (rDigs_sz (show 0 ≤ ((i : Int) : Int) ∧ ((i : Int) : Int) < 1000000000000000000 by omega))) (show ((⟨#[32, 49, 32, 48, 32, 48, 32, 49, 32, 48, 32, 49, 10]⟩ : ByteArray)).size ≤ 13 from Nat.le_refl _) (by decide))) ?_
 refine aA 13 (.string (((S ++ (⟨#[103, 108, 97, 115, 115, 32, 113]⟩ : ByteArray)) ++ (rDigs (i : Int))) ++ (⟨#[32, 49, 32, 48, 32, 48, 32, 49, 32, 48, 32, 49, 10]⟩ : ByteArray))) rfl rfl (aN (aL (aM 63 (.int .i64 (i : Int)) rfl rfl (aB 64 (.int .i64 (w64 ((i : Int) + 1))) rfl rfl rfl (bi_add rfl) (aA 14 (.int .i64 (w64 ((i : Int) + 1))) rfl rfl (aN ?_))))))
 exact K _ rfl rfl rfl rfl rfl rfl rfl rfl rfl rfl rfl rfl rfl (by show Value.int _ _ = _; rw [w64_in (by omega)]; rfl)
set_option maxRecDepth 100000 in
theorem km_end (v3 v4 v5 v6 v7 v8 v9 v10 v11 v12 : Value) (S : ByteArray) {H : List Box} {Q : Exit → Env → List Box → Prop} {E : Env} {c : Code} {j : Nat} (hc : Tryz.f4.body.bind loopOf = some c) (q1 : E 1 = .func (.func 20) #[] #[]) (q2 : E 2 = .string (⟨#[32, 49, 32, 48, 32, 48, 32, 49, 32, 48, 32, 49, 10]⟩ : ByteArray)) (q3 : E 3 = v3) (q4 : E 4 = v4) (q5 : E 5 = v5) (q6 : E 6 = v6) (q7 : E 7 = v7) (q8 : E 8 = v8) (q9 : E 9 = v9) (q10 : E 10 = v10) (q11 : E 11 = v11) (q12 : E 12 = v12) (q13 : E 13 = .string S) (q14 : E 14 = .int .i64 31) (K : ∀ E' : Env, E' 1 = .func (.func 20) #[] #[] → E' 3 = v3 → E' 4 = v4 → E' 5 = v5 → E' 6 = v6 → E' 7 = v7 → E' 8 = v8 → E' 9 = v9 → E' 10 = v10 → E' 11 = v11 → E' 12 = v12 → E' 13 = .string S → Q (.exit 0) E' H) : ARounds Tryz.prog 204 c Q (j + 1) E H := by
 rw [show Tryz.f4.body.bind loopOf = some _ from rfl] at hc
 cases hc
 obtain ⟨E0, rfl⟩ : ∃ E0 : Env, E = ((((((((((((((E0.put (some 1) (.func (.func 20) #[] #[])).put (some 2) (.string (⟨#[32, 49, 32, 48, 32, 48, 32, 49, 32, 48, 32, 49, 10]⟩ : ByteArray))).put (some 3) (v3)).put (some 4) (v4)).put (some 5) (v5)).put (some 6) (v6)).put (some 7) (v7)).put (some 8) (v8)).put (some 9) (v9)).put (some 10) (v10)).put (some 11) (v11)).put (some 12) (v12)).put (some 13) (.string S)).put (some 14) (.int .i64 31)) := ⟨E, by rw [put_self q1, put_self q2, put_self q3, put_self q4, put_self q5, put_self q6, put_self q7, put_self q8, put_self q9, put_self q10, put_self q11, put_self q12, put_self q13, put_self q14]⟩
 refine ar_round (aQ (aQ (aL (aM 61 (.int .i64 31) rfl rfl (aB 62 (.bool false) rfl rfl rfl (bi_lss (by decide)) (aN (ac_else rfl (ac_exit ?_))))))))
 exact K _ rfl rfl rfl rfl rfl rfl rfl rfl rfl rfl rfl rfl
def manyS : Nat → ByteArray
 | 0 => ⟨#[]⟩
 | i + 1 => ((manyS i ++ (⟨#[103, 108, 97, 115, 115, 32, 113]⟩ : ByteArray)) ++ (rDigs (i : Int))) ++ (⟨#[32, 49, 32, 48, 32, 48, 32, 49, 32, 48, 32, 49, 10]⟩ : ByteArray)
theorem many_0 : manyS 0 = ⟨#[]⟩ := rfl
theorem many_sz : ∀ i : Nat, i ≤ 31 → (manyS i).size ≤ 40 * i
 | 0, _ => Nat.le_refl _
 | i + 1, h => by
  have h1 := many_sz i (by omega)
  have h2 := rDigs_sz (x := (i : Int)) (by omega)
  have h3 : ((⟨#[103, 108, 97, 115, 115, 32, 113]⟩ : ByteArray)).size = 7 := rfl
  have h4 : ((⟨#[32, 49, 32, 48, 32, 48, 32, 49, 32, 48, 32, 49, 10]⟩ : ByteArray)).size = 13 := rfl
  rw [manyS, ByteArray.size_append', ByteArray.size_append', ByteArray.size_append']
  omega
def dgT (i : Nat) : ByteArray := bif decide (i < 10) then ⟨#[UInt8.ofNat (48 + i)]⟩ else ⟨#[UInt8.ofNat (48 + i / 10), UInt8.ofNat (48 + i % 10)]⟩
theorem dgT_eq {i : Nat} (h : i < 100) : rDigs (i : Int) = dgT i := by
 unfold rDigs dgT
 rw [Int.toNat_natCast, Lib.decDigits]
 by_cases h1 : i < 10
 ·rw [dif_pos h1, decide_eq_true h1]; rfl
 ·rw [dif_neg h1, decide_eq_false h1, Lib.decDigits, dif_pos (show i / 10 < 10 by omega)]; rfl
def manyT : Nat → ByteArray
 | 0 => ⟨#[]⟩
 | i + 1 => ((manyT i ++ (⟨#[103, 108, 97, 115, 115, 32, 113]⟩ : ByteArray)) ++ dgT i) ++ (⟨#[32, 49, 32, 48, 32, 48, 32, 49, 32, 48, 32, 49, 10]⟩ : ByteArray)
theorem many_eq : ∀ i : Nat, i ≤ 31 → manyS i = manyT i
 | 0, _ => rfl
 | i + 1, h => by rw [manyS, manyT, many_eq i (by omega), dgT_eq (by omega)]
theorem km_loop (v3 v4 v5 v6 v7 v8 v9 v10 v11 v12 : Value) {H : List Box} {Q : Exit → Env → List Box → Prop} {c : Code} (hc : Tryz.f4.body.bind loopOf = some c) (K : ∀ E' : Env, E' 1 = .func (.func 20) #[] #[] → E' 3 = v3 → E' 4 = v4 → E' 5 = v5 → E' 6 = v6 → E' 7 = v7 → E' 8 = v8 → E' 9 = v9 → E' 10 = v10 → E' 11 = v11 → E' 12 = v12 → E' 13 = .string (manyS 31) → Q (.exit 0) E' H) :
  ∀ (j i : Nat) (E : Env), i + j = 31 → E 1 = .func (.func 20) #[] #[] → E 2 = .string (⟨#[32, 49, 32, 48, 32, 48, 32, 49, 32, 48, 32, 49, 10]⟩ : ByteArray) → E 3 = v3 → E 4 = v4 → E 5 = v5 → E 6 = v6 → E 7 = v7 → E 8 = v8 → E 9 = v9 → E 10 = v10 → E 11 = v11 → E 12 = v12 → E 13 = .string (manyS i) → E 14 = .int .i64 (i : Int) → ARounds Tryz.prog 204 c Q (j + 1) E H := by
 intro j
 induction j with
 | zero =>
  intro i E hk q1 q2 q3 q4 q5 q6 q7 q8 q9 q10 q11 q12 q13 q14
  obtain rfl : i = 31 := by omega
  exact km_end v3 v4 v5 v6 v7 v8 v9 v10 v11 v12 (manyS 31) hc q1 q2 q3 q4 q5 q6 q7 q8 q9 q10 q11 q12 q13 q14 K
 | succ j ih =>
  intro i E hk q1 q2 q3 q4 q5 q6 q7 q8 q9 q10 q11 q12 q13 q14
  exact km_go v3 v4 v5 v6 v7 v8 v9 v10 v11 v12 (manyS i) i (by omega) (Nat.le_trans (many_sz i (by omega)) (by omega)) hc q1 q2 q3 q4 q5 q6 q7 q8 q9 q10 q11 q12 q13 q14 (fun E' f1 f2 f3 f4 f5 f6 f7 f8 f9 f10 f11 f12 f13 f14 => ih (i + 1) E' (by omega) f1 f2 f3 f4 f5 f6 f7 f8 f9 f10 f11 f12 f13 f14)
end Go.Proofs.YtalffjplbhelcaaGreatDoor
namespace Go.Proofs.YtalffjplbhelcaaGreatDoor
def LxA (s : ByteArray) (i : Nat) (line start : Int) (any_ : Bool) (T : List Tok) : Prop := i ≤ s.size ∧ ∀ (n : Nat) (out : List Tok), s.size - i < n → lexRun s n i line start any_ out = (out ++ T, (⟨0, 0⟩ : Cx), 0)
section
variable {s : ByteArray} {i : Nat} {line start : Int} {any_ : Bool} {T : List Tok} {r : List UInt8}
theorem lxA_end (h : restL s i = []) (hi : i ≤ s.size) : LxA s i line start false [] := ⟨hi, fun n out hn => by
  obtain ⟨n, rfl⟩ : ∃ n', n = n' + 1 := ⟨n - 1, by omega⟩
  rw [lex_end h hi, List.append_nil]
  rfl⟩
theorem lxA_blank (h : restL s i = 32 :: r) (k : LxA s (i + 1) line start any_ T) : LxA s i line start any_ T := by
  obtain ⟨h1, _, h3⟩ := rest_cons h
  refine ⟨by omega, fun n out hn => ?_⟩
  obtain ⟨n, rfl⟩ : ∃ n', n = n' + 1 := ⟨n - 1, by omega⟩
  rw [lex_blank h (.inl rfl)]
  exact k.2 n out (by omega)
theorem lxA_feed (h : restL s i = 10 :: r) (k : LxA s (i + 1) (w64 (line + 1)) ((i + 1 : Nat) : Int) false T) : LxA s i line start true (⟨3, ⟨#[]⟩, lexHere i line start⟩ :: T) := by
  obtain ⟨h1, _, h3⟩ := rest_cons h
  refine ⟨by omega, fun n out hn => ?_⟩
  obtain ⟨n, rfl⟩ : ∃ n', n = n' + 1 := ⟨n - 1, by omega⟩
  rw [lex_feed h, cond_true, k.2 n _ (by omega), List.append_assoc]
  rfl
theorem lxA_word {l : List UInt8} {c : UInt8} (hs : s.size ≤ 4000) (h : restL s i = l ++ c :: r) (hw : wOk l = true) (hc : lexInWord (c.toNat : Int) = false) (k : LxA s (i + l.length) line start true T) : LxA s i line start any_ (⟨1, byA l, lexHere i line start⟩ :: T) := by
  cases l with
  | nil => cases hw
  | cons b w =>
    have h5 := (rest_cons (rest_add h)).1
    have h6 : (b :: w).length = w.length + 1 := rfl
    simp only [wOk, Bool.and_eq_true, List.all_eq_true, decide_eq_true_eq] at hw
    refine ⟨by omega, fun n out hn => ?_⟩
    obtain ⟨n, rfl⟩ : ∃ n', n = n' + 1 := ⟨n - 1, by omega⟩
    rw [lex_word h hw.1 hw.2.1 (.inr ⟨c, r, rfl, hc⟩) (by omega) hs, k.2 n _ (by omega), List.append_assoc]
    rfl
theorem lxA_num {l : List UInt8} {c : UInt8} (h : restL s i = l ++ c :: r) (hw : nOk l = true) (hc : lexInNum (c.toNat : Int) = false) (k : LxA s (i + l.length) line start true T) : LxA s i line start any_ (⟨2, byA l, lexHere i line start⟩ :: T) := by
  cases l with
  | nil => cases hw
  | cons b w =>
    have h5 := (rest_cons (rest_add h)).1
    have h6 : (b :: w).length = w.length + 1 := rfl
    simp only [nOk, Bool.and_eq_true, Bool.or_eq_true, beq_iff_eq, List.all_eq_true] at hw
    refine ⟨by omega, fun n out hn => ?_⟩
    obtain ⟨n, rfl⟩ : ∃ n', n = n' + 1 := ⟨n - 1, by omega⟩
    rw [lex_num h hw.1 hw.2.1 (.inr ⟨c, r, rfl, hc⟩) hw.2.2, k.2 n _ (by omega), List.append_assoc]
    rfl
theorem rest_1 {b : UInt8} (h : restL s i = b :: r) : restL s (i + 1) = r := (rest_cons h).2.2
theorem lxA_line {z : Glass} (hs : s.size ≤ 4000) (hz : GOk z) (h : restL s i = lineR z r) (k : ∀ j, j ≤ s.size → restL s j = r → LxA s j (w64 (line + 1)) (j : Int) false T) : ∃ T9 : List Tok, T9.map kt = toksZ z ∧ (T9.getD 1 Tok.nil).at_ = lexHere (i + 6) line start ∧ LxA s i line start false (T9 ++ T) := by
  unfold lineR at h
  have b1 := rest_add h
  have b2 := rest_1 b1
  have b3 := rest_add b2
  have b4 := rest_1 b3
  have c1 := rest_add b4
  have c2 := rest_1 c1
  have d1 := rest_add c2
  have d2 := rest_1 d1
  have e1 := rest_add d2
  have e2 := rest_1 e1
  have f1 := rest_add e2
  have f2 := rest_1 f1
  have g1 := rest_add f2
  have g2 := rest_1 g1
  have l1 := rest_add g2
  have l2 := rest_1 l1
  have q := lxA_feed (line := line) (start := start) l1 (k _ (rest_cons l1).1 l2)
  have q := lxA_num (any_ := true) g2 hz.c2.num (by decide) q
  have q := lxA_num (any_ := true) f2 hz.b2.num (by decide) (lxA_blank g1 q)
  have q := lxA_num (any_ := true) e2 hz.c1.num (by decide) (lxA_blank f1 q)
  have q := lxA_num (any_ := true) d2 hz.b1.num (by decide) (lxA_blank e1 q)
  have q := lxA_num (any_ := true) c2 hz.c0.num (by decide) (lxA_blank d1 q)
  have q := lxA_num (any_ := true) b4 hz.b0.num (by decide) (lxA_blank c1 q)
  have q := lxA_word (any_ := true) hs b2 hz.name (by decide) (lxA_blank b3 q)
  have q := lxA_word (any_ := false) hs h (show wOk gw = true by decide) (by decide) (lxA_blank b1 q)
  exact ⟨[_, _, _, _, _, _, _, _, _], rfl, rfl, q⟩
end
theorem lxA_all {s : ByteArray} {T : List Tok} (hs : s.size ≤ 4000) (h : LxA s 0 1 0 false T) : lexAll s = (T, (⟨0, 0⟩ : Cx), 0) := by
  rw [lexAll, decide_eq_false (by omega), cond_false, h.2 (s.size + 1) [] (by omega)]
  rfl
theorem here7 (i : Nat) (line : Int) : lexHere (i + 6) line (i : Int) = place line 7 := by
  unfold lexHere
  rw [w64_in (n := ((i + 6 : Nat) : Int) - (i : Int)) (by omega), w64_in (by omega)]
  congr 1
  omega
theorem lxA_lines {s : ByteArray} (hs : s.size ≤ 4000) (z : Glass) (hz : GOk z) : ∀ (zs : List Glass) (i : Nat) (line : Int), (∀ q ∈ zs, GOk q) → 0 ≤ line → line + zs.length ≤ 100000 → restL s i = textR (zs ++ [z]) →
    ∃ T T9 : List Tok, T.map kt = zs.flatMap toksZ ∧ T9.map kt = toksZ z ∧ (T9.getD 1 Tok.nil).at_ = place (line + zs.length) 7 ∧ LxA s i line (i : Int) false (T ++ T9)
  | [], i, line, _, h0, h1, h => by
    obtain ⟨T9, k1, k2, k3⟩ := lxA_line (line := line) (start := (i : Int)) (T := []) hs hz (r := []) h (fun j h9 hj => lxA_end hj h9)
    rw [List.append_nil] at k3
    exact ⟨[], T9, rfl, k1, by rw [k2, here7]; congr 1; simp, k3⟩
  | y :: ys, i, line, hy, h0, h1, h => by
    rw [List.length_cons] at h1
    have hw : w64 (line + 1) = line + 1 := w64_in (by omega)
    have ih := lxA_lines hs z hz ys
    have key : ∃ T T9 : List Tok, T.map kt = ys.flatMap toksZ ∧ T9.map kt = toksZ z ∧ (T9.getD 1 Tok.nil).at_ = place (line + 1 + ys.length) 7 ∧ ∀ j, j ≤ s.size → restL s j = textR (ys ++ [z]) → LxA s j (w64 (line + 1)) (j : Int) false (T ++ T9) := by
      by_cases hj : ∃ j, j ≤ s.size ∧ restL s j = textR (ys ++ [z])
      · obtain ⟨j, h9, hj⟩ := hj
        obtain ⟨T, T9, k1, k2, k3, k4⟩ := ih j (line + 1) (fun q hq => hy q (List.mem_cons_of_mem _ hq)) (by omega) (by omega) hj
        refine ⟨T, T9, k1, k2, k3, fun j' h9' hj' => ?_⟩
        have e1 := rest_len s j
        have e2 := rest_len s j'
        rw [hj] at e1
        rw [hj'] at e2
        obtain rfl : j' = j := by omega
        rw [hw]
        exact k4
      · refine ⟨(ys.flatMap toksZ).map (fun p => ⟨p.1, p.2, ⟨0, 0⟩⟩), (toksZ z).map (fun p => ⟨p.1, p.2, place (line + 1 + ys.length) 7⟩), ?_, ?_, rfl, fun j h9 hj' => absurd ⟨j, h9, hj'⟩ hj⟩
        · rw [List.map_map]; exact List.map_id _
        · rw [List.map_map]; exact List.map_id _
    obtain ⟨T, T9, k1, k2, k3, k4⟩ := key
    obtain ⟨U, u1, u2, u3⟩ := lxA_line (line := line) (start := (i : Int)) (T := T ++ T9) hs (hy y List.mem_cons_self) h k4
    refine ⟨U ++ T, T9, by rw [List.map_append, u1, k1, List.flatMap_cons], k2, by rw [k3, List.length_cons]; congr 1; omega, by rw [List.append_assoc]; exact u3⟩
def NmF (nm : Nat → ByteArray) (B : Nat) (L : List Glass) : Prop := L.length ≤ B ∧ ∀ i, i < L.length → (gAt L i).name = nm i
theorem nmf_find {nm : Nat → ByteArray} {B : Nat} (hne : ∀ i, i < B → ∀ j, j < B → i ≠ j → sEq (nm i) (nm j) = false) (hair : ∀ i, i < B → sEq (nm i) (⟨#[97, 105, 114]⟩ : ByteArray) = false) {l zs : List Glass} {z : Glass} (h : NmF nm B (l ++ z :: zs)) : (gFind (gAt l) z.name l.length 0).2 = false ∧ sEq z.name (⟨#[97, 105, 114]⟩ : ByteArray) = false := by
  obtain ⟨h5, hn⟩ := h
  have hl : (l ++ z :: zs).length = l.length + (zs.length + 1) := by rw [List.length_append, List.length_cons]
  have hz := hn l.length (by omega)
  rw [gAt_mid] at hz
  rw [hz]
  refine ⟨?_, hair _ (by omega)⟩
  rw [gFind_no _ _ _ _ (fun k _ hk => by
    have e := hn k (by omega)
    rw [gAt_app (by omega)] at e
    rw [e]
    exact hne k (by omega) l.length (by omega) (by omega))]
theorem read_some {nm : Nat → ByteArray} {B : Nat} (hne : ∀ i, i < B → ∀ j, j < B → i ≠ j → sEq (nm i) (nm j) = false) (hair : ∀ i, i < B → sEq (nm i) (⟨#[97, 105, 114]⟩ : ByteArray) = false) : ∀ (zs l : List Glass) (y : Nat → Tok) (j n : Nat), KTs zs y → (∀ z ∈ zs, GOk z) → NmF nm B (l ++ zs) → l.length + zs.length ≤ 30 → gReadF (zs.length + j) l y (9 * zs.length + n) = gReadF j (l ++ zs) (fun i => y (i + 9 * zs.length)) n
  | [], l, y, j, n, _, _, _, _ => by
    rw [List.append_nil, List.length_nil, Nat.zero_add, Nat.mul_zero, Nat.zero_add]
    rfl
  | z :: zs, l, y, j, n, hy, hz, hN, h30 => by
    rw [List.length_cons] at h30 ⊢
    obtain ⟨f1, f2⟩ := nmf_find hne hair hN
    have e1 := one_read (m := l.length) (x := gAt l) (hz z List.mem_cons_self) hy.1 f1 f2 (by omega)
    rw [show zs.length + 1 + j = (zs.length + j) + 1 by omega, gReadF, decide_eq_true (show ((9 * (zs.length + 1) + n : Nat) : Int) > 0 by omega), e1]
    show gReadF (zs.length + j) (l ++ [z]) (fun i => y (i + 9)) (9 * (zs.length + 1) + n - 9) = _
    rw [show 9 * (zs.length + 1) + n - 9 = 9 * zs.length + n by omega, read_some hne hair zs (l ++ [z]) _ j n hy.2 (fun q hq => hz q (List.mem_cons_of_mem _ hq)) (by rw [List.append_assoc]; exact hN) (by rw [List.length_append, List.length_singleton]; omega), List.append_assoc]
    rfl
theorem read_big {nm : Nat → ByteArray} {B : Nat} (hne : ∀ i, i < B → ∀ j, j < B → i ≠ j → sEq (nm i) (nm j) = false) (hair : ∀ i, i < B → sEq (nm i) (⟨#[97, 105, 114]⟩ : ByteArray) = false) {l : List Glass} {z : Glass} {y : Nat → Tok} {j n : Nat} (hn : 0 < n) (hy : KT z y) (hN : NmF nm B (l ++ [z])) (h30 : l.length = 30) : gReadF (j + 1) l y n = ([], (y 1).at_, 3) := by
  obtain ⟨f1, f2⟩ := nmf_find hne hair hN
  have e0 := kt_at hy 0 (by decide) rfl
  have e1 := kt_at hy 1 (by decide) rfl
  have hg : sEq (byA gw) (⟨#[103, 108, 97, 115, 115]⟩ : ByteArray) = true := (sEq_iff _ _).2 rfl
  have hnm : gName l.length (gAt l) (y 1) = 3 := by
    rw [gName, e1.1, e1.2, f1, f2, show ((l.length : Int) == 30) = true from beq_iff_eq.2 (by omega)]
    rfl
  have ho : (gOne l.length (gAt l) y).2.2 = ((y 1).at_, 3) := by
    rw [gOne, e0.1, e0.2, hg, hnm]
    rfl
  rw [gReadF, decide_eq_true (show (n : Int) > 0 by omega), ho]
  rfl
def dgL (k : Nat) : List UInt8 := bif decide (k < 10) then [UInt8.ofNat (48 + k)] else [UInt8.ofNat (48 + k / 10), UInt8.ofNat (48 + k % 10)]
def qName (k : Nat) : ByteArray := ⟨(113 :: dgL k).toArray⟩
def zQ (k : Nat) : Glass := ⟨qName k, ⟨⟨1, 0⟩, ⟨0, 0⟩, ⟨0, 0⟩⟩, ⟨⟨0, 0⟩, ⟨1, 0⟩, ⟨1, 0⟩⟩⟩
def zsQ : List Glass := (List.range 30).map zQ
theorem q_ne : ∀ i, i < 31 → ∀ j, j < 31 → i ≠ j → sEq (qName i) (qName j) = false := by decide +kernel
theorem q_air : ∀ i, i < 31 → sEq (qName i) (⟨#[97, 105, 114]⟩ : ByteArray) = false := by decide +kernel
theorem q_name : ∀ i, i < 31 → wOk (qName i).data.toList = true ∧ (qName i).size ≤ 20 := by decide +kernel
theorem ok1 : DOk (⟨1, 0⟩ : Dec) := hd_ok (k := 0) (c := 1) (hd_N 0 1 (by omega) (by omega)) (by decide) (by decide)
theorem q_ok {i : Nat} (h : i < 31) : GOk (zQ i) := ⟨(q_name i h).1, (q_name i h).2, ok1, ok0, ok0, ok1, ok0, ok1⟩
theorem qs_ok : ∀ z ∈ zsQ, GOk z := by
  intro z hz
  obtain ⟨i, hi, rfl⟩ := List.mem_map.1 hz
  exact q_ok (Nat.lt_trans (List.mem_range.1 hi) (by decide))
theorem q_text : manyT 31 = byA (textR (zsQ ++ [zQ 30])) := by decide +kernel
theorem q_names : NmF qName 31 (zsQ ++ [zQ 30]) := ⟨by decide, by decide +kernel⟩
theorem kts_left : ∀ (l r : List Glass) (y : Nat → Tok), KTs (l ++ r) y → KTs l y
  | [], _, _, _ => trivial
  | z :: zs, r, y, h => ⟨h.1, kts_left zs r _ h.2⟩
theorem nmf_left {nm : Nat → ByteArray} {B : Nat} {l r : List Glass} (h : NmF nm B (l ++ r)) : NmF nm B l := ⟨Nat.le_trans (by rw [List.length_append]; omega) h.1, fun i hi => by rw [← gAt_app (zs := r) hi]; exact h.2 i (by rw [List.length_append]; omega)⟩
theorem many_read : gRead (manyS 31) = ([], place 31 7, 3) := by
  have hm := many_sz 31 (by decide)
  rw [many_eq 31 (by decide), q_text] at hm ⊢
  have hl : zsQ.length = 30 := by decide
  generalize hs0 : byA (textR (zsQ ++ [zQ 30])) = s
  have hs : s.size ≤ 4000 := by rw [← hs0]; exact Nat.le_trans hm (by decide)
  have h0 : restL s 0 = textR (zsQ ++ [zQ 30]) := by rw [← hs0]; rfl
  obtain ⟨T, T9, k1, k2, k3, k4⟩ := lxA_lines hs (zQ 30) (q_ok (by decide)) zsQ 0 1 qs_ok (by decide) (by rw [hl]; decide) h0
  have hx := lxA_all hs k4
  have e9 : (toksZ (zQ 30)).length = 9 := rfl
  have l9 := congrArg List.length k2
  rw [List.length_map, e9] at l9
  obtain ⟨m1, m2⟩ := kts_of zsQ T k1
  have hT : KTs zsQ (fun i => (T ++ T9).getD i Tok.nil) := (kts_of (zsQ ++ [zQ 30]) (T ++ T9) (by rw [List.map_append, k1, k2, List.flatMap_append]; simp)).1 |> kts_left zsQ [zQ 30] _
  have hk := (kts_of [zQ 30] T9 (by rw [k2]; simp)).1.1
  rw [hl] at m2 k3
  unfold gRead
  rw [hx]
  show gReadF ((T ++ T9).length + 1) [] (fun i => (T ++ T9).getD i Tok.nil) (T ++ T9).length = _
  rw [List.length_append, m2, l9]
  have hr := read_some q_ne q_air zsQ [] (fun i => (T ++ T9).getD i Tok.nil) 250 9 hT qs_ok (nmf_left q_names) (by rw [hl]; decide)
  rw [hl] at hr
  refine Eq.trans hr ?_
  have ey : (fun i => (T ++ T9).getD (i + 9 * 30) Tok.nil) = fun i => T9.getD i Tok.nil := by
    funext i
    rw [List.getD_eq_getElem?_getD, List.getD_eq_getElem?_getD, List.getElem?_append_right (by omega), m2, Nat.add_sub_cancel]
  rw [List.nil_append, ey, read_big q_ne q_air (by decide) hk q_names hl, k3]
  rfl
end Go.Proofs.YtalffjplbhelcaaGreatDoor
namespace Go.Proofs.YtalffjplbhelcaaGreatDoor
open Go.RowKit
attribute [local irreducible] AC AR DWalk
theorem read_nil {R : List Glass × Cx × Int} {c : Cx} {e : Int} (hR : R = ([], c, e)) {v : Value} {N : List Box} (h : ReadPost R v N) : ∃ (ca : Nat) (aa : Option Addr), v = .tuple #[.slice aa 0 ca, .complex .f64 c.re c.im, .int .i64 e] := by
 subst hR
 obtain ⟨m, ca, aa, rfl, hm, h4, hca, hrow⟩ := h
 have hm : m = 0 := hm
 subst hm
 exact ⟨ca, aa, rfl⟩
def x0 : Nat → Int := fun _ => 0
def k0 : Glass := gAt hGl0 0
def k1 : Glass := gAt hGl0 1
theorem gl_two {v : Value} {N : List Box} (h : GlP (hGl 0 x0) v N) : ∃ (g ca : Nat) (rest : List Value), v = .slice (some ⟨g, 0, none⟩) 2 ca ∧ N = [⟨g, [.string k0.name, .int .i64 k0.b.d0.c, .int .i64 k0.b.d0.scale, .int .i64 k0.b.d1.c, .int .i64 k0.b.d1.scale, .int .i64 k0.b.d2.c, .int .i64 k0.b.d2.scale, .int .i64 k0.c.d0.c, .int .i64 k0.c.d0.scale, .int .i64 k0.c.d1.c, .int .i64 k0.c.d1.scale, .int .i64 k0.c.d2.c, .int .i64 k0.c.d2.scale, .string k1.name, .int .i64 k1.b.d0.c, .int .i64 k1.b.d0.scale, .int .i64 k1.b.d1.c, .int .i64 k1.b.d1.scale, .int .i64 k1.b.d2.c, .int .i64 k1.b.d2.scale, .int .i64 k1.c.d0.c, .int .i64 k1.c.d0.scale, .int .i64 k1.c.d1.c, .int .i64 k1.c.d1.scale, .int .i64 k1.c.d2.c, .int .i64 k1.c.d2.scale] ++ rest, 29, false⟩] ∧ 2 ≤ ca := by
 have e : hGl 0 x0 = [k0, k1] := rfl
 rw [e] at h
 obtain ⟨g, ca, rest, rfl, hN, hca⟩ := gl_open (L := [k0, k1]) (Nat.le_refl 2) h
 exact ⟨g, ca, rest, rfl, hN, hca⟩
def kw0 : List Glass × Cx × Int := gRead ((⟨#[103, 108, 97, 115, 115, 32, 97, 105, 114]⟩ : ByteArray) ++ (⟨#[32, 49, 32, 48, 32, 48, 32, 49, 32, 48, 32, 49, 10]⟩ : ByteArray))
theorem c_kw0 : Gives Tryz.prog 20 #[.string ((⟨#[103, 108, 97, 115, 115, 32, 97, 105, 114]⟩ : ByteArray) ++ (⟨#[32, 49, 32, 48, 32, 48, 32, 49, 32, 48, 32, 49, 10]⟩ : ByteArray))] [] (fun v N => v = whyV kw0 ∧ N = []) := c_gWhy _
def kw1 : List Glass × Cx × Int := gRead ((((⟨#[103, 108, 97, 115, 115, 32, 107]⟩ : ByteArray) ++ (⟨#[32, 49, 32, 48, 32, 48, 32, 49, 32, 48, 32, 49, 10]⟩ : ByteArray)) ++ (⟨#[103, 108, 97, 115, 115, 32, 107]⟩ : ByteArray)) ++ (⟨#[32, 49, 32, 48, 32, 48, 32, 49, 32, 48, 32, 49, 10]⟩ : ByteArray))
theorem c_kw1 : Gives Tryz.prog 20 #[.string ((((⟨#[103, 108, 97, 115, 115, 32, 107]⟩ : ByteArray) ++ (⟨#[32, 49, 32, 48, 32, 48, 32, 49, 32, 48, 32, 49, 10]⟩ : ByteArray)) ++ (⟨#[103, 108, 97, 115, 115, 32, 107]⟩ : ByteArray)) ++ (⟨#[32, 49, 32, 48, 32, 48, 32, 49, 32, 48, 32, 49, 10]⟩ : ByteArray))] [] (fun v N => v = whyV kw1 ∧ N = []) := c_gWhy _
def kw2 : List Glass × Cx × Int := gRead ((⟨#[103, 108, 97, 115, 32, 107]⟩ : ByteArray) ++ (⟨#[32, 49, 32, 48, 32, 48, 32, 49, 32, 48, 32, 49, 10]⟩ : ByteArray))
theorem c_kw2 : Gives Tryz.prog 20 #[.string ((⟨#[103, 108, 97, 115, 32, 107]⟩ : ByteArray) ++ (⟨#[32, 49, 32, 48, 32, 48, 32, 49, 32, 48, 32, 49, 10]⟩ : ByteArray))] [] (fun v N => v = whyV kw2 ∧ N = []) := c_gWhy _
def kw3 : List Glass × Cx × Int := gRead (⟨#[103, 108, 97, 115, 115, 32, 107, 32, 49, 32, 50, 10]⟩ : ByteArray)
theorem c_kw3 : Gives Tryz.prog 20 #[.string (⟨#[103, 108, 97, 115, 115, 32, 107, 32, 49, 32, 50, 10]⟩ : ByteArray)] [] (fun v N => v = whyV kw3 ∧ N = []) := c_gWhy _
def kw4 : List Glass × Cx × Int := gRead (⟨#[103, 108, 97, 115, 115, 32, 107, 32, 49, 32, 48, 32, 48, 32, 49, 32, 48, 32, 49, 32, 55]⟩ : ByteArray)
theorem c_kw4 : Gives Tryz.prog 20 #[.string (⟨#[103, 108, 97, 115, 115, 32, 107, 32, 49, 32, 48, 32, 48, 32, 49, 32, 48, 32, 49, 32, 55]⟩ : ByteArray)] [] (fun v N => v = whyV kw4 ∧ N = []) := c_gWhy _
def kw5 : List Glass × Cx × Int := gRead (manyS 31)
theorem c_kw5 : Gives Tryz.prog 20 #[.string (manyS 31)] [] (fun v N => v = whyV kw5 ∧ N = []) := c_gWhy _
def kx0 : Iv := gIndex k0 gLn0
theorem c_kx0 : Gets Tryz.prog 14 #[.agg #[.string k0.name, .int .i64 k0.b.d0.c, .int .i64 k0.b.d0.scale, .int .i64 k0.b.d1.c, .int .i64 k0.b.d1.scale, .int .i64 k0.b.d2.c, .int .i64 k0.b.d2.scale, .int .i64 k0.c.d0.c, .int .i64 k0.c.d0.scale, .int .i64 k0.c.d1.c, .int .i64 k0.c.d1.scale, .int .i64 k0.c.d2.c, .int .i64 k0.c.d2.scale], .agg #[.int .i64 gLn0.lo, .int .i64 gLn0.hi, .bool gLn0.no]] (Iv.v kx0) := c_gIndex k0 gLn0
def kx1 : Iv := gAbbe k0
theorem c_kx1 : Gets Tryz.prog 16 #[.agg #[.string k0.name, .int .i64 k0.b.d0.c, .int .i64 k0.b.d0.scale, .int .i64 k0.b.d1.c, .int .i64 k0.b.d1.scale, .int .i64 k0.b.d2.c, .int .i64 k0.b.d2.scale, .int .i64 k0.c.d0.c, .int .i64 k0.c.d0.scale, .int .i64 k0.c.d1.c, .int .i64 k0.c.d1.scale, .int .i64 k0.c.d2.c, .int .i64 k0.c.d2.scale]] (Iv.v kx1) := c_gAbbe k0
def kf0 : Glass × Bool := gFind (gAt [k0, k1]) (⟨#[102, 108, 105, 110, 116]⟩ : ByteArray) 2 0
theorem c_kf0 (g ca : Nat) (rest : List Value) : Gives Tryz.prog 23 #[.slice (some ⟨g, 0, none⟩) 2 ca, .string (⟨#[102, 108, 105, 110, 116]⟩ : ByteArray)] [⟨g, [.string k0.name, .int .i64 k0.b.d0.c, .int .i64 k0.b.d0.scale, .int .i64 k0.b.d1.c, .int .i64 k0.b.d1.scale, .int .i64 k0.b.d2.c, .int .i64 k0.b.d2.scale, .int .i64 k0.c.d0.c, .int .i64 k0.c.d0.scale, .int .i64 k0.c.d1.c, .int .i64 k0.c.d1.scale, .int .i64 k0.c.d2.c, .int .i64 k0.c.d2.scale, .string k1.name, .int .i64 k1.b.d0.c, .int .i64 k1.b.d0.scale, .int .i64 k1.b.d1.c, .int .i64 k1.b.d1.scale, .int .i64 k1.b.d2.c, .int .i64 k1.b.d2.scale, .int .i64 k1.c.d0.c, .int .i64 k1.c.d0.scale, .int .i64 k1.c.d1.c, .int .i64 k1.c.d1.scale, .int .i64 k1.c.d2.c, .int .i64 k1.c.d2.scale] ++ rest, 29, true⟩] (fun v N => v = .tuple #[.agg #[.string kf0.1.name, .int .i64 kf0.1.b.d0.c, .int .i64 kf0.1.b.d0.scale, .int .i64 kf0.1.b.d1.c, .int .i64 kf0.1.b.d1.scale, .int .i64 kf0.1.b.d2.c, .int .i64 kf0.1.b.d2.scale, .int .i64 kf0.1.c.d0.c, .int .i64 kf0.1.c.d0.scale, .int .i64 kf0.1.c.d1.c, .int .i64 kf0.1.c.d1.scale, .int .i64 kf0.1.c.d2.c, .int .i64 kf0.1.c.d2.scale], .bool kf0.2] ∧ N = []) := c_gFind 2 ca (some ⟨g, 0, none⟩) (⟨#[102, 108, 105, 110, 116]⟩ : ByteArray) (gAt [k0, k1]) [⟨g, flatG [k0, k1] ++ rest, 29, true⟩] (by decide) (gl_row g [k0, k1] rest 2 (by decide)) rfl
def kf1 : Glass × Bool := gFind (gAt []) (⟨#[102, 108, 105, 110, 116]⟩ : ByteArray) 0 0
theorem c_kf1 : Gives Tryz.prog 23 #[.slice none 0 0, .string (⟨#[102, 108, 105, 110, 116]⟩ : ByteArray)] [] (fun v N => v = .tuple #[.agg #[.string kf1.1.name, .int .i64 kf1.1.b.d0.c, .int .i64 kf1.1.b.d0.scale, .int .i64 kf1.1.b.d1.c, .int .i64 kf1.1.b.d1.scale, .int .i64 kf1.1.b.d2.c, .int .i64 kf1.1.b.d2.scale, .int .i64 kf1.1.c.d0.c, .int .i64 kf1.1.c.d0.scale, .int .i64 kf1.1.c.d1.c, .int .i64 kf1.1.c.d1.scale, .int .i64 kf1.1.c.d2.c, .int .i64 kf1.1.c.d2.scale], .bool kf1.2] ∧ N = []) := c_gFind 0 0 none (⟨#[102, 108, 105, 110, 116]⟩ : ByteArray) (gAt []) [] (by decide) (fun i hi => absurd hi (Nat.not_lt_zero _)) rfl
def kr0 : List Glass × Cx × Int := gRead (⟨#[35, 32, 110, 111, 116, 104, 105, 110, 103, 10]⟩ : ByteArray)
theorem kr0_eq : kr0 = ([], (⟨0, 0⟩ : Cx), 0) := by decide +kernel
theorem c_kr0 : Gives Tryz.prog 21 #[.string (⟨#[35, 32, 110, 111, 116, 104, 105, 110, 103, 10]⟩ : ByteArray)] [] (ReadPost kr0) := c_gRead _
def kx2 : Iv := gIndex (⟨(⟨#[97, 105, 114]⟩ : ByteArray), (⟨(⟨0, 0⟩ : Dec), (⟨0, 0⟩ : Dec), (⟨0, 0⟩ : Dec)⟩ : D3), (⟨(⟨0, 0⟩ : Dec), (⟨0, 0⟩ : Dec), (⟨0, 0⟩ : Dec)⟩ : D3)⟩ : Glass) ivNone
theorem c_kx2 : Gets Tryz.prog 14 #[.agg #[.string (⟨#[97, 105, 114]⟩ : ByteArray), .int .i64 0, .int .i64 0, .int .i64 0, .int .i64 0, .int .i64 0, .int .i64 0, .int .i64 0, .int .i64 0, .int .i64 0, .int .i64 0, .int .i64 0, .int .i64 0], .agg #[.int .i64 ivNone.lo, .int .i64 ivNone.hi, .bool ivNone.no]] (Iv.v kx2) := c_gIndex (⟨(⟨#[97, 105, 114]⟩ : ByteArray), (⟨(⟨0, 0⟩ : Dec), (⟨0, 0⟩ : Dec), (⟨0, 0⟩ : Dec)⟩ : D3), (⟨(⟨0, 0⟩ : Dec), (⟨0, 0⟩ : Dec), (⟨0, 0⟩ : Dec)⟩ : D3)⟩ : Glass) ivNone
theorem kc0 : (cxEq kw0.2.1 (⟨4607182418800017408, 4619567317775286272⟩ : Cx)) = true := by decide +kernel
theorem kc1 : (kw0.2.2 == 5) = true := by decide +kernel
theorem kc2 : (cxEq kw1.2.1 (⟨4611686018427387904, 4619567317775286272⟩ : Cx)) = true := by decide +kernel
theorem kc3 : (kw1.2.2 == 5) = true := by decide +kernel
theorem kc4 : (cxEq kw2.2.1 (⟨4607182418800017408, 4607182418800017408⟩ : Cx)) = true := by decide +kernel
theorem kc5 : (kw2.2.2 == 2) = true := by decide +kernel
theorem kc6 : (cxEq kw3.2.1 (⟨4607182418800017408, 4622945017495814144⟩ : Cx)) = true := by decide +kernel
theorem kc7 : (kw3.2.2 == 2) = true := by decide +kernel
theorem kc8 : (cxEq kw4.2.1 (⟨4607182418800017408, 4626604192193052672⟩ : Cx)) = true := by decide +kernel
theorem kc9 : (kw4.2.2 == 2) = true := by decide +kernel
theorem kc10 : (cxEq kw5.2.1 (⟨4629418941960159232, 4619567317775286272⟩ : Cx)) = true := by rw [kw5, many_read]; decide +kernel
theorem kc11 : (kw5.2.2 == 3) = true := by rw [kw5, many_read]; decide +kernel
theorem kc12 : (ivRight kx0) = true := by decide +kernel
theorem kc13 : (decide (kx0.lo > 99000)) = true := by decide +kernel
theorem kc14 : (decide (kx0.hi < 99600)) = true := by decide +kernel
theorem kc15 : (ivRight kx1) = true := by decide +kernel
theorem kc16 : (decide (kx2 = (ivWhole 1))) = true := by decide +kernel
theorem kc17 : (decide ((gLnK 3) = ivNone)) = true := by decide +kernel
theorem kc18 : (kf0.2) = true := by decide +kernel
theorem kc19 : (sEq kf0.1.name (⟨#[102, 108, 105, 110, 116]⟩ : ByteArray)) = true := by decide +kernel
theorem kc20 : (kf1.2) = false := by decide +kernel
attribute [local irreducible] Step k0 k1 manyS rDigs ivRight ivNone ivWhole gLnK kw0 kw1 kw2 kw3 kw4 kw5 kx0 kx1 kf0 kf1 kr0 kx2
set_option maxRecDepth 100000 in
set_option maxHeartbeats 4000000 in
theorem c_lawGlassKnown (tP : Nat) : Gives Tryz.prog 4 #[] [powBox tP] (fun u N => u = .bool true ∧ N = []) := by
 refine gives_fin Tryz.func4 rfl rfl rfl rfl (aQ (aL (aA 0 (.bool false) rfl rfl (aN (aQ (aL (aA 1 (.func (.func 20) #[] #[]) rfl rfl (aN (aQ (aL (aA 2 (.string (⟨#[32, 49, 32, 48, 32, 48, 32, 49, 32, 48, 32, 49, 10]⟩ : ByteArray)) rfl rfl (aN (aQ (aL (aM 28 (.func (.func 20) #[] #[]) rfl rfl (aM 29 (.string (⟨#[32, 49, 32, 48, 32, 48, 32, 49, 32, 48, 32, 49, 10]⟩ : ByteArray)) rfl rfl ?_))))))))))))))))
 refine aB 30 (.string ((⟨#[103, 108, 97, 115, 115, 32, 97, 105, 114]⟩ : ByteArray) ++ (⟨#[32, 49, 32, 48, 32, 48, 32, 49, 32, 48, 32, 49, 10]⟩ : ByteArray))) rfl rfl rfl (bi_sadd (sz_two (show ((⟨#[103, 108, 97, 115, 115, 32, 97, 105, 114]⟩ : ByteArray)).size ≤ 9 from Nat.le_refl _) (show ((⟨#[32, 49, 32, 48, 32, 48, 32, 49, 32, 48, 32, 49, 10]⟩ : ByteArray)).size ≤ 13 from Nat.le_refl _) (by decide))) (ao 31 rfl rfl (st_gr (R := []) (r := .tuple #[.complex .f64 (kw0.2.1).re (kw0.2.1).im, .int .i64 kw0.2.2]) c_kw0 Tryz.func20 rfl (by decide) rfl rfl rfl has_nil (by simp) (aM 27 (.tuple #[.complex .f64 (kw0.2.1).re (kw0.2.1).im, .int .i64 kw0.2.2]) rfl rfl ?_)))
 refine aX 32 (.complex .f64 (kw0.2.1).re (kw0.2.1).im) rfl rfl rfl (aX 33 (.int .i64 kw0.2.2) rfl rfl rfl (aA 3 (.complex .f64 (kw0.2.1).re (kw0.2.1).im) rfl rfl (aA 4 (.int .i64 kw0.2.2) rfl rfl (aN (aQ (aL (aM 35 (.func (.func 20) #[] #[]) rfl rfl (aM 36 (.string (⟨#[32, 49, 32, 48, 32, 48, 32, 49, 32, 48, 32, 49, 10]⟩ : ByteArray)) rfl rfl ?_))))))))
 refine aB 37 (.string ((⟨#[103, 108, 97, 115, 115, 32, 107]⟩ : ByteArray) ++ (⟨#[32, 49, 32, 48, 32, 48, 32, 49, 32, 48, 32, 49, 10]⟩ : ByteArray))) rfl rfl rfl (bi_sadd (sz_two (show ((⟨#[103, 108, 97, 115, 115, 32, 107]⟩ : ByteArray)).size ≤ 7 from Nat.le_refl _) (show ((⟨#[32, 49, 32, 48, 32, 48, 32, 49, 32, 48, 32, 49, 10]⟩ : ByteArray)).size ≤ 13 from Nat.le_refl _) (by decide))) ?_
 refine aB 38 (.string (((⟨#[103, 108, 97, 115, 115, 32, 107]⟩ : ByteArray) ++ (⟨#[32, 49, 32, 48, 32, 48, 32, 49, 32, 48, 32, 49, 10]⟩ : ByteArray)) ++ (⟨#[103, 108, 97, 115, 115, 32, 107]⟩ : ByteArray))) rfl rfl rfl (bi_sadd (sz_two (sz_add (show ((⟨#[103, 108, 97, 115, 115, 32, 107]⟩ : ByteArray)).size ≤ 7 from Nat.le_refl _) (show ((⟨#[32, 49, 32, 48, 32, 48, 32, 49, 32, 48, 32, 49, 10]⟩ : ByteArray)).size ≤ 13 from Nat.le_refl _)) (show ((⟨#[103, 108, 97, 115, 115, 32, 107]⟩ : ByteArray)).size ≤ 7 from Nat.le_refl _) (by decide))) (aM 39 (.string (⟨#[32, 49, 32, 48, 32, 48, 32, 49, 32, 48, 32, 49, 10]⟩ : ByteArray)) rfl rfl ?_)
 refine aB 40 (.string ((((⟨#[103, 108, 97, 115, 115, 32, 107]⟩ : ByteArray) ++ (⟨#[32, 49, 32, 48, 32, 48, 32, 49, 32, 48, 32, 49, 10]⟩ : ByteArray)) ++ (⟨#[103, 108, 97, 115, 115, 32, 107]⟩ : ByteArray)) ++ (⟨#[32, 49, 32, 48, 32, 48, 32, 49, 32, 48, 32, 49, 10]⟩ : ByteArray))) rfl rfl rfl (bi_sadd (sz_two (sz_add (sz_add (show ((⟨#[103, 108, 97, 115, 115, 32, 107]⟩ : ByteArray)).size ≤ 7 from Nat.le_refl _) (show ((⟨#[32, 49, 32, 48, 32, 48, 32, 49, 32, 48, 32, 49, 10]⟩ : ByteArray)).size ≤ 13 from Nat.le_refl _)) (show ((⟨#[103, 108, 97, 115, 115, 32, 107]⟩ : ByteArray)).size ≤ 7 from Nat.le_refl _)) (show ((⟨#[32, 49, 32, 48, 32, 48, 32, 49, 32, 48, 32, 49, 10]⟩ : ByteArray)).size ≤ 13 from Nat.le_refl _) (by decide))) ?_
 refine ao 41 rfl rfl (st_gr (R := []) (r := .tuple #[.complex .f64 (kw1.2.1).re (kw1.2.1).im, .int .i64 kw1.2.2]) c_kw1 Tryz.func20 rfl (by decide) rfl rfl rfl has_nil (by simp) (aM 34 (.tuple #[.complex .f64 (kw1.2.1).re (kw1.2.1).im, .int .i64 kw1.2.2]) rfl rfl (aX 42 (.complex .f64 (kw1.2.1).re (kw1.2.1).im) rfl rfl rfl (aX 43 (.int .i64 kw1.2.2) rfl rfl rfl (aA 5 (.complex .f64 (kw1.2.1).re (kw1.2.1).im) rfl rfl (aA 6 (.int .i64 kw1.2.2) rfl rfl (aN (aQ (aL (aM 45 (.func (.func 20) #[] #[]) rfl rfl (aM 46 (.string (⟨#[32, 49, 32, 48, 32, 48, 32, 49, 32, 48, 32, 49, 10]⟩ : ByteArray)) rfl rfl ?_)))))))))))
 refine aB 47 (.string ((⟨#[103, 108, 97, 115, 32, 107]⟩ : ByteArray) ++ (⟨#[32, 49, 32, 48, 32, 48, 32, 49, 32, 48, 32, 49, 10]⟩ : ByteArray))) rfl rfl rfl (bi_sadd (sz_two (show ((⟨#[103, 108, 97, 115, 32, 107]⟩ : ByteArray)).size ≤ 6 from Nat.le_refl _) (show ((⟨#[32, 49, 32, 48, 32, 48, 32, 49, 32, 48, 32, 49, 10]⟩ : ByteArray)).size ≤ 13 from Nat.le_refl _) (by decide))) (ao 48 rfl rfl (st_gr (R := []) (r := .tuple #[.complex .f64 (kw2.2.1).re (kw2.2.1).im, .int .i64 kw2.2.2]) c_kw2 Tryz.func20 rfl (by decide) rfl rfl rfl has_nil (by simp) (aM 44 (.tuple #[.complex .f64 (kw2.2.1).re (kw2.2.1).im, .int .i64 kw2.2.2]) rfl rfl ?_)))
 refine aX 49 (.complex .f64 (kw2.2.1).re (kw2.2.1).im) rfl rfl rfl (aX 50 (.int .i64 kw2.2.2) rfl rfl rfl (aA 7 (.complex .f64 (kw2.2.1).re (kw2.2.1).im) rfl rfl (aA 8 (.int .i64 kw2.2.2) rfl rfl (aN (aQ (aL (aM 52 (.func (.func 20) #[] #[]) rfl rfl (ao 53 rfl rfl (st_gr (R := []) (r := .tuple #[.complex .f64 (kw3.2.1).re (kw3.2.1).im, .int .i64 kw3.2.2]) c_kw3 Tryz.func20 rfl (by decide) rfl rfl rfl has_nil (by simp) (aM 51 (.tuple #[.complex .f64 (kw3.2.1).re (kw3.2.1).im, .int .i64 kw3.2.2]) rfl rfl (aX 54 (.complex .f64 (kw3.2.1).re (kw3.2.1).im) rfl rfl rfl (aX 55 (.int .i64 kw3.2.2) rfl rfl rfl (aA 9 (.complex .f64 (kw3.2.1).re (kw3.2.1).im) rfl rfl ?_)))))))))))))
 refine aA 10 (.int .i64 kw3.2.2) rfl rfl (aN (aQ (aL (aM 57 (.func (.func 20) #[] #[]) rfl rfl (ao 58 rfl rfl (st_gr (R := []) (r := .tuple #[.complex .f64 (kw4.2.1).re (kw4.2.1).im, .int .i64 kw4.2.2]) c_kw4 Tryz.func20 rfl (by decide) rfl rfl rfl has_nil (by simp) (aM 56 (.tuple #[.complex .f64 (kw4.2.1).re (kw4.2.1).im, .int .i64 kw4.2.2]) rfl rfl (aX 59 (.complex .f64 (kw4.2.1).re (kw4.2.1).im) rfl rfl rfl (aX 60 (.int .i64 kw4.2.2) rfl rfl rfl (aA 11 (.complex .f64 (kw4.2.1).re (kw4.2.1).im) rfl rfl (aA 12 (.int .i64 kw4.2.2) rfl rfl (aN (aQ (aL (aA 13 (.string (⟨#[]⟩ : ByteArray)) rfl rfl (aN (aQ (aQ (aL (aA 14 (.int .i64 0) rfl rfl (aN (ac_block ?_))))))))))))))))))))))
 refine ac_rounds 32 ?_
 refine km_loop (.complex .f64 (kw0.2.1).re (kw0.2.1).im) (.int .i64 kw0.2.2) (.complex .f64 (kw1.2.1).re (kw1.2.1).im) (.int .i64 kw1.2.2) (.complex .f64 (kw2.2.1).re (kw2.2.1).im) (.int .i64 kw2.2.2) (.complex .f64 (kw3.2.1).re (kw3.2.1).im) (.int .i64 kw3.2.2) (.complex .f64 (kw4.2.1).re (kw4.2.1).im) (.int .i64 kw4.2.2) rfl (fun E9 f1 f3 f4 f5 f6 f7 f8 f9 f10 f11 f12 f13 => ?_) 31 0 _ (Nat.zero_add _) rfl rfl rfl rfl rfl rfl rfl rfl rfl rfl rfl rfl (congrArg Value.string many_0.symm) rfl
 obtain ⟨E0, rfl⟩ : ∃ E0 : Env, E9 = ((((((((((((E0.put (some 1) (.func (.func 20) #[] #[])).put (some 3) (.complex .f64 (kw0.2.1).re (kw0.2.1).im)).put (some 4) (.int .i64 kw0.2.2)).put (some 5) (.complex .f64 (kw1.2.1).re (kw1.2.1).im)).put (some 6) (.int .i64 kw1.2.2)).put (some 7) (.complex .f64 (kw2.2.1).re (kw2.2.1).im)).put (some 8) (.int .i64 kw2.2.2)).put (some 9) (.complex .f64 (kw3.2.1).re (kw3.2.1).im)).put (some 10) (.int .i64 kw3.2.2)).put (some 11) (.complex .f64 (kw4.2.1).re (kw4.2.1).im)).put (some 12) (.int .i64 kw4.2.2)).put (some 13) (.string (manyS 31))) := ⟨E9, by rw [put_self f1, put_self f3, put_self f4, put_self f5, put_self f6, put_self f7, put_self f8, put_self f9, put_self f10, put_self f11, put_self f12, put_self f13]⟩
 refine aQ (aL (aM 73 (.func (.func 20) #[] #[]) rfl rfl (aM 74 (.string (manyS 31)) rfl rfl (ao 75 rfl rfl (st_gr (R := []) (r := .tuple #[.complex .f64 (kw5.2.1).re (kw5.2.1).im, .int .i64 kw5.2.2]) c_kw5 Tryz.func20 rfl (by decide) rfl rfl rfl has_nil (by simp) (aM 72 (.tuple #[.complex .f64 (kw5.2.1).re (kw5.2.1).im, .int .i64 kw5.2.2]) rfl rfl (aX 76 (.complex .f64 (kw5.2.1).re (kw5.2.1).im) rfl rfl rfl (aX 77 (.int .i64 kw5.2.2) rfl rfl rfl (aA 15 (.complex .f64 (kw5.2.1).re (kw5.2.1).im) rfl rfl (aA 16 (.int .i64 kw5.2.2) rfl rfl (aN (aQ (aL ?_)))))))))))))
 refine ao 78 rfl rfl (st_gv (R := []) (c_glasses0 none 0 x0) Tryz.func9 rfl (by decide) rfl rfl rfl has_nil (by simp) fun v9 N9 R9 => ?_)
 obtain ⟨gG1, ca1, rest1, rfl, rfl, hca1⟩ := gl_two R9
 refine ao 79 rfl rfl (st_sa (g := gG1) (off := 0) (m := 2) (c := ca1) (s := 13) (i := 0) rfl Tryz.underlying23 (by kernel_rfl) rfl rfl (by decide) (aG 80 [.string k0.name, .int .i64 k0.b.d0.c, .int .i64 k0.b.d0.scale, .int .i64 k0.b.d1.c, .int .i64 k0.b.d1.scale, .int .i64 k0.b.d2.c, .int .i64 k0.b.d2.scale, .int .i64 k0.c.d0.c, .int .i64 k0.c.d0.scale, .int .i64 k0.c.d1.c, .int .i64 k0.c.d1.scale, .int .i64 k0.c.d2.c, .int .i64 k0.c.d2.scale] agg29 0 rfl rfl rfl rfl rfl (ao 17 rfl rfl (st_new zero29 rfl fun g0 => ?_))))
 refine aS [.string k0.name, .int .i64 k0.b.d0.c, .int .i64 k0.b.d0.scale, .int .i64 k0.b.d1.c, .int .i64 k0.b.d1.scale, .int .i64 k0.b.d2.c, .int .i64 k0.b.d2.scale, .int .i64 k0.c.d0.c, .int .i64 k0.c.d0.scale, .int .i64 k0.c.d1.c, .int .i64 k0.c.d1.scale, .int .i64 k0.c.d2.c, .int .i64 k0.c.d2.scale] agg29 0 rfl rfl rfl rfl rfl rfl (aN (aQ ?_))
 refine ac_draw1 (id := 15) [0, 1, 2] [4] 3 18 32 _ _ (by kernel_rfl) follows rfl zero32 ⟨_, rfl, rfl, rfl, rfl⟩ (dw_op (d := some 81) _ rfl rfl rfl (st_lda (vs := [.string k0.name, .int .i64 k0.b.d0.c, .int .i64 k0.b.d0.scale, .int .i64 k0.b.d1.c, .int .i64 k0.b.d1.scale, .int .i64 k0.b.d2.c, .int .i64 k0.b.d2.scale, .int .i64 k0.c.d0.c, .int .i64 k0.c.d0.scale, .int .i64 k0.c.d1.c, .int .i64 k0.c.d1.scale, .int .i64 k0.c.d2.c, .int .i64 k0.c.d2.scale]) agg29 0 rfl rfl rfl rfl rfl rfl ⟨rfl, rfl⟩) (dw_op (d := some 82) _ rfl rfl rfl (st_cf (c_gLn0) Tryz.func18 rfl (by decide) rfl rfl rfl ⟨rfl, rfl⟩) ?_))
 refine dw_op (d := some 83) _ rfl rfl rfl (st_cf c_kx0 Tryz.func14 rfl (by decide) rfl rfl rfl ⟨rfl, rfl⟩) (dw_nil ?_)
 intro g1
 refine aS [.int .i64 kx0.lo, .int .i64 kx0.hi, .bool kx0.no] agg32 0 rfl rfl rfl rfl rfl rfl (aN (aQ (aL (aG 84 [.string k0.name, .int .i64 k0.b.d0.c, .int .i64 k0.b.d0.scale, .int .i64 k0.b.d1.c, .int .i64 k0.b.d1.scale, .int .i64 k0.b.d2.c, .int .i64 k0.b.d2.scale, .int .i64 k0.c.d0.c, .int .i64 k0.c.d0.scale, .int .i64 k0.c.d1.c, .int .i64 k0.c.d1.scale, .int .i64 k0.c.d2.c, .int .i64 k0.c.d2.scale] agg29 1 rfl rfl rfl rfl rfl (aC 85 c_kx1 Tryz.func16 ⟨rfl, by decide⟩ rfl rfl (ao 19 rfl rfl (st_new zero32 rfl fun g2 => (aS [.int .i64 kx1.lo, .int .i64 kx1.hi, .bool kx1.no] agg32 0 rfl rfl rfl rfl rfl rfl (aN (aQ (aL ?_)))))))))))
 refine ao 87 rfl rfl (st_gv (R := []) (c_glasses0 none 0 x0) Tryz.func9 rfl (by decide) rfl rfl rfl has_nil (by simp) fun v9 N9 R9 => ?_)
 obtain ⟨gG2, ca2, rest2, rfl, rfl, hca2⟩ := gl_two R9
 refine ao 88 rfl rfl (st_gr (R := [⟨gG2, [.string k0.name, .int .i64 k0.b.d0.c, .int .i64 k0.b.d0.scale, .int .i64 k0.b.d1.c, .int .i64 k0.b.d1.scale, .int .i64 k0.b.d2.c, .int .i64 k0.b.d2.scale, .int .i64 k0.c.d0.c, .int .i64 k0.c.d0.scale, .int .i64 k0.c.d1.c, .int .i64 k0.c.d1.scale, .int .i64 k0.c.d2.c, .int .i64 k0.c.d2.scale, .string k1.name, .int .i64 k1.b.d0.c, .int .i64 k1.b.d0.scale, .int .i64 k1.b.d1.c, .int .i64 k1.b.d1.scale, .int .i64 k1.b.d2.c, .int .i64 k1.b.d2.scale, .int .i64 k1.c.d0.c, .int .i64 k1.c.d0.scale, .int .i64 k1.c.d1.c, .int .i64 k1.c.d1.scale, .int .i64 k1.c.d2.c, .int .i64 k1.c.d2.scale] ++ rest2, 29, true⟩]) (r := .tuple #[.agg #[.string kf0.1.name, .int .i64 kf0.1.b.d0.c, .int .i64 kf0.1.b.d0.scale, .int .i64 kf0.1.b.d1.c, .int .i64 kf0.1.b.d1.scale, .int .i64 kf0.1.b.d2.c, .int .i64 kf0.1.b.d2.scale, .int .i64 kf0.1.c.d0.c, .int .i64 kf0.1.c.d0.scale, .int .i64 kf0.1.c.d1.c, .int .i64 kf0.1.c.d1.scale, .int .i64 kf0.1.c.d2.c, .int .i64 kf0.1.c.d2.scale], .bool kf0.2]) (c_kf0 gG2 ca2 rest2) Tryz.func23 rfl (by decide) rfl rfl rfl (has_cons 0 _ rfl rfl rfl rfl has_nil) (by simp) ?_)
 refine aM 86 (.tuple #[.agg #[.string kf0.1.name, .int .i64 kf0.1.b.d0.c, .int .i64 kf0.1.b.d0.scale, .int .i64 kf0.1.b.d1.c, .int .i64 kf0.1.b.d1.scale, .int .i64 kf0.1.b.d2.c, .int .i64 kf0.1.b.d2.scale, .int .i64 kf0.1.c.d0.c, .int .i64 kf0.1.c.d0.scale, .int .i64 kf0.1.c.d1.c, .int .i64 kf0.1.c.d1.scale, .int .i64 kf0.1.c.d2.c, .int .i64 kf0.1.c.d2.scale], .bool kf0.2]) rfl rfl ?_
 refine aX 89 (.agg #[.string kf0.1.name, .int .i64 kf0.1.b.d0.c, .int .i64 kf0.1.b.d0.scale, .int .i64 kf0.1.b.d1.c, .int .i64 kf0.1.b.d1.scale, .int .i64 kf0.1.b.d2.c, .int .i64 kf0.1.b.d2.scale, .int .i64 kf0.1.c.d0.c, .int .i64 kf0.1.c.d0.scale, .int .i64 kf0.1.c.d1.c, .int .i64 kf0.1.c.d1.scale, .int .i64 kf0.1.c.d2.c, .int .i64 kf0.1.c.d2.scale]) rfl rfl rfl (aX 90 (.bool kf0.2) rfl rfl rfl (ao 20 rfl rfl (st_new zero29 rfl fun g3 => ?_)))
 refine aS [.string kf0.1.name, .int .i64 kf0.1.b.d0.c, .int .i64 kf0.1.b.d0.scale, .int .i64 kf0.1.b.d1.c, .int .i64 kf0.1.b.d1.scale, .int .i64 kf0.1.b.d2.c, .int .i64 kf0.1.b.d2.scale, .int .i64 kf0.1.c.d0.c, .int .i64 kf0.1.c.d0.scale, .int .i64 kf0.1.c.d1.c, .int .i64 kf0.1.c.d1.scale, .int .i64 kf0.1.c.d2.c, .int .i64 kf0.1.c.d2.scale] agg29 0 rfl rfl rfl rfl rfl rfl (aA 21 (.bool kf0.2) rfl rfl (aN (aQ (aL ?_))))
 refine ao 92 rfl rfl (st_gr (R := []) (r := .tuple #[.agg #[.string kf1.1.name, .int .i64 kf1.1.b.d0.c, .int .i64 kf1.1.b.d0.scale, .int .i64 kf1.1.b.d1.c, .int .i64 kf1.1.b.d1.scale, .int .i64 kf1.1.b.d2.c, .int .i64 kf1.1.b.d2.scale, .int .i64 kf1.1.c.d0.c, .int .i64 kf1.1.c.d0.scale, .int .i64 kf1.1.c.d1.c, .int .i64 kf1.1.c.d1.scale, .int .i64 kf1.1.c.d2.c, .int .i64 kf1.1.c.d2.scale], .bool kf1.2]) c_kf1 Tryz.func23 rfl (by decide) rfl rfl rfl has_nil (by simp) ?_)
 refine aM 91 (.tuple #[.agg #[.string kf1.1.name, .int .i64 kf1.1.b.d0.c, .int .i64 kf1.1.b.d0.scale, .int .i64 kf1.1.b.d1.c, .int .i64 kf1.1.b.d1.scale, .int .i64 kf1.1.b.d2.c, .int .i64 kf1.1.b.d2.scale, .int .i64 kf1.1.c.d0.c, .int .i64 kf1.1.c.d0.scale, .int .i64 kf1.1.c.d1.c, .int .i64 kf1.1.c.d1.scale, .int .i64 kf1.1.c.d2.c, .int .i64 kf1.1.c.d2.scale], .bool kf1.2]) rfl rfl ?_
 refine aX 93 (.agg #[.string kf1.1.name, .int .i64 kf1.1.b.d0.c, .int .i64 kf1.1.b.d0.scale, .int .i64 kf1.1.b.d1.c, .int .i64 kf1.1.b.d1.scale, .int .i64 kf1.1.b.d2.c, .int .i64 kf1.1.b.d2.scale, .int .i64 kf1.1.c.d0.c, .int .i64 kf1.1.c.d0.scale, .int .i64 kf1.1.c.d1.c, .int .i64 kf1.1.c.d1.scale, .int .i64 kf1.1.c.d2.c, .int .i64 kf1.1.c.d2.scale]) rfl rfl rfl (aX 94 (.bool kf1.2) rfl rfl rfl (ao 22 rfl rfl (st_new zero29 rfl fun g4 => ?_)))
 refine aS [.string kf1.1.name, .int .i64 kf1.1.b.d0.c, .int .i64 kf1.1.b.d0.scale, .int .i64 kf1.1.b.d1.c, .int .i64 kf1.1.b.d1.scale, .int .i64 kf1.1.b.d2.c, .int .i64 kf1.1.b.d2.scale, .int .i64 kf1.1.c.d0.c, .int .i64 kf1.1.c.d0.scale, .int .i64 kf1.1.c.d1.c, .int .i64 kf1.1.c.d1.scale, .int .i64 kf1.1.c.d2.c, .int .i64 kf1.1.c.d2.scale] agg29 0 rfl rfl rfl rfl rfl rfl (aA 23 (.bool kf1.2) rfl rfl (aN (aQ (aL (ao 96 rfl rfl (st_gv (R := []) c_kr0 Tryz.func21 rfl (by decide) rfl rfl rfl has_nil (by simp) fun v9 N9 R9 => ?_))))))
 obtain ⟨ca8, aa8, rfl⟩ := read_nil kr0_eq R9
 refine aM 95 (.tuple #[.slice aa8 0 ca8, .complex .f64 ((⟨0, 0⟩ : Cx)).re ((⟨0, 0⟩ : Cx)).im, .int .i64 0]) rfl rfl (aX 97 (.slice aa8 0 ca8) rfl rfl rfl (aX 98 (.complex .f64 ((⟨0, 0⟩ : Cx)).re ((⟨0, 0⟩ : Cx)).im) rfl rfl rfl (aX 99 (.int .i64 0) rfl rfl rfl (aA 24 (.slice aa8 0 ca8) rfl rfl (aA 25 (.complex .f64 ((⟨0, 0⟩ : Cx)).re ((⟨0, 0⟩ : Cx)).im) rfl rfl (aA 26 (.int .i64 0) rfl rfl (aN (aQ ?_))))))))
 refine ac_drop (List.sublist_append_right _ _) (aL (ao 100 rfl rfl (st_gr (R := [powBox tP]) (r := .bool true) (c_known11 tP) Tryz.func13 rfl (by decide) rfl rfl rfl (has_cons 7 _ rfl rfl rfl rfl has_nil) (by simp) (aM 101 (.bool true) rfl rfl (ar_gd (d := (some 102)) rfl rfl (st_move (v := .complex .f64 (kw0.2.1).re (kw0.2.1).im) rfl rfl (ar_gd (d := (some 103)) rfl rfl (st_bi (r := .bool (cxEq kw0.2.1 (⟨4607182418800017408, 4619567317775286272⟩ : Cx))) rfl rfl rfl (bi_ceql (a := kw0.2.1) (b := (⟨4607182418800017408, 4619567317775286272⟩ : Cx)) rfl) (ao 104 rfl rfl (st_pkt (v := .bool (cxEq kw0.2.1 (⟨4607182418800017408, 4619567317775286272⟩ : Cx))) rfl rfl rfl ?_))))))))))
 refine aM 105 (.bool (cxEq kw0.2.1 (⟨4607182418800017408, 4619567317775286272⟩ : Cx))) rfl rfl (ar_gd (d := (some 106)) (by show ((cxEq kw0.2.1 (⟨4607182418800017408, 4619567317775286272⟩ : Cx)) == true) = true; rw [kc0]; rfl) rfl (st_move (v := .int .i64 kw0.2.2) rfl rfl (ar_gd (d := (some 107)) (by show ((cxEq kw0.2.1 (⟨4607182418800017408, 4619567317775286272⟩ : Cx)) == true) = true; rw [kc0]; rfl) rfl (st_bi (r := .bool (kw0.2.2 == 5)) rfl rfl rfl (bi_eql rfl) (ao 108 rfl rfl (st_pkt' (b := cxEq kw0.2.1 (⟨4607182418800017408, 4619567317775286272⟩ : Cx)) (v := .bool (kw0.2.2 == 5)) kc0 rfl rfl rfl (aM 109 (.bool (kw0.2.2 == 5)) rfl rfl ?_)))))))
 refine ar_gd (d := (some 110)) (by show ((kw0.2.2 == 5) == true) = true; rw [kc1]; rfl) rfl (st_move (v := .complex .f64 (kw1.2.1).re (kw1.2.1).im) rfl rfl (ar_gd (d := (some 111)) (by show ((kw0.2.2 == 5) == true) = true; rw [kc1]; rfl) rfl (st_bi (r := .bool (cxEq kw1.2.1 (⟨4611686018427387904, 4619567317775286272⟩ : Cx))) rfl rfl rfl (bi_ceql (a := kw1.2.1) (b := (⟨4611686018427387904, 4619567317775286272⟩ : Cx)) rfl) (ao 112 rfl rfl (st_pkt' (b := kw0.2.2 == 5) (v := .bool (cxEq kw1.2.1 (⟨4611686018427387904, 4619567317775286272⟩ : Cx))) kc1 rfl rfl rfl (aM 113 (.bool (cxEq kw1.2.1 (⟨4611686018427387904, 4619567317775286272⟩ : Cx))) rfl rfl ?_))))))
 refine ar_gd (d := (some 114)) (by show ((cxEq kw1.2.1 (⟨4611686018427387904, 4619567317775286272⟩ : Cx)) == true) = true; rw [kc2]; rfl) rfl (st_move (v := .int .i64 kw1.2.2) rfl rfl (ar_gd (d := (some 115)) (by show ((cxEq kw1.2.1 (⟨4611686018427387904, 4619567317775286272⟩ : Cx)) == true) = true; rw [kc2]; rfl) rfl (st_bi (r := .bool (kw1.2.2 == 5)) rfl rfl rfl (bi_eql rfl) (ao 116 rfl rfl (st_pkt' (b := cxEq kw1.2.1 (⟨4611686018427387904, 4619567317775286272⟩ : Cx)) (v := .bool (kw1.2.2 == 5)) kc2 rfl rfl rfl (aM 117 (.bool (kw1.2.2 == 5)) rfl rfl ?_))))))
 refine ar_gd (d := (some 118)) (by show ((kw1.2.2 == 5) == true) = true; rw [kc3]; rfl) rfl (st_move (v := .complex .f64 (kw2.2.1).re (kw2.2.1).im) rfl rfl (ar_gd (d := (some 119)) (by show ((kw1.2.2 == 5) == true) = true; rw [kc3]; rfl) rfl (st_bi (r := .bool (cxEq kw2.2.1 (⟨4607182418800017408, 4607182418800017408⟩ : Cx))) rfl rfl rfl (bi_ceql (a := kw2.2.1) (b := (⟨4607182418800017408, 4607182418800017408⟩ : Cx)) rfl) (ao 120 rfl rfl (st_pkt' (b := kw1.2.2 == 5) (v := .bool (cxEq kw2.2.1 (⟨4607182418800017408, 4607182418800017408⟩ : Cx))) kc3 rfl rfl rfl (aM 121 (.bool (cxEq kw2.2.1 (⟨4607182418800017408, 4607182418800017408⟩ : Cx))) rfl rfl ?_))))))
 refine ar_gd (d := (some 122)) (by show ((cxEq kw2.2.1 (⟨4607182418800017408, 4607182418800017408⟩ : Cx)) == true) = true; rw [kc4]; rfl) rfl (st_move (v := .int .i64 kw2.2.2) rfl rfl (ar_gd (d := (some 123)) (by show ((cxEq kw2.2.1 (⟨4607182418800017408, 4607182418800017408⟩ : Cx)) == true) = true; rw [kc4]; rfl) rfl (st_bi (r := .bool (kw2.2.2 == 2)) rfl rfl rfl (bi_eql rfl) (ao 124 rfl rfl (st_pkt' (b := cxEq kw2.2.1 (⟨4607182418800017408, 4607182418800017408⟩ : Cx)) (v := .bool (kw2.2.2 == 2)) kc4 rfl rfl rfl (aM 125 (.bool (kw2.2.2 == 2)) rfl rfl ?_))))))
 refine ar_gd (d := (some 126)) (by show ((kw2.2.2 == 2) == true) = true; rw [kc5]; rfl) rfl (st_move (v := .complex .f64 (kw3.2.1).re (kw3.2.1).im) rfl rfl (ar_gd (d := (some 127)) (by show ((kw2.2.2 == 2) == true) = true; rw [kc5]; rfl) rfl (st_bi (r := .bool (cxEq kw3.2.1 (⟨4607182418800017408, 4622945017495814144⟩ : Cx))) rfl rfl rfl (bi_ceql (a := kw3.2.1) (b := (⟨4607182418800017408, 4622945017495814144⟩ : Cx)) rfl) (ao 128 rfl rfl (st_pkt' (b := kw2.2.2 == 2) (v := .bool (cxEq kw3.2.1 (⟨4607182418800017408, 4622945017495814144⟩ : Cx))) kc5 rfl rfl rfl (aM 129 (.bool (cxEq kw3.2.1 (⟨4607182418800017408, 4622945017495814144⟩ : Cx))) rfl rfl ?_))))))
 refine ar_gd (d := (some 130)) (by show ((cxEq kw3.2.1 (⟨4607182418800017408, 4622945017495814144⟩ : Cx)) == true) = true; rw [kc6]; rfl) rfl (st_move (v := .int .i64 kw3.2.2) rfl rfl (ar_gd (d := (some 131)) (by show ((cxEq kw3.2.1 (⟨4607182418800017408, 4622945017495814144⟩ : Cx)) == true) = true; rw [kc6]; rfl) rfl (st_bi (r := .bool (kw3.2.2 == 2)) rfl rfl rfl (bi_eql rfl) (ao 132 rfl rfl (st_pkt' (b := cxEq kw3.2.1 (⟨4607182418800017408, 4622945017495814144⟩ : Cx)) (v := .bool (kw3.2.2 == 2)) kc6 rfl rfl rfl (aM 133 (.bool (kw3.2.2 == 2)) rfl rfl ?_))))))
 refine ar_gd (d := (some 134)) (by show ((kw3.2.2 == 2) == true) = true; rw [kc7]; rfl) rfl (st_move (v := .complex .f64 (kw4.2.1).re (kw4.2.1).im) rfl rfl (ar_gd (d := (some 135)) (by show ((kw3.2.2 == 2) == true) = true; rw [kc7]; rfl) rfl (st_bi (r := .bool (cxEq kw4.2.1 (⟨4607182418800017408, 4626604192193052672⟩ : Cx))) rfl rfl rfl (bi_ceql (a := kw4.2.1) (b := (⟨4607182418800017408, 4626604192193052672⟩ : Cx)) rfl) (ao 136 rfl rfl (st_pkt' (b := kw3.2.2 == 2) (v := .bool (cxEq kw4.2.1 (⟨4607182418800017408, 4626604192193052672⟩ : Cx))) kc7 rfl rfl rfl (aM 137 (.bool (cxEq kw4.2.1 (⟨4607182418800017408, 4626604192193052672⟩ : Cx))) rfl rfl ?_))))))
 refine ar_gd (d := (some 138)) (by show ((cxEq kw4.2.1 (⟨4607182418800017408, 4626604192193052672⟩ : Cx)) == true) = true; rw [kc8]; rfl) rfl (st_move (v := .int .i64 kw4.2.2) rfl rfl (ar_gd (d := (some 139)) (by show ((cxEq kw4.2.1 (⟨4607182418800017408, 4626604192193052672⟩ : Cx)) == true) = true; rw [kc8]; rfl) rfl (st_bi (r := .bool (kw4.2.2 == 2)) rfl rfl rfl (bi_eql rfl) (ao 140 rfl rfl (st_pkt' (b := cxEq kw4.2.1 (⟨4607182418800017408, 4626604192193052672⟩ : Cx)) (v := .bool (kw4.2.2 == 2)) kc8 rfl rfl rfl (aM 141 (.bool (kw4.2.2 == 2)) rfl rfl ?_))))))
 refine ar_gd (d := (some 142)) (by show ((kw4.2.2 == 2) == true) = true; rw [kc9]; rfl) rfl (st_move (v := .complex .f64 (kw5.2.1).re (kw5.2.1).im) rfl rfl (ar_gd (d := (some 143)) (by show ((kw4.2.2 == 2) == true) = true; rw [kc9]; rfl) rfl (st_bi (r := .bool (cxEq kw5.2.1 (⟨4629418941960159232, 4619567317775286272⟩ : Cx))) rfl rfl rfl (bi_ceql (a := kw5.2.1) (b := (⟨4629418941960159232, 4619567317775286272⟩ : Cx)) rfl) (ao 144 rfl rfl (st_pkt' (b := kw4.2.2 == 2) (v := .bool (cxEq kw5.2.1 (⟨4629418941960159232, 4619567317775286272⟩ : Cx))) kc9 rfl rfl rfl (aM 145 (.bool (cxEq kw5.2.1 (⟨4629418941960159232, 4619567317775286272⟩ : Cx))) rfl rfl ?_))))))
 refine ar_gd (d := (some 146)) (by show ((cxEq kw5.2.1 (⟨4629418941960159232, 4619567317775286272⟩ : Cx)) == true) = true; rw [kc10]; rfl) rfl (st_move (v := .int .i64 kw5.2.2) rfl rfl (ar_gd (d := (some 147)) (by show ((cxEq kw5.2.1 (⟨4629418941960159232, 4619567317775286272⟩ : Cx)) == true) = true; rw [kc10]; rfl) rfl (st_bi (r := .bool (kw5.2.2 == 3)) rfl rfl rfl (bi_eql rfl) (ao 148 rfl rfl (st_pkt' (b := cxEq kw5.2.1 (⟨4629418941960159232, 4619567317775286272⟩ : Cx)) (v := .bool (kw5.2.2 == 3)) kc10 rfl rfl rfl (aM 149 (.bool (kw5.2.2 == 3)) rfl rfl ?_))))))
 refine ar_gd (d := (some 150)) (by show ((kw5.2.2 == 3) == true) = true; rw [kc11]; rfl) rfl (st_lda (vs := [.int .i64 kx0.lo, .int .i64 kx0.hi, .bool kx0.no]) agg32 4 rfl rfl rfl rfl rfl rfl (ar_gd (d := (some 151)) (by show ((kw5.2.2 == 3) == true) = true; rw [kc11]; rfl) rfl (st_cf (c_ivRight kx0) Tryz.func24 rfl (by decide) rfl rfl rfl (ao 152 rfl rfl (st_pkt' (b := kw5.2.2 == 3) (v := .bool (ivRight kx0)) kc11 rfl rfl rfl (aM 153 (.bool (ivRight kx0)) rfl rfl (ar_gd (d := (some 154)) (by show ((ivRight kx0) == true) = true; rw [kc12]; rfl) rfl (st_fa rfl fa32_0 rfl ?_))))))))
 refine ar_gd (d := (some 155)) (by show ((ivRight kx0) == true) = true; rw [kc12]; rfl) rfl (st_ldc (v := .int .i64 kx0.lo) cell3 4 rfl rfl rfl rfl rfl (ar_gd (d := (some 156)) (by show ((ivRight kx0) == true) = true; rw [kc12]; rfl) rfl (st_bi (r := .bool (decide (kx0.lo > 99000))) rfl rfl rfl (bi_gtr rfl) (ao 157 rfl rfl (st_pkt' (b := ivRight kx0) (v := .bool (decide (kx0.lo > 99000))) kc12 rfl rfl rfl (aM 158 (.bool (decide (kx0.lo > 99000))) rfl rfl (ar_gd (d := (some 159)) (by show ((decide (kx0.lo > 99000)) == true) = true; rw [kc13]; rfl) rfl (st_fa rfl fa32_1 rfl ?_))))))))
 refine ar_gd (d := (some 160)) (by show ((decide (kx0.lo > 99000)) == true) = true; rw [kc13]; rfl) rfl (st_ldc (v := .int .i64 kx0.hi) cell3 4 rfl rfl rfl rfl rfl (ar_gd (d := (some 161)) (by show ((decide (kx0.lo > 99000)) == true) = true; rw [kc13]; rfl) rfl (st_bi (r := .bool (decide (kx0.hi < 99600))) rfl rfl rfl (bi_lss rfl) (ao 162 rfl rfl (st_pkt' (b := decide (kx0.lo > 99000)) (v := .bool (decide (kx0.hi < 99600))) kc13 rfl rfl rfl (aM 163 (.bool (decide (kx0.hi < 99600))) rfl rfl ?_))))))
 refine ar_gd (d := (some 164)) (by show ((decide (kx0.hi < 99600)) == true) = true; rw [kc14]; rfl) rfl (st_lda (vs := [.int .i64 kx1.lo, .int .i64 kx1.hi, .bool kx1.no]) agg32 3 rfl rfl rfl rfl rfl rfl (ar_gd (d := (some 165)) (by show ((decide (kx0.hi < 99600)) == true) = true; rw [kc14]; rfl) rfl (st_cf (c_ivRight kx1) Tryz.func24 rfl (by decide) rfl rfl rfl (ao 166 rfl rfl (st_pkt' (b := decide (kx0.hi < 99600)) (v := .bool (ivRight kx1)) kc14 rfl rfl rfl (aM 167 (.bool (ivRight kx1)) rfl rfl ?_))))))
 refine ar_gd (d := (some 168)) (by show ((ivRight kx1) == true) = true; rw [kc15]; rfl) rfl (st_bd (us := [(0, .string (⟨#[97, 105, 114]⟩ : ByteArray))]) (v := .agg #[.string (⟨#[97, 105, 114]⟩ : ByteArray), .int .i64 0, .int .i64 0, .int .i64 0, .int .i64 0, .int .i64 0, .int .i64 0, .int .i64 0, .int .i64 0, .int .i64 0, .int .i64 0, .int .i64 0, .int .i64 0]) rfl rfl (bd29_0 _) (ar_gd (d := (some 169)) (by show ((ivRight kx1) == true) = true; rw [kc15]; rfl) rfl (st_cf c_ivNone Tryz.func25 rfl (by decide) rfl rfl rfl (ar_gd (d := (some 170)) (by show ((ivRight kx1) == true) = true; rw [kc15]; rfl) rfl (st_cf c_kx2 Tryz.func14 rfl (by decide) rfl rfl rfl ?_)))))
 refine ar_gd (d := (some 171)) (by show ((ivRight kx1) == true) = true; rw [kc15]; rfl) rfl (st_cf (c_ivWhole 1) Tryz.func26 rfl (by decide) rfl rfl rfl (ar_gd (d := (some 172)) (by show ((ivRight kx1) == true) = true; rw [kc15]; rfl) rfl (st_bi (r := .bool (decide (kx2 = (ivWhole 1)))) rfl rfl rfl (beql_32 kx2 (ivWhole 1) rfl) (ao 173 rfl rfl (st_pkt' (b := ivRight kx1) (v := .bool (decide (kx2 = (ivWhole 1)))) kc15 rfl rfl rfl (aM 174 (.bool (decide (kx2 = (ivWhole 1)))) rfl rfl (ar_gd (d := (some 175)) (by show ((decide (kx2 = (ivWhole 1))) == true) = true; rw [kc16]; rfl) rfl (st_cf (c_gLnK 3) Tryz.func18 rfl (by decide) rfl rfl rfl ?_))))))))
 refine ar_gd (d := (some 176)) (by show ((decide (kx2 = (ivWhole 1))) == true) = true; rw [kc16]; rfl) rfl (st_cf c_ivNone Tryz.func25 rfl (by decide) rfl rfl rfl (ar_gd (d := (some 177)) (by show ((decide (kx2 = (ivWhole 1))) == true) = true; rw [kc16]; rfl) rfl (st_bi (r := .bool (decide ((gLnK 3) = ivNone))) rfl rfl rfl (beql_32 (gLnK 3) ivNone rfl) (ao 178 rfl rfl (st_pkt' (b := decide (kx2 = (ivWhole 1))) (v := .bool (decide ((gLnK 3) = ivNone))) kc16 rfl rfl rfl (aM 179 (.bool (decide ((gLnK 3) = ivNone))) rfl rfl (ar_gd (d := (some 180)) (by show ((decide ((gLnK 3) = ivNone)) == true) = true; rw [kc17]; rfl) rfl (st_move (v := .bool kf0.2) rfl rfl ?_))))))))
 refine ao 181 rfl rfl (st_pkt' (b := decide ((gLnK 3) = ivNone)) (v := .bool kf0.2) kc17 rfl rfl rfl (aM 182 (.bool kf0.2) rfl rfl (ar_gd (d := (some 183)) (by show (kf0.2 == true) = true; rw [kc18]; rfl) rfl (st_fa rfl fa29_0 rfl (ar_gd (d := (some 184)) (by show (kf0.2 == true) = true; rw [kc18]; rfl) rfl (st_ldc (v := .string kf0.1.name) cell9 1 rfl rfl rfl rfl rfl (ar_gd (d := (some 185)) (by show (kf0.2 == true) = true; rw [kc18]; rfl) rfl (st_bi (r := .bool (sEq kf0.1.name (⟨#[102, 108, 105, 110, 116]⟩ : ByteArray))) rfl rfl rfl (bi_seql rfl) ?_))))))))
 refine ao 186 rfl rfl (st_pkt' (b := kf0.2) (v := .bool (sEq kf0.1.name (⟨#[102, 108, 105, 110, 116]⟩ : ByteArray))) kc18 rfl rfl rfl (aM 187 (.bool (sEq kf0.1.name (⟨#[102, 108, 105, 110, 116]⟩ : ByteArray))) rfl rfl (ar_gd (d := (some 188)) (by show ((sEq kf0.1.name (⟨#[102, 108, 105, 110, 116]⟩ : ByteArray)) == true) = true; rw [kc19]; rfl) rfl (st_move (v := .bool kf1.2) rfl rfl (ar_gd (d := (some 189)) (by show ((sEq kf0.1.name (⟨#[102, 108, 105, 110, 116]⟩ : ByteArray)) == true) = true; rw [kc19]; rfl) rfl (st_un (v := .bool (!kf1.2)) rfl rfl (un_not rfl) ?_))))))
 refine ao 190 rfl rfl (st_pkt' (b := sEq kf0.1.name (⟨#[102, 108, 105, 110, 116]⟩ : ByteArray)) (v := .bool (!kf1.2)) kc19 rfl rfl rfl (aM 191 (.bool (!kf1.2)) rfl rfl (ar_gd (d := (some 192)) (by show ((!kf1.2) == true) = true; rw [kc20]; rfl) rfl (st_move (v := .slice aa8 0 ca8) rfl rfl (ar_gd (d := (some 193)) (by show ((!kf1.2) == true) = true; rw [kc20]; rfl) rfl (st_ln (a := aa8) (m := 0) (c := ca8) rfl Tryz.underlying23 rfl (ar_gd (d := (some 194)) (by show ((!kf1.2) == true) = true; rw [kc20]; rfl) rfl (st_bi (r := .bool true) rfl rfl rfl (bi_eql (by decide)) (ao 195 rfl rfl (st_pkt' (b := !kf1.2) (v := .bool true) (by rw [kc20]; rfl) rfl rfl rfl ?_))))))))))
 refine aM 196 (.bool true) rfl rfl (ar_gd (d := (some 197)) rfl rfl (st_move (v := .int .i64 0) rfl rfl (ar_gd (d := (some 198)) rfl rfl (st_bi (r := .bool true) rfl rfl rfl (bi_eql (by decide)) (ao 199 rfl rfl (st_pkt (v := .bool true) rfl rfl rfl (aM 200 (.bool true) rfl rfl (ar_gd (d := (some 201)) rfl rfl (st_cf (c_gLn1) Tryz.func18 rfl (by decide) rfl rfl rfl (ar_gd (d := (some 202)) rfl rfl (st_cf (c_ivRight gLn1) Tryz.func24 rfl (by decide) rfl rfl rfl (ao 203 rfl rfl (st_pkt (v := .bool (ivRight gLn1)) rfl rfl rfl (aA 0 (.bool (ivRight gLn1)) rfl rfl (aN (ac_ret ?_))))))))))))))))
 exact fing_ret (N := []) ⟨(congrArg Value.bool (by decide +kernel)), rfl⟩ (List.nil_sublist _) rfl (res_tmp rfl rfl)
end Go.Proofs.YtalffjplbhelcaaGreatDoor
namespace Go.Proofs.YtalffjplbhelcaaGreatDoor
open Go.RowKit
theorem glassKnown_calls {W : World} {tP : Nat} (hT : At [powBox tP] W) : Calls Tryz.prog 4 #[] W fun e W' => e = .returned (.bool true) ∧ Below W.heap.size W W' :=
  (c_lawGlassKnown tP W hT (by simp)).mono fun e w' ⟨v, N', he, ⟨hv, _⟩, _, _, hb⟩ => ⟨by rw [he, hv], hb⟩
end Go.Proofs.YtalffjplbhelcaaGreatDoor
