import Derived.Test.YtalffjplbhelcaaDoorMDecBack9
import Derived.Test.YtalffjplbhelcaaDoorMDecBack4
import Derived.Test.YtalffjplbhelcaaDoorMDecBack5
import Derived.Test.YtalffjplbhelcaaDoorMDecBack6
import Derived.Test.YtalffjplbhelcaaDoorMDecBack7
import Derived.Test.YtalffjplbhelcaaDoorMDecBack8
set_option linter.unusedVariables false
set_option linter.unusedSimpArgs false
namespace Go.Proofs.YtalffjplbhelcaaDoor
theorem trim_split (F : List UInt8) : ∃ k, F = Lib.trimRightB F 48 ++ List.replicate k 48 := by
  generalize hn : F.length = n
  induction n generalizing F with
  | zero => obtain rfl := List.eq_nil_of_length_eq_zero hn; exact ⟨0, rfl⟩
  | succ n ih =>
    rcases snoc_cases F with rfl | ⟨G, b, rfl⟩
    · cases hn
    · rw [trim_snoc]
      by_cases hb : b = 48
      · subst hb
        rw [if_pos (show ((48 : UInt8) == 48) = true by decide)]
        obtain ⟨k, hk⟩ := ih G (by rw [List.length_append, List.length_singleton] at hn; omega)
        refine ⟨k + 1, ?_⟩
        rw [List.replicate_succ', ← List.append_assoc, ← hk]
      · rw [if_neg (by rw [beq_iff_eq]; exact hb)]
        exact ⟨0, by simp⟩
theorem trim_more : ∀ (k : Nat) (F : List UInt8), Lib.trimRightB (F ++ List.replicate k 48) 48 = Lib.trimRightB F 48
  | 0, F => by simp
  | k + 1, F => by rw [List.replicate_succ', ← List.append_assoc, trim_snoc, if_pos (show ((48 : UInt8) == 48) = true by decide), trim_more k F]
theorem dval_rep : ∀ (k a : Nat), dval a (List.replicate k 48) = a * 10 ^ k
  | 0, a => by rw [Nat.pow_zero, Nat.mul_one]; rfl
  | k + 1, a => by
    rw [List.replicate_succ', dval_snoc, dval_rep k a, show (48 : UInt8).toNat - 48 = 0 from rfl, Nat.pow_succ, Nat.mul_assoc, Nat.add_zero]
def dbD (mn : Bool) (W F : List UInt8) : Dec := ⟨bif mn then -((dval 0 (W ++ Lib.trimRightB F 48) : Nat) : Int) else ((dval 0 (W ++ Lib.trimRightB F 48) : Nat) : Int), ((Lib.trimRightB F 48).length : Int)⟩
theorem db_worth (W F : List UInt8) : dval 0 (W ++ F) * 10 ^ (Lib.trimRightB F 48).length = dval 0 (W ++ Lib.trimRightB F 48) * 10 ^ F.length := by
  obtain ⟨k, hk⟩ := trim_split F
  have hl : F.length = (Lib.trimRightB F 48).length + k := by
    have := congrArg List.length hk
    rw [List.length_append, List.length_replicate] at this
    exact this
  have hv : dval 0 (W ++ F) = dval 0 (W ++ Lib.trimRightB F 48) * 10 ^ k := by
    have e : W ++ F = (W ++ Lib.trimRightB F 48) ++ List.replicate k 48 := by rw [List.append_assoc, ← hk]
    rw [e, dval_app, dval_rep]
  rw [hv, hl, Nat.pow_add, Nat.mul_assoc, Nat.mul_comm (10 ^ k)]
theorem trim_dig {F : List UInt8} (hF : ∀ b ∈ F, IsDig b) : ∀ b ∈ Lib.trimRightB F 48, IsDig b := fun b hb => hF b ((trimB_sub F 48).1 b hb)
theorem db_lt {W F : List UInt8} (hW : ∀ b ∈ W, IsDig b) (hF : ∀ b ∈ F, IsDig b) : dval 0 (W ++ F) < 10 ^ (W.length + F.length) := by
  have h := dval_lt (W ++ F) 0 0 (fun b hb => (List.mem_append.1 hb).elim (hW b) (hF b)) (by decide)
  rw [Nat.zero_add, List.length_append] at h
  exact h
theorem db_lt11 {W F : List UInt8} (hW : ∀ b ∈ W, IsDig b) (h3 : W.length = 3) (hF : ∀ b ∈ F, IsDig b) (h6 : F.length ≤ 6) : dval 0 (W ++ F) < 100000000000 :=
  Nat.lt_of_lt_of_le (db_lt hW hF) (pow_le11 (by omega))
theorem db_read (mn : Bool) {W F : List UInt8} (hW : ∀ b ∈ W, IsDig b) (h3 : W.length = 3) (hF : ∀ b ∈ F, IsDig b) (h6 : F.length ≤ 6) (hz : mn = true → dval 0 (W ++ F) ≠ 0) : decRead (byA (sgnL mn ++ (W ++ ptL F))) = (dbD mn W F, true) := by
  have h0 : W ≠ [] := by rintro rfl; cases h3
  have hT := trim_dig hF
  have hl := (trimB_sub F 48).2
  have b1 := db_lt11 hW h3 hF h6
  have b2 := db_lt11 hW h3 hT (by omega)
  rw [dval_app] at b1 b2
  have hsz : (byA (sgnL mn ++ (W ++ ptL F))).size ≤ 4000 := by
    show (sgnL mn ++ (W ++ ptL F)).length ≤ 4000
    have e1 : (sgnL mn).length ≤ 1 := by cases mn <;> decide
    have e2 : (ptL F).length ≤ 7 := by
      unfold ptL
      cases F with
      | nil => decide
      | cons b l => show (46 :: b :: l).length ≤ 7; rw [List.length_cons]; omega
    rw [List.length_append, List.length_append]
    omega
  rw [read_eq hsz, read_form mn W F h0 (by omega) hW h6 hF, rEnd_val mn hF h6 b1 b2]
  unfold dbD
  rw [dval_app]
  cases mn
  · rfl
  · have hn : dval (dval 0 W) (Lib.trimRightB F 48) ≠ 0 := by
      intro e
      have hw := db_worth W F
      rw [dval_app W (Lib.trimRightB F 48), e, Nat.zero_mul] at hw
      rcases Nat.mul_eq_zero.1 hw with h | h
      · exact hz rfl h
      · exact absurd h (Nat.ne_of_gt (Nat.pow_pos (by decide)))
    have hb : ((dval (dval 0 W) (Lib.trimRightB F 48) : Int) == 0) = false := by rw [beq_eq_false_iff_ne]; omega
    rw [hb, show w64 (0 - (dval (dval 0 W) (Lib.trimRightB F 48) : Int)) = -(dval (dval 0 W) (Lib.trimRightB F 48) : Int) by rw [w64_in (by omega)]; omega]
    rfl
theorem db_right (mn : Bool) {W F : List UInt8} (hW : ∀ b ∈ W, IsDig b) (h3 : W.length = 3) (hF : ∀ b ∈ F, IsDig b) (h6 : F.length ≤ 6) : decRight (dbD mn W F) = true := by
  have hl := (trimB_sub F 48).2
  have b2 := db_lt11 hW h3 (trim_dig hF) (by omega)
  rw [dval_app] at b2
  unfold dbD
  rw [dval_app]
  exact right_val hF h6 b2 (by cases mn <;> first | exact .inl rfl | exact .inr rfl)
theorem db_natAbs (mn : Bool) (W F : List UInt8) : (dbD mn W F).c.natAbs = dval 0 (W ++ Lib.trimRightB F 48) := by
  unfold dbD
  cases mn
  · exact Int.natAbs_natCast _
  · show (-((dval 0 (W ++ Lib.trimRightB F 48) : Nat) : Int)).natAbs = _
    rw [Int.natAbs_neg]; exact Int.natAbs_natCast _
theorem db_print (mn : Bool) {W F : List UInt8} (hW : ∀ b ∈ W, IsDig b) (h3 : W.length = 3) (hF : ∀ b ∈ F, IsDig b) (h6 : F.length ≤ 6) : decRead (decPrint (dbD mn W F)) = (dbD mn W F, true) := by
  have hR := db_right mn hW h3 hF h6
  refine print_back hR ?_
  have hl := db_lt hW (trim_dig hF)
  rw [h3, Nat.pow_add] at hl
  have hq : (dbD mn W F).c.natAbs / 10 ^ (dbD mn W F).scale.toNat < 1000 := by
    rw [db_natAbs, show (dbD mn W F).scale.toNat = (Lib.trimRightB F 48).length from rfl]
    exact Nat.div_lt_of_lt_mul (by rw [Nat.mul_comm]; exact hl)
  rw [print_parts hR, decide_eq_false (by omega), cond_false]
  intro e
  have h9 : (sgnL (decide ((dbD mn W F).c < 0)) ++ (Lib.decDigits ((dbD mn W F).c.natAbs / 10 ^ (dbD mn W F).scale.toNat) ++ ptL (low (dbD mn W F).c.natAbs (dbD mn W F).scale.toNat))).length = 0 := congrArg ByteArray.size e
  have h8 := List.length_pos_iff.2 (decDig_all ((dbD mn W F).c.natAbs / 10 ^ (dbD mn W F).scale.toNat)).2.2
  rw [List.length_append, List.length_append] at h9
  omega
theorem db_iv {d : Dec} (h : decRight d = true) {v P : Int} (hP : 0 < P) (hP' : P ≤ 10000) (hv : v * decPower d.scale = d.c * P) (hb : -(1000 * decPower d.scale) < d.c ∧ d.c < 1000 * decPower d.scale) (hvb : -10000000 < v ∧ v < 10000000) :
    ivRight (decOf d) = true ∧ w64 ((decOf d).lo * P) ≤ w64 (v * 65536) ∧ w64 ((decOf d).hi * P) ≥ w64 (v * 65536) ∧ w64 ((decOf d).hi - (decOf d).lo) ≤ 1 := by
  have hp := dp_pos d.scale
  generalize hQ : decPower d.scale = Q at *
  have e1 := Int.mul_ediv_add_emod (d.c * 65536) Q
  have e2 := Int.emod_nonneg (d.c * 65536) (Int.ne_of_gt hp)
  have e3 := Int.emod_lt_of_pos (d.c * 65536) hp
  have f1 := Int.mul_ediv_add_emod (-(d.c * 65536)) Q
  have f2 := Int.emod_nonneg (-(d.c * 65536)) (Int.ne_of_gt hp)
  have f3 := Int.emod_lt_of_pos (-(d.c * 65536)) hp
  have hval := decOf_val h
  rw [hQ] at hval
  generalize d.c * 65536 / Q = L at *
  generalize (-(d.c * 65536)) / Q = M at *
  generalize (d.c * 65536) % Q = r at *
  generalize (-(d.c * 65536)) % Q = s at *
  have hL : -65536001 ≤ L ∧ L ≤ 65536000 := by
    refine ⟨?_, ?_⟩
    · by_cases hc : L < -65536001
      · have := Int.mul_le_mul_of_nonneg_left (show L ≤ -65536002 by omega) (Int.le_of_lt hp)
        omega
      · omega
    · by_cases hc : 65536000 < L
      · have := Int.mul_le_mul_of_nonneg_left (show 65536001 ≤ L by omega) (Int.le_of_lt hp)
        omega
      · omega
  have hM : -65536001 ≤ M ∧ M ≤ 65536000 := by
    refine ⟨?_, ?_⟩
    · by_cases hc : M < -65536001
      · have := Int.mul_le_mul_of_nonneg_left (show M ≤ -65536002 by omega) (Int.le_of_lt hp)
        omega
      · omega
    · by_cases hc : 65536000 < M
      · have := Int.mul_le_mul_of_nonneg_left (show 65536001 ≤ M by omega) (Int.le_of_lt hp)
        omega
      · omega
  have hs : Q * (L + M) = -(r + s) := by rw [Int.mul_add]; omega
  have h1 : L + M ≤ 0 := by
    by_cases hc : 0 < L + M
    · have := Int.mul_le_mul_of_nonneg_left (show 1 ≤ L + M by omega) (Int.le_of_lt hp)
      omega
    · omega
  have h2 : -1 ≤ L + M := by
    by_cases hc : L + M < -1
    · have := Int.mul_le_mul_of_nonneg_left (show L + M ≤ -2 by omega) (Int.le_of_lt hp)
      omega
    · omega
  have hR : ivRight (⟨L, -M, false⟩ : Iv) = true := by
    unfold ivRight numIn
    simp only [cond_false]
    rw [decide_eq_true (show L ≥ -1073741824 by omega), decide_eq_true (show L ≤ 1073741824 by omega), decide_eq_true (show -M ≥ -1073741824 by omega), decide_eq_true (show -M ≤ 1073741824 by omega), decide_eq_true (show L ≤ -M by omega)]
    rfl
  have hO : decOf d = ⟨L, -M, false⟩ := by rw [hval]; unfold ivOf; rw [hR]; rfl
  rw [hO]
  refine ⟨hR, ?_, ?_, ?_⟩
  · show w64 (L * P) ≤ _
    have b1 := Int.mul_le_mul_of_nonneg_right hL.2 (Int.le_of_lt hP)
    have b2 := Int.mul_le_mul_of_nonneg_right hL.1 (Int.le_of_lt hP)
    have key : L * P ≤ v * 65536 := by
      by_cases hc : v * 65536 < L * P
      · have h3 : Q * (v * 65536 + 1) ≤ Q * (L * P) := Int.mul_le_mul_of_nonneg_left (by omega) (Int.le_of_lt hp)
        have h4 : Q * (L * P) = (d.c * 65536 - r) * P := by rw [← Int.mul_assoc]; congr 1; omega
        have h5 : Q * (v * 65536) = d.c * P * 65536 := by rw [← hv]; rw [Int.mul_comm Q, Int.mul_assoc, Int.mul_comm 65536, ← Int.mul_assoc]
        have h6 : (d.c * 65536 - r) * P = d.c * P * 65536 - r * P := by rw [Int.sub_mul, Int.mul_assoc, Int.mul_comm 65536 P, ← Int.mul_assoc]
        have h7 : 0 ≤ r * P := Int.mul_nonneg e2 (Int.le_of_lt hP)
        rw [Int.mul_add, Int.mul_one] at h3
        omega
      · omega
    rw [w64_in (by omega), w64_in (by omega)]
    exact key
  · show w64 (-M * P) ≥ _
    have b1 := Int.mul_le_mul_of_nonneg_right hM.2 (Int.le_of_lt hP)
    have b2 := Int.mul_le_mul_of_nonneg_right hM.1 (Int.le_of_lt hP)
    have em : -M * P = -(M * P) := Int.neg_mul _ _
    have key : v * 65536 ≤ -(M * P) := by
      by_cases hc : -(M * P) < v * 65536
      · have h3 : Q * (-(v * 65536) + 1) ≤ Q * (M * P) := Int.mul_le_mul_of_nonneg_left (by omega) (Int.le_of_lt hp)
        have h4 : Q * (M * P) = (-(d.c * 65536) - s) * P := by rw [← Int.mul_assoc]; congr 1; omega
        have h5 : Q * (v * 65536) = d.c * P * 65536 := by rw [← hv]; rw [Int.mul_comm Q, Int.mul_assoc, Int.mul_comm 65536, ← Int.mul_assoc]
        have h6 : (-(d.c * 65536) - s) * P = -(d.c * P * 65536) - s * P := by rw [Int.sub_mul, Int.neg_mul, Int.mul_assoc, Int.mul_comm 65536 P, ← Int.mul_assoc]
        have h7 : 0 ≤ s * P := Int.mul_nonneg f2 (Int.le_of_lt hP)
        rw [Int.mul_add, Int.mul_one, Int.mul_neg] at h3
        omega
      · omega
    rw [em, w64_in (by omega), w64_in (by omega)]
    exact key
  · show w64 (-M - L) ≤ 1
    rw [w64_in (by omega)]
    omega
theorem db_gen (mn : Bool) {W F : List UInt8} {K : Nat} (hW : ∀ b ∈ W, IsDig b) (h3 : W.length = 3) (hF : ∀ b ∈ F, IsDig b) (hl : F.length = K) (hK : K ≤ 4) {v P : Int} (hv : v = bif mn then -((dval 0 (W ++ F) : Nat) : Int) else ((dval 0 (W ++ F) : Nat) : Int)) (hP : P = ((10 ^ K : Nat) : Int)) :
    ivRight (decOf (dbD mn W F)) = true ∧ w64 ((decOf (dbD mn W F)).lo * P) ≤ w64 (v * 65536) ∧ w64 ((decOf (dbD mn W F)).hi * P) ≥ w64 (v * 65536) ∧ w64 ((decOf (dbD mn W F)).hi - (decOf (dbD mn W F)).lo) ≤ 1 := by
  have h4 : 10 ^ K ≤ 10000 := Nat.le_trans (Nat.pow_le_pow_right (by decide) hK) (by decide)
  have hp : 0 < 10 ^ K := Nat.pow_pos (by decide)
  have hw := db_worth W F
  rw [hl] at hw
  have hlt := db_lt hW (trim_dig hF)
  rw [h3, Nat.pow_add, show (10 : Nat) ^ 3 = 1000 from rfl] at hlt
  have hlt2 := db_lt hW hF
  rw [h3, hl, Nat.pow_add, show (10 : Nat) ^ 3 = 1000 from rfl] at hlt2
  have hs : decPower (dbD mn W F).scale = ((10 ^ (Lib.trimRightB F 48).length : Nat) : Int) := by unfold decPower dbD; push_cast; rfl
  have hc : (dbD mn W F).c = bif mn then -((dval 0 (W ++ Lib.trimRightB F 48) : Nat) : Int) else ((dval 0 (W ++ Lib.trimRightB F 48) : Nat) : Int) := rfl
  have hR := db_right mn hW h3 hF (by omega)
  generalize dval 0 (W ++ F) = V at *
  generalize dval 0 (W ++ Lib.trimRightB F 48) = X at *
  generalize 10 ^ (Lib.trimRightB F 48).length = S at *
  generalize 10 ^ K = PK at *
  have hwI : (V : Int) * (S : Int) = (X : Int) * (PK : Int) := by exact_mod_cast hw
  refine db_iv hR (by omega) (by omega) ?_ ?_ ?_
  · rw [hs, hc, hv, hP]
    cases mn
    · exact hwI
    · simp only [cond_true, Int.neg_mul]
      rw [hwI]
  · rw [hs, hc]
    cases mn <;> simp only [cond_true, cond_false] <;> omega
  · rw [hv]
    have : 1000 * PK ≤ 1000 * 10000 := Nat.mul_le_mul_left _ (by omega)
    cases mn <;> simp only [cond_true, cond_false] <;> omega
theorem dbL_eq (c : Int) (K : Nat) : dbL c K = dbW c ++ dbF c K := by rw [dbL]
theorem db_all (mn : Bool) (c : Int) {K : Nat} (hK : K ≤ 4) {v P : Int} (hv : v = bif mn then -((dval 0 (dbL c K) : Nat) : Int) else ((dval 0 (dbL c K) : Nat) : Int)) (hP : P = ((10 ^ K : Nat) : Int)) :
    ivRight (decOf (dbD mn (dbW c) (dbF c K))) = true ∧ w64 ((decOf (dbD mn (dbW c) (dbF c K))).lo * P) ≤ w64 (v * 65536) ∧ w64 ((decOf (dbD mn (dbW c) (dbF c K))).hi * P) ≥ w64 (v * 65536) ∧ w64 ((decOf (dbD mn (dbW c) (dbF c K))).hi - (decOf (dbD mn (dbW c) (dbF c K))).lo) ≤ 1 := by
  rw [dbL_eq] at hv
  exact db_gen mn (dbW_dig c) (dbW_len c) (dbF_dig c K) (dbF_len c hK) hK hv hP
theorem t0_gen (W : List UInt8) : byA W = byA (sgnL false ++ (W ++ ptL [])) := by
  show byA W = byA ([] ++ (W ++ []))
  rw [List.append_nil, List.nil_append]
theorem t0m_gen (W : List UInt8) : (⟨#[45]⟩ : ByteArray) ++ byA W = byA (sgnL true ++ (W ++ ptL [])) := by
  rw [show (⟨#[45]⟩ : ByteArray) = byA [45] from rfl, byA_app]
  show byA ([45] ++ W) = byA ([45] ++ (W ++ []))
  rw [List.append_nil]
theorem dbF_0 (c : Int) : dbF c 0 = [] := by rw [dbF, List.take_zero]
theorem db_t0 (c : Int) : sW c = byA (sgnL false ++ (dbW c ++ ptL (dbF c 0))) := by
  rw [sW_eq, dbF_0]
  exact t0_gen (dbW c)
theorem db_t0m (c : Int) : (⟨#[45]⟩ : ByteArray) ++ sW c = byA (sgnL true ++ (dbW c ++ ptL (dbF c 0))) := by
  rw [sW_eq, dbF_0]
  exact t0m_gen (dbW c)
theorem ptL_cons {F : List UInt8} (h : F ≠ []) : ptL F = 46 :: F := by
  cases F with
  | nil => exact absurd rfl h
  | cons b l => rfl
theorem dbF_ne (c : Int) {K : Nat} (h : K ≤ 4) (h0 : 0 < K) : dbF c K ≠ [] := by
  intro e
  have := dbF_len c h
  rw [e] at this
  have this : 0 = K := this
  omega
theorem tp_gen (W F : List UInt8) (h : F ≠ []) : ((byA W ++ (⟨#[46]⟩ : ByteArray)) ++ byA F) = byA (sgnL false ++ (W ++ ptL F)) := by
  rw [show (⟨#[46]⟩ : ByteArray) = byA [46] from rfl, byA_app, byA_app, ptL_cons h, List.append_assoc]
  rfl
theorem tm_gen (W F : List UInt8) (h : F ≠ []) : (⟨#[45]⟩ : ByteArray) ++ ((byA W ++ (⟨#[46]⟩ : ByteArray)) ++ byA F) = byA (sgnL true ++ (W ++ ptL F)) := by
  rw [tp_gen W F h, show (⟨#[45]⟩ : ByteArray) = byA [45] from rfl, byA_app]
  rfl
theorem db_tp (c : Int) {K : Nat} (h : K ≤ 4) (h0 : 0 < K) : ((sW c ++ (⟨#[46]⟩ : ByteArray)) ++ sF c (K : Int)) = byA (sgnL false ++ (dbW c ++ ptL (dbF c K))) := by
  rw [sW_eq, sF_eq c h]
  exact tp_gen _ _ (dbF_ne c h h0)
theorem db_tm (c : Int) {K : Nat} (h : K ≤ 4) (h0 : 0 < K) : (⟨#[45]⟩ : ByteArray) ++ ((sW c ++ (⟨#[46]⟩ : ByteArray)) ++ sF c (K : Int)) = byA (sgnL true ++ (dbW c ++ ptL (dbF c K))) := by
  rw [sW_eq, sF_eq c h]
  exact tm_gen _ _ (dbF_ne c h h0)
theorem db_zs (z : Int) : ∃ n : Nat, n ≤ 2 ∧ subS (⟨#[48, 48]⟩ : ByteArray) 0 (hPick z 3) = byA (List.replicate n 48) := by
  have := hPick_lt z (m := 3) (by omega) (by omega)
  rcases (by omega : hPick z 3 = 0 ∨ hPick z 3 = 1 ∨ hPick z 3 = 2) with e | e | e <;> rw [e]
  · exact ⟨0, by decide, rfl⟩
  · exact ⟨1, by decide, rfl⟩
  · exact ⟨2, by decide, rfl⟩
theorem ptL_more {F : List UInt8} (h : F ≠ []) (Z : List UInt8) : ptL F ++ Z = ptL (F ++ Z) := by
  rw [ptL_cons h, ptL_cons (by simp [h])]
  rfl
theorem dbD_more (mn : Bool) (W F : List UInt8) (n : Nat) : dbD mn W (F ++ List.replicate n 48) = dbD mn W F := by
  unfold dbD
  rw [trim_more]
theorem db_readK (mn : Bool) (c : Int) {K : Nat} (h : K ≤ 4) (hz : mn = true → dval 0 (dbL c K) ≠ 0) : decRead (byA (sgnL mn ++ (dbW c ++ ptL (dbF c K)))) = (dbD mn (dbW c) (dbF c K), true) :=
  db_read mn (dbW_dig c) (dbW_len c) (dbF_dig c K) (by rw [dbF_len c h]; omega) hz
theorem db_moreK (mn : Bool) (c z : Int) {K : Nat} (h : K ≤ 4) (h0 : 0 < K) (hz : mn = true → dval 0 (dbL c K) ≠ 0) : decRead (byA (sgnL mn ++ (dbW c ++ ptL (dbF c K))) ++ subS (⟨#[48, 48]⟩ : ByteArray) 0 (hPick z 3)) = (dbD mn (dbW c) (dbF c K), true) := by
  obtain ⟨n, hn, e⟩ := db_zs z
  rw [e, byA_app, List.append_assoc, List.append_assoc, ptL_more (dbF_ne c h h0), ← dbD_more mn (dbW c) (dbF c K) n]
  refine db_read mn (dbW_dig c) (dbW_len c) ?_ ?_ ?_
  · intro b hb
    rcases List.mem_append.1 hb with hb | hb
    · exact dbF_dig c K b hb
    · rw [List.eq_of_mem_replicate hb]; unfold IsDig; decide
  · rw [List.length_append, List.length_replicate, dbF_len c h]; omega
  · intro hm e0
    rw [← List.append_assoc, dval_app, dval_rep] at e0
    rcases Nat.mul_eq_zero.1 e0 with h1 | h1
    · exact hz hm h1
    · exact absurd h1 (Nat.ne_of_gt (Nat.pow_pos (by decide)))
end Go.Proofs.YtalffjplbhelcaaDoor
namespace Go.Proofs.YtalffjplbhelcaaDoor
open Go.RowKit
theorem k9_true : known9 = true := by decide +kernel
theorem db_V (c : Int) {K : Nat} (h : K ≤ 4) : dval 0 (dbL c K) < 10000000000 := by
  have h1 := dval_lt (dbL c K) 0 0 (dbL_dig c K) (by decide)
  rw [Nat.zero_add] at h1
  exact Nat.lt_of_lt_of_le h1 (Nat.le_trans (Nat.pow_le_pow_right (by decide) (dbL_len c h)) (by decide))
theorem cT {b a : Bool} (hb : b = true) (ha : a = true) : (bif b then a else false) = true := by rw [hb, ha]; rfl
theorem cN {V : Nat} (h : V < 10000000000) : w64 (0 - (V : Int)) = -(V : Int) := by rw [w64_in (by omega)]; omega
theorem lawDB0_true (c k zeros : Int) (minus : Bool) : lawDB0 c k zeros minus = true := by
  have hV := db_V c (K := 0) (by decide)
  unfold lawDB0 lawDB0_e0 lawDB0_e1
  cases minus
  · have hT : decRead (sW c) = (dbD false (dbW c) (dbF c 0), true) := by rw [show sW c = _ from db_t0 c]; exact db_readK false c (K := 0) (by decide) (fun h => by cases h)
    have P := db_print false (dbW_dig c) (dbW_len c) (dbF_dig c 0) (by rw [dbF_len c (by decide)]; decide)
    have D := db_right false (dbW_dig c) (dbW_len c) (dbF_dig c 0) (by rw [dbF_len c (by decide)]; decide)
    have A := db_all false c (K := 0) (by decide) (v := ((dval 0 (dbL c 0) : Nat) : Int)) (P := 1) (by rw [cond_false]) (by decide)
    generalize dbD false (dbW c) (dbF c 0) = X at *
    generalize dval 0 (dbL c 0) = V at *
    generalize sW c = sw at *
    rw [cond_false]
    rw [hT]
    have P' : decRead (decPrint ((X, true) : Dec × Bool).1) = (X, true) := P
    rw [P']
    refine cT k9_true ?_
    refine cT rfl ?_
    refine cT rfl ?_
    refine cT (decide_eq_true rfl) ?_
    refine cT (decide_eq_true rfl) ?_
    refine cT D ?_
    refine cT A.1 ?_
    refine cT (decide_eq_true A.2.1) ?_
    refine cT (decide_eq_true A.2.2.1) ?_
    exact (decide_eq_true A.2.2.2)
  · rw [cond_true]
    by_cases hz : dval 0 (dbL c 0) = 0
    · have hT : decRead (sW c) = (dbD false (dbW c) (dbF c 0), true) := by rw [show sW c = _ from db_t0 c]; exact db_readK false c (K := 0) (by decide) (fun h => by cases h)
      have P := db_print false (dbW_dig c) (dbW_len c) (dbF_dig c 0) (by rw [dbF_len c (by decide)]; decide)
      have D := db_right false (dbW_dig c) (dbW_len c) (dbF_dig c 0) (by rw [dbF_len c (by decide)]; decide)
      have A := db_all false c (K := 0) (by decide) (v := ((dval 0 (dbL c 0) : Nat) : Int)) (P := 1) (by rw [cond_false]) (by decide)
      generalize dbD false (dbW c) (dbF c 0) = X at *
      generalize dval 0 (dbL c 0) = V at *
      generalize sW c = sw at *
      rw [decide_eq_false (show ¬ ((V : Int) > 0) by omega), cond_false]
      rw [hT]
      have P' : decRead (decPrint ((X, true) : Dec × Bool).1) = (X, true) := P
      rw [P']
      refine cT k9_true ?_
      refine cT rfl ?_
      refine cT rfl ?_
      refine cT (decide_eq_true rfl) ?_
      refine cT (decide_eq_true rfl) ?_
      refine cT D ?_
      refine cT A.1 ?_
      refine cT (decide_eq_true A.2.1) ?_
      refine cT (decide_eq_true A.2.2.1) ?_
      exact (decide_eq_true A.2.2.2)
    · have hT : decRead ((⟨#[45]⟩ : ByteArray) ++ sW c) = (dbD true (dbW c) (dbF c 0), true) := by rw [show ((⟨#[45]⟩ : ByteArray) ++ sW c) = _ from db_t0m c]; exact db_readK true c (K := 0) (by decide) (fun _ => hz)
      have P := db_print true (dbW_dig c) (dbW_len c) (dbF_dig c 0) (by rw [dbF_len c (by decide)]; decide)
      have D := db_right true (dbW_dig c) (dbW_len c) (dbF_dig c 0) (by rw [dbF_len c (by decide)]; decide)
      have A := db_all true c (K := 0) (by decide) (v := -((dval 0 (dbL c 0) : Nat) : Int)) (P := 1) (by rw [cond_true]) (by decide)
      generalize dbD true (dbW c) (dbF c 0) = X at *
      generalize dval 0 (dbL c 0) = V at *
      generalize sW c = sw at *
      rw [decide_eq_true (show (V : Int) > 0 by omega), cond_true]
      rw [hT]
      have P' : decRead (decPrint ((X, true) : Dec × Bool).1) = (X, true) := P
      rw [P']
      rw [cN hV]
      refine cT k9_true ?_
      refine cT rfl ?_
      refine cT rfl ?_
      refine cT (decide_eq_true rfl) ?_
      refine cT (decide_eq_true rfl) ?_
      refine cT D ?_
      refine cT A.1 ?_
      refine cT (decide_eq_true A.2.1) ?_
      refine cT (decide_eq_true A.2.2.1) ?_
      exact (decide_eq_true A.2.2.2)
theorem lawDB1_true (c k zeros : Int) (minus : Bool) : lawDB1 c k zeros minus = true := by
  have hV := db_V c (K := 1) (by decide)
  unfold lawDB1 lawDB1_e0 lawDB1_e1 lawDB1_e2 lawDB1_e3 lawDB1_e4 lawDB1_e5
  cases minus
  · have hT : decRead ((sW c ++ (⟨#[46]⟩ : ByteArray)) ++ sF c 1) = (dbD false (dbW c) (dbF c 1), true) := by rw [show ((sW c ++ (⟨#[46]⟩ : ByteArray)) ++ sF c 1) = _ from db_tp c (K := 1) (by decide) (by decide)]; exact db_readK false c (K := 1) (by decide) (fun h => by cases h)
    have hM : decRead (((sW c ++ (⟨#[46]⟩ : ByteArray)) ++ sF c 1) ++ subS (⟨#[48, 48]⟩ : ByteArray) 0 (hPick zeros 3)) = (dbD false (dbW c) (dbF c 1), true) := by rw [show ((sW c ++ (⟨#[46]⟩ : ByteArray)) ++ sF c 1) = _ from db_tp c (K := 1) (by decide) (by decide)]; exact db_moreK false c zeros (K := 1) (by decide) (by decide) (fun h => by cases h)
    have P := db_print false (dbW_dig c) (dbW_len c) (dbF_dig c 1) (by rw [dbF_len c (by decide)]; decide)
    have D := db_right false (dbW_dig c) (dbW_len c) (dbF_dig c 1) (by rw [dbF_len c (by decide)]; decide)
    have A := db_all false c (K := 1) (by decide) (v := ((dval 0 (dbL c 1) : Nat) : Int)) (P := 10) (by rw [cond_false]) (by decide)
    generalize dbD false (dbW c) (dbF c 1) = X at *
    generalize dval 0 (dbL c 1) = V at *
    generalize sF c 1 = sf at *
    generalize sW c = sw at *
    rw [cond_false]
    rw [hT, hM]
    have P' : decRead (decPrint ((X, true) : Dec × Bool).1) = (X, true) := P
    rw [P']
    refine cT k9_true ?_
    refine cT rfl ?_
    refine cT rfl ?_
    refine cT rfl ?_
    refine cT (decide_eq_true rfl) ?_
    refine cT (decide_eq_true rfl) ?_
    refine cT D ?_
    refine cT A.1 ?_
    refine cT (decide_eq_true A.2.1) ?_
    refine cT (decide_eq_true A.2.2.1) ?_
    exact (decide_eq_true A.2.2.2)
  · rw [cond_true]
    by_cases hz : dval 0 (dbL c 1) = 0
    · have hT : decRead ((sW c ++ (⟨#[46]⟩ : ByteArray)) ++ sF c 1) = (dbD false (dbW c) (dbF c 1), true) := by rw [show ((sW c ++ (⟨#[46]⟩ : ByteArray)) ++ sF c 1) = _ from db_tp c (K := 1) (by decide) (by decide)]; exact db_readK false c (K := 1) (by decide) (fun h => by cases h)
      have hM : decRead (((sW c ++ (⟨#[46]⟩ : ByteArray)) ++ sF c 1) ++ subS (⟨#[48, 48]⟩ : ByteArray) 0 (hPick zeros 3)) = (dbD false (dbW c) (dbF c 1), true) := by rw [show ((sW c ++ (⟨#[46]⟩ : ByteArray)) ++ sF c 1) = _ from db_tp c (K := 1) (by decide) (by decide)]; exact db_moreK false c zeros (K := 1) (by decide) (by decide) (fun h => by cases h)
      have P := db_print false (dbW_dig c) (dbW_len c) (dbF_dig c 1) (by rw [dbF_len c (by decide)]; decide)
      have D := db_right false (dbW_dig c) (dbW_len c) (dbF_dig c 1) (by rw [dbF_len c (by decide)]; decide)
      have A := db_all false c (K := 1) (by decide) (v := ((dval 0 (dbL c 1) : Nat) : Int)) (P := 10) (by rw [cond_false]) (by decide)
      generalize dbD false (dbW c) (dbF c 1) = X at *
      generalize dval 0 (dbL c 1) = V at *
      generalize sF c 1 = sf at *
      generalize sW c = sw at *
      rw [decide_eq_false (show ¬ ((V : Int) > 0) by omega), cond_false]
      rw [hT, hM]
      have P' : decRead (decPrint ((X, true) : Dec × Bool).1) = (X, true) := P
      rw [P']
      refine cT k9_true ?_
      refine cT rfl ?_
      refine cT rfl ?_
      refine cT rfl ?_
      refine cT (decide_eq_true rfl) ?_
      refine cT (decide_eq_true rfl) ?_
      refine cT D ?_
      refine cT A.1 ?_
      refine cT (decide_eq_true A.2.1) ?_
      refine cT (decide_eq_true A.2.2.1) ?_
      exact (decide_eq_true A.2.2.2)
    · have hT : decRead ((⟨#[45]⟩ : ByteArray) ++ ((sW c ++ (⟨#[46]⟩ : ByteArray)) ++ sF c 1)) = (dbD true (dbW c) (dbF c 1), true) := by rw [show ((⟨#[45]⟩ : ByteArray) ++ ((sW c ++ (⟨#[46]⟩ : ByteArray)) ++ sF c 1)) = _ from db_tm c (K := 1) (by decide) (by decide)]; exact db_readK true c (K := 1) (by decide) (fun _ => hz)
      have hM : decRead (((⟨#[45]⟩ : ByteArray) ++ ((sW c ++ (⟨#[46]⟩ : ByteArray)) ++ sF c 1)) ++ subS (⟨#[48, 48]⟩ : ByteArray) 0 (hPick zeros 3)) = (dbD true (dbW c) (dbF c 1), true) := by rw [show ((⟨#[45]⟩ : ByteArray) ++ ((sW c ++ (⟨#[46]⟩ : ByteArray)) ++ sF c 1)) = _ from db_tm c (K := 1) (by decide) (by decide)]; exact db_moreK true c zeros (K := 1) (by decide) (by decide) (fun _ => hz)
      have P := db_print true (dbW_dig c) (dbW_len c) (dbF_dig c 1) (by rw [dbF_len c (by decide)]; decide)
      have D := db_right true (dbW_dig c) (dbW_len c) (dbF_dig c 1) (by rw [dbF_len c (by decide)]; decide)
      have A := db_all true c (K := 1) (by decide) (v := -((dval 0 (dbL c 1) : Nat) : Int)) (P := 10) (by rw [cond_true]) (by decide)
      generalize dbD true (dbW c) (dbF c 1) = X at *
      generalize dval 0 (dbL c 1) = V at *
      generalize sF c 1 = sf at *
      generalize sW c = sw at *
      rw [decide_eq_true (show (V : Int) > 0 by omega), cond_true]
      rw [hT, hM]
      have P' : decRead (decPrint ((X, true) : Dec × Bool).1) = (X, true) := P
      rw [P']
      rw [cN hV]
      refine cT k9_true ?_
      refine cT rfl ?_
      refine cT rfl ?_
      refine cT rfl ?_
      refine cT (decide_eq_true rfl) ?_
      refine cT (decide_eq_true rfl) ?_
      refine cT D ?_
      refine cT A.1 ?_
      refine cT (decide_eq_true A.2.1) ?_
      refine cT (decide_eq_true A.2.2.1) ?_
      exact (decide_eq_true A.2.2.2)
theorem lawDB2_true (c k zeros : Int) (minus : Bool) : lawDB2 c k zeros minus = true := by
  have hV := db_V c (K := 2) (by decide)
  unfold lawDB2 lawDB2_e0 lawDB2_e1 lawDB2_e2 lawDB2_e3 lawDB2_e4 lawDB2_e5
  cases minus
  · have hT : decRead ((sW c ++ (⟨#[46]⟩ : ByteArray)) ++ sF c 2) = (dbD false (dbW c) (dbF c 2), true) := by rw [show ((sW c ++ (⟨#[46]⟩ : ByteArray)) ++ sF c 2) = _ from db_tp c (K := 2) (by decide) (by decide)]; exact db_readK false c (K := 2) (by decide) (fun h => by cases h)
    have hM : decRead (((sW c ++ (⟨#[46]⟩ : ByteArray)) ++ sF c 2) ++ subS (⟨#[48, 48]⟩ : ByteArray) 0 (hPick zeros 3)) = (dbD false (dbW c) (dbF c 2), true) := by rw [show ((sW c ++ (⟨#[46]⟩ : ByteArray)) ++ sF c 2) = _ from db_tp c (K := 2) (by decide) (by decide)]; exact db_moreK false c zeros (K := 2) (by decide) (by decide) (fun h => by cases h)
    have P := db_print false (dbW_dig c) (dbW_len c) (dbF_dig c 2) (by rw [dbF_len c (by decide)]; decide)
    have D := db_right false (dbW_dig c) (dbW_len c) (dbF_dig c 2) (by rw [dbF_len c (by decide)]; decide)
    have A := db_all false c (K := 2) (by decide) (v := ((dval 0 (dbL c 2) : Nat) : Int)) (P := 100) (by rw [cond_false]) (by decide)
    generalize dbD false (dbW c) (dbF c 2) = X at *
    generalize dval 0 (dbL c 2) = V at *
    generalize sF c 2 = sf at *
    generalize sW c = sw at *
    rw [cond_false]
    rw [hT, hM]
    have P' : decRead (decPrint ((X, true) : Dec × Bool).1) = (X, true) := P
    rw [P']
    refine cT k9_true ?_
    refine cT rfl ?_
    refine cT rfl ?_
    refine cT rfl ?_
    refine cT (decide_eq_true rfl) ?_
    refine cT (decide_eq_true rfl) ?_
    refine cT D ?_
    refine cT A.1 ?_
    refine cT (decide_eq_true A.2.1) ?_
    refine cT (decide_eq_true A.2.2.1) ?_
    exact (decide_eq_true A.2.2.2)
  · rw [cond_true]
    by_cases hz : dval 0 (dbL c 2) = 0
    · have hT : decRead ((sW c ++ (⟨#[46]⟩ : ByteArray)) ++ sF c 2) = (dbD false (dbW c) (dbF c 2), true) := by rw [show ((sW c ++ (⟨#[46]⟩ : ByteArray)) ++ sF c 2) = _ from db_tp c (K := 2) (by decide) (by decide)]; exact db_readK false c (K := 2) (by decide) (fun h => by cases h)
      have hM : decRead (((sW c ++ (⟨#[46]⟩ : ByteArray)) ++ sF c 2) ++ subS (⟨#[48, 48]⟩ : ByteArray) 0 (hPick zeros 3)) = (dbD false (dbW c) (dbF c 2), true) := by rw [show ((sW c ++ (⟨#[46]⟩ : ByteArray)) ++ sF c 2) = _ from db_tp c (K := 2) (by decide) (by decide)]; exact db_moreK false c zeros (K := 2) (by decide) (by decide) (fun h => by cases h)
      have P := db_print false (dbW_dig c) (dbW_len c) (dbF_dig c 2) (by rw [dbF_len c (by decide)]; decide)
      have D := db_right false (dbW_dig c) (dbW_len c) (dbF_dig c 2) (by rw [dbF_len c (by decide)]; decide)
      have A := db_all false c (K := 2) (by decide) (v := ((dval 0 (dbL c 2) : Nat) : Int)) (P := 100) (by rw [cond_false]) (by decide)
      generalize dbD false (dbW c) (dbF c 2) = X at *
      generalize dval 0 (dbL c 2) = V at *
      generalize sF c 2 = sf at *
      generalize sW c = sw at *
      rw [decide_eq_false (show ¬ ((V : Int) > 0) by omega), cond_false]
      rw [hT, hM]
      have P' : decRead (decPrint ((X, true) : Dec × Bool).1) = (X, true) := P
      rw [P']
      refine cT k9_true ?_
      refine cT rfl ?_
      refine cT rfl ?_
      refine cT rfl ?_
      refine cT (decide_eq_true rfl) ?_
      refine cT (decide_eq_true rfl) ?_
      refine cT D ?_
      refine cT A.1 ?_
      refine cT (decide_eq_true A.2.1) ?_
      refine cT (decide_eq_true A.2.2.1) ?_
      exact (decide_eq_true A.2.2.2)
    · have hT : decRead ((⟨#[45]⟩ : ByteArray) ++ ((sW c ++ (⟨#[46]⟩ : ByteArray)) ++ sF c 2)) = (dbD true (dbW c) (dbF c 2), true) := by rw [show ((⟨#[45]⟩ : ByteArray) ++ ((sW c ++ (⟨#[46]⟩ : ByteArray)) ++ sF c 2)) = _ from db_tm c (K := 2) (by decide) (by decide)]; exact db_readK true c (K := 2) (by decide) (fun _ => hz)
      have hM : decRead (((⟨#[45]⟩ : ByteArray) ++ ((sW c ++ (⟨#[46]⟩ : ByteArray)) ++ sF c 2)) ++ subS (⟨#[48, 48]⟩ : ByteArray) 0 (hPick zeros 3)) = (dbD true (dbW c) (dbF c 2), true) := by rw [show ((⟨#[45]⟩ : ByteArray) ++ ((sW c ++ (⟨#[46]⟩ : ByteArray)) ++ sF c 2)) = _ from db_tm c (K := 2) (by decide) (by decide)]; exact db_moreK true c zeros (K := 2) (by decide) (by decide) (fun _ => hz)
      have P := db_print true (dbW_dig c) (dbW_len c) (dbF_dig c 2) (by rw [dbF_len c (by decide)]; decide)
      have D := db_right true (dbW_dig c) (dbW_len c) (dbF_dig c 2) (by rw [dbF_len c (by decide)]; decide)
      have A := db_all true c (K := 2) (by decide) (v := -((dval 0 (dbL c 2) : Nat) : Int)) (P := 100) (by rw [cond_true]) (by decide)
      generalize dbD true (dbW c) (dbF c 2) = X at *
      generalize dval 0 (dbL c 2) = V at *
      generalize sF c 2 = sf at *
      generalize sW c = sw at *
      rw [decide_eq_true (show (V : Int) > 0 by omega), cond_true]
      rw [hT, hM]
      have P' : decRead (decPrint ((X, true) : Dec × Bool).1) = (X, true) := P
      rw [P']
      rw [cN hV]
      refine cT k9_true ?_
      refine cT rfl ?_
      refine cT rfl ?_
      refine cT rfl ?_
      refine cT (decide_eq_true rfl) ?_
      refine cT (decide_eq_true rfl) ?_
      refine cT D ?_
      refine cT A.1 ?_
      refine cT (decide_eq_true A.2.1) ?_
      refine cT (decide_eq_true A.2.2.1) ?_
      exact (decide_eq_true A.2.2.2)
theorem lawDB3_true (c k zeros : Int) (minus : Bool) : lawDB3 c k zeros minus = true := by
  have hV := db_V c (K := 3) (by decide)
  unfold lawDB3 lawDB3_e0 lawDB3_e1 lawDB3_e2 lawDB3_e3 lawDB3_e4 lawDB3_e5
  cases minus
  · have hT : decRead ((sW c ++ (⟨#[46]⟩ : ByteArray)) ++ sF c 3) = (dbD false (dbW c) (dbF c 3), true) := by rw [show ((sW c ++ (⟨#[46]⟩ : ByteArray)) ++ sF c 3) = _ from db_tp c (K := 3) (by decide) (by decide)]; exact db_readK false c (K := 3) (by decide) (fun h => by cases h)
    have hM : decRead (((sW c ++ (⟨#[46]⟩ : ByteArray)) ++ sF c 3) ++ subS (⟨#[48, 48]⟩ : ByteArray) 0 (hPick zeros 3)) = (dbD false (dbW c) (dbF c 3), true) := by rw [show ((sW c ++ (⟨#[46]⟩ : ByteArray)) ++ sF c 3) = _ from db_tp c (K := 3) (by decide) (by decide)]; exact db_moreK false c zeros (K := 3) (by decide) (by decide) (fun h => by cases h)
    have P := db_print false (dbW_dig c) (dbW_len c) (dbF_dig c 3) (by rw [dbF_len c (by decide)]; decide)
    have D := db_right false (dbW_dig c) (dbW_len c) (dbF_dig c 3) (by rw [dbF_len c (by decide)]; decide)
    have A := db_all false c (K := 3) (by decide) (v := ((dval 0 (dbL c 3) : Nat) : Int)) (P := 1000) (by rw [cond_false]) (by decide)
    generalize dbD false (dbW c) (dbF c 3) = X at *
    generalize dval 0 (dbL c 3) = V at *
    generalize sF c 3 = sf at *
    generalize sW c = sw at *
    rw [cond_false]
    rw [hT, hM]
    have P' : decRead (decPrint ((X, true) : Dec × Bool).1) = (X, true) := P
    rw [P']
    refine cT k9_true ?_
    refine cT rfl ?_
    refine cT rfl ?_
    refine cT rfl ?_
    refine cT (decide_eq_true rfl) ?_
    refine cT (decide_eq_true rfl) ?_
    refine cT D ?_
    refine cT A.1 ?_
    refine cT (decide_eq_true A.2.1) ?_
    refine cT (decide_eq_true A.2.2.1) ?_
    exact (decide_eq_true A.2.2.2)
  · rw [cond_true]
    by_cases hz : dval 0 (dbL c 3) = 0
    · have hT : decRead ((sW c ++ (⟨#[46]⟩ : ByteArray)) ++ sF c 3) = (dbD false (dbW c) (dbF c 3), true) := by rw [show ((sW c ++ (⟨#[46]⟩ : ByteArray)) ++ sF c 3) = _ from db_tp c (K := 3) (by decide) (by decide)]; exact db_readK false c (K := 3) (by decide) (fun h => by cases h)
      have hM : decRead (((sW c ++ (⟨#[46]⟩ : ByteArray)) ++ sF c 3) ++ subS (⟨#[48, 48]⟩ : ByteArray) 0 (hPick zeros 3)) = (dbD false (dbW c) (dbF c 3), true) := by rw [show ((sW c ++ (⟨#[46]⟩ : ByteArray)) ++ sF c 3) = _ from db_tp c (K := 3) (by decide) (by decide)]; exact db_moreK false c zeros (K := 3) (by decide) (by decide) (fun h => by cases h)
      have P := db_print false (dbW_dig c) (dbW_len c) (dbF_dig c 3) (by rw [dbF_len c (by decide)]; decide)
      have D := db_right false (dbW_dig c) (dbW_len c) (dbF_dig c 3) (by rw [dbF_len c (by decide)]; decide)
      have A := db_all false c (K := 3) (by decide) (v := ((dval 0 (dbL c 3) : Nat) : Int)) (P := 1000) (by rw [cond_false]) (by decide)
      generalize dbD false (dbW c) (dbF c 3) = X at *
      generalize dval 0 (dbL c 3) = V at *
      generalize sF c 3 = sf at *
      generalize sW c = sw at *
      rw [decide_eq_false (show ¬ ((V : Int) > 0) by omega), cond_false]
      rw [hT, hM]
      have P' : decRead (decPrint ((X, true) : Dec × Bool).1) = (X, true) := P
      rw [P']
      refine cT k9_true ?_
      refine cT rfl ?_
      refine cT rfl ?_
      refine cT rfl ?_
      refine cT (decide_eq_true rfl) ?_
      refine cT (decide_eq_true rfl) ?_
      refine cT D ?_
      refine cT A.1 ?_
      refine cT (decide_eq_true A.2.1) ?_
      refine cT (decide_eq_true A.2.2.1) ?_
      exact (decide_eq_true A.2.2.2)
    · have hT : decRead ((⟨#[45]⟩ : ByteArray) ++ ((sW c ++ (⟨#[46]⟩ : ByteArray)) ++ sF c 3)) = (dbD true (dbW c) (dbF c 3), true) := by rw [show ((⟨#[45]⟩ : ByteArray) ++ ((sW c ++ (⟨#[46]⟩ : ByteArray)) ++ sF c 3)) = _ from db_tm c (K := 3) (by decide) (by decide)]; exact db_readK true c (K := 3) (by decide) (fun _ => hz)
      have hM : decRead (((⟨#[45]⟩ : ByteArray) ++ ((sW c ++ (⟨#[46]⟩ : ByteArray)) ++ sF c 3)) ++ subS (⟨#[48, 48]⟩ : ByteArray) 0 (hPick zeros 3)) = (dbD true (dbW c) (dbF c 3), true) := by rw [show ((⟨#[45]⟩ : ByteArray) ++ ((sW c ++ (⟨#[46]⟩ : ByteArray)) ++ sF c 3)) = _ from db_tm c (K := 3) (by decide) (by decide)]; exact db_moreK true c zeros (K := 3) (by decide) (by decide) (fun _ => hz)
      have P := db_print true (dbW_dig c) (dbW_len c) (dbF_dig c 3) (by rw [dbF_len c (by decide)]; decide)
      have D := db_right true (dbW_dig c) (dbW_len c) (dbF_dig c 3) (by rw [dbF_len c (by decide)]; decide)
      have A := db_all true c (K := 3) (by decide) (v := -((dval 0 (dbL c 3) : Nat) : Int)) (P := 1000) (by rw [cond_true]) (by decide)
      generalize dbD true (dbW c) (dbF c 3) = X at *
      generalize dval 0 (dbL c 3) = V at *
      generalize sF c 3 = sf at *
      generalize sW c = sw at *
      rw [decide_eq_true (show (V : Int) > 0 by omega), cond_true]
      rw [hT, hM]
      have P' : decRead (decPrint ((X, true) : Dec × Bool).1) = (X, true) := P
      rw [P']
      rw [cN hV]
      refine cT k9_true ?_
      refine cT rfl ?_
      refine cT rfl ?_
      refine cT rfl ?_
      refine cT (decide_eq_true rfl) ?_
      refine cT (decide_eq_true rfl) ?_
      refine cT D ?_
      refine cT A.1 ?_
      refine cT (decide_eq_true A.2.1) ?_
      refine cT (decide_eq_true A.2.2.1) ?_
      exact (decide_eq_true A.2.2.2)
theorem lawDB4_true (c k zeros : Int) (minus : Bool) : lawDB4 c k zeros minus = true := by
  have hV := db_V c (K := 4) (by decide)
  unfold lawDB4 lawDB4_e0 lawDB4_e1 lawDB4_e2 lawDB4_e3 lawDB4_e4 lawDB4_e5
  cases minus
  · have hT : decRead ((sW c ++ (⟨#[46]⟩ : ByteArray)) ++ sF c 4) = (dbD false (dbW c) (dbF c 4), true) := by rw [show ((sW c ++ (⟨#[46]⟩ : ByteArray)) ++ sF c 4) = _ from db_tp c (K := 4) (by decide) (by decide)]; exact db_readK false c (K := 4) (by decide) (fun h => by cases h)
    have hM : decRead (((sW c ++ (⟨#[46]⟩ : ByteArray)) ++ sF c 4) ++ subS (⟨#[48, 48]⟩ : ByteArray) 0 (hPick zeros 3)) = (dbD false (dbW c) (dbF c 4), true) := by rw [show ((sW c ++ (⟨#[46]⟩ : ByteArray)) ++ sF c 4) = _ from db_tp c (K := 4) (by decide) (by decide)]; exact db_moreK false c zeros (K := 4) (by decide) (by decide) (fun h => by cases h)
    have P := db_print false (dbW_dig c) (dbW_len c) (dbF_dig c 4) (by rw [dbF_len c (by decide)]; decide)
    have D := db_right false (dbW_dig c) (dbW_len c) (dbF_dig c 4) (by rw [dbF_len c (by decide)]; decide)
    have A := db_all false c (K := 4) (by decide) (v := ((dval 0 (dbL c 4) : Nat) : Int)) (P := 10000) (by rw [cond_false]) (by decide)
    generalize dbD false (dbW c) (dbF c 4) = X at *
    generalize dval 0 (dbL c 4) = V at *
    generalize sF c 4 = sf at *
    generalize sW c = sw at *
    rw [cond_false]
    rw [hT, hM]
    have P' : decRead (decPrint ((X, true) : Dec × Bool).1) = (X, true) := P
    rw [P']
    refine cT k9_true ?_
    refine cT rfl ?_
    refine cT rfl ?_
    refine cT rfl ?_
    refine cT (decide_eq_true rfl) ?_
    refine cT (decide_eq_true rfl) ?_
    refine cT D ?_
    refine cT A.1 ?_
    refine cT (decide_eq_true A.2.1) ?_
    refine cT (decide_eq_true A.2.2.1) ?_
    exact (decide_eq_true A.2.2.2)
  · rw [cond_true]
    by_cases hz : dval 0 (dbL c 4) = 0
    · have hT : decRead ((sW c ++ (⟨#[46]⟩ : ByteArray)) ++ sF c 4) = (dbD false (dbW c) (dbF c 4), true) := by rw [show ((sW c ++ (⟨#[46]⟩ : ByteArray)) ++ sF c 4) = _ from db_tp c (K := 4) (by decide) (by decide)]; exact db_readK false c (K := 4) (by decide) (fun h => by cases h)
      have hM : decRead (((sW c ++ (⟨#[46]⟩ : ByteArray)) ++ sF c 4) ++ subS (⟨#[48, 48]⟩ : ByteArray) 0 (hPick zeros 3)) = (dbD false (dbW c) (dbF c 4), true) := by rw [show ((sW c ++ (⟨#[46]⟩ : ByteArray)) ++ sF c 4) = _ from db_tp c (K := 4) (by decide) (by decide)]; exact db_moreK false c zeros (K := 4) (by decide) (by decide) (fun h => by cases h)
      have P := db_print false (dbW_dig c) (dbW_len c) (dbF_dig c 4) (by rw [dbF_len c (by decide)]; decide)
      have D := db_right false (dbW_dig c) (dbW_len c) (dbF_dig c 4) (by rw [dbF_len c (by decide)]; decide)
      have A := db_all false c (K := 4) (by decide) (v := ((dval 0 (dbL c 4) : Nat) : Int)) (P := 10000) (by rw [cond_false]) (by decide)
      generalize dbD false (dbW c) (dbF c 4) = X at *
      generalize dval 0 (dbL c 4) = V at *
      generalize sF c 4 = sf at *
      generalize sW c = sw at *
      rw [decide_eq_false (show ¬ ((V : Int) > 0) by omega), cond_false]
      rw [hT, hM]
      have P' : decRead (decPrint ((X, true) : Dec × Bool).1) = (X, true) := P
      rw [P']
      refine cT k9_true ?_
      refine cT rfl ?_
      refine cT rfl ?_
      refine cT rfl ?_
      refine cT (decide_eq_true rfl) ?_
      refine cT (decide_eq_true rfl) ?_
      refine cT D ?_
      refine cT A.1 ?_
      refine cT (decide_eq_true A.2.1) ?_
      refine cT (decide_eq_true A.2.2.1) ?_
      exact (decide_eq_true A.2.2.2)
    · have hT : decRead ((⟨#[45]⟩ : ByteArray) ++ ((sW c ++ (⟨#[46]⟩ : ByteArray)) ++ sF c 4)) = (dbD true (dbW c) (dbF c 4), true) := by rw [show ((⟨#[45]⟩ : ByteArray) ++ ((sW c ++ (⟨#[46]⟩ : ByteArray)) ++ sF c 4)) = _ from db_tm c (K := 4) (by decide) (by decide)]; exact db_readK true c (K := 4) (by decide) (fun _ => hz)
      have hM : decRead (((⟨#[45]⟩ : ByteArray) ++ ((sW c ++ (⟨#[46]⟩ : ByteArray)) ++ sF c 4)) ++ subS (⟨#[48, 48]⟩ : ByteArray) 0 (hPick zeros 3)) = (dbD true (dbW c) (dbF c 4), true) := by rw [show ((⟨#[45]⟩ : ByteArray) ++ ((sW c ++ (⟨#[46]⟩ : ByteArray)) ++ sF c 4)) = _ from db_tm c (K := 4) (by decide) (by decide)]; exact db_moreK true c zeros (K := 4) (by decide) (by decide) (fun _ => hz)
      have P := db_print true (dbW_dig c) (dbW_len c) (dbF_dig c 4) (by rw [dbF_len c (by decide)]; decide)
      have D := db_right true (dbW_dig c) (dbW_len c) (dbF_dig c 4) (by rw [dbF_len c (by decide)]; decide)
      have A := db_all true c (K := 4) (by decide) (v := -((dval 0 (dbL c 4) : Nat) : Int)) (P := 10000) (by rw [cond_true]) (by decide)
      generalize dbD true (dbW c) (dbF c 4) = X at *
      generalize dval 0 (dbL c 4) = V at *
      generalize sF c 4 = sf at *
      generalize sW c = sw at *
      rw [decide_eq_true (show (V : Int) > 0 by omega), cond_true]
      rw [hT, hM]
      have P' : decRead (decPrint ((X, true) : Dec × Bool).1) = (X, true) := P
      rw [P']
      rw [cN hV]
      refine cT k9_true ?_
      refine cT rfl ?_
      refine cT rfl ?_
      refine cT rfl ?_
      refine cT (decide_eq_true rfl) ?_
      refine cT (decide_eq_true rfl) ?_
      refine cT D ?_
      refine cT A.1 ?_
      refine cT (decide_eq_true A.2.1) ?_
      refine cT (decide_eq_true A.2.2.1) ?_
      exact (decide_eq_true A.2.2.2)
theorem k5_cases (k : Int) : hPick k 5 = 0 ∨ hPick k 5 = 1 ∨ hPick k 5 = 2 ∨ hPick k 5 = 3 ∨ hPick k 5 = 4 := by
  have := hPick_lt k (m := 5) (by omega) (by omega)
  omega
theorem decBack_calls {W : World} {tP : Nat} (hT : At [powBox tP] W) (c k zeros : Int) (minus : Bool) : Calls Tryd.prog 7 #[.int .i64 c, .int .i64 k, .int .i64 zeros, .bool minus] W fun e W' => e = .returned (.bool true) ∧ Below W.heap.size W W' := by
  rcases k5_cases k with h | h | h | h | h
  · exact (c_lawDB0 c k zeros minus tP h (lawDB0_true c k zeros minus) W hT (by simp)).mono fun e w' ⟨v, N, he, ⟨hv, _⟩, _, _, hb⟩ => ⟨by rw [he, hv], hb⟩
  · exact (c_lawDB1 c k zeros minus tP h (lawDB1_true c k zeros minus) W hT (by simp)).mono fun e w' ⟨v, N, he, ⟨hv, _⟩, _, _, hb⟩ => ⟨by rw [he, hv], hb⟩
  · exact (c_lawDB2 c k zeros minus tP h (lawDB2_true c k zeros minus) W hT (by simp)).mono fun e w' ⟨v, N, he, ⟨hv, _⟩, _, _, hb⟩ => ⟨by rw [he, hv], hb⟩
  · exact (c_lawDB3 c k zeros minus tP h (lawDB3_true c k zeros minus) W hT (by simp)).mono fun e w' ⟨v, N, he, ⟨hv, _⟩, _, _, hb⟩ => ⟨by rw [he, hv], hb⟩
  · exact (c_lawDB4 c k zeros minus tP h (lawDB4_true c k zeros minus) W hT (by simp)).mono fun e w' ⟨v, N, he, ⟨hv, _⟩, _, _, hb⟩ => ⟨by rw [he, hv], hb⟩
end Go.Proofs.YtalffjplbhelcaaDoor
