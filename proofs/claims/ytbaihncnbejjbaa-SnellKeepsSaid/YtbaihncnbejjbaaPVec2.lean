import Derived.Test.YtbaihncnbejjbaaPVec
import Derived.Test.YtbaihncnbejjbaaK5
set_option linter.unusedVariables false
set_option linter.unusedSimpArgs false
namespace Go.Proofs.Ytbaihncnbejjbaa

theorem known5_true : known5 = true := by decide +kernel
theorem inIv5_iff (a b : Iv) : inIv5 a b = true ↔ Le a b := in2_iff a b
theorem in5_iff (a b : V) : in5 a b = true ↔ LeV a b := by
  unfold in5 LeV
  rw [← inIv5_iff, ← inIv5_iff, ← inIv5_iff]
  cases inIv5 a.x b.x <;> cases inIv5 a.y b.y <;> cases inIv5 a.z b.z <;> simp
theorem tame_right (n w : Int) : R (hTame n w) := (ivRight_iff _).1 (tame_R n w)
theorem tame5_R (l : A6) : RV (tame5 l) := ⟨tame_right _ _, tame_right _ _, tame_right _ _⟩
theorem mul_zero_iv {a : Iv} (h : R a) : ivMul a (ivPoint 0) = ⟨0, 0, false⟩ := by
  have e : ivPoint 0 = ⟨0, 0, false⟩ := by unfold ivPoint; rw [ivOf_in (by omega)]
  rw [e, ivMul_spec h (R_mk (by omega) (by omega) (by omega))]
  have e1 : mn a ⟨0, 0, false⟩ = 0 := by unfold mn min4; simp
  have e2 : mx a ⟨0, 0, false⟩ = 0 := by unfold mx max4; simp
  rw [e1, e2]
  exact ivOf_in (by decide)
theorem whole_1 : ivWhole 1 = ⟨65536, 65536, false⟩ := by decide +kernel
theorem whole_n1 : ivWhole (-1) = ivNeg (ivWhole 1) := by decide +kernel
theorem mul_one_iv {a : Iv} (h : R a) : ivMul a (ivWhole 1) = a := by
  have b := h.2
  rw [whole_1, ivMul_spec h (R_mk (by omega) (by omega) (by omega))]
  have e1 : mn a ⟨65536, 65536, false⟩ = a.lo * 65536 := by unfold mn min4; simp only; omega
  have e2 : mx a ⟨65536, 65536, false⟩ = a.hi * 65536 := by unfold mx max4; simp only; omega
  have h1 := dn_le (a := a.lo * 65536) (b := 65536) (by omega)
  have h2 := upq_ge (a := a.hi * 65536) (b := 65536) (by omega)
  rw [e1, e2, show dn (a.lo * 65536) 65536 = a.lo by omega, show upq (a.hi * 65536) 65536 = a.hi by omega]
  exact ivOf_R h
theorem add_zero_iv {a : Iv} (h : R a) : ivAdd a ⟨0, 0, false⟩ = a := by
  rw [ivAdd_spec h (R_mk (by omega) (by omega) (by omega))]
  simp only [Int.add_zero]
  exact ivOf_R h
theorem vec_eta (a : V) : (⟨a.x, a.y, a.z⟩ : V) = a := rfl
end Go.Proofs.Ytbaihncnbejjbaa
