import Derived.Test.YtbaihncnbejjbaaPVec2
import Derived.Test.YtbaihncnbejjbaaLVecLess
set_option linter.unusedVariables false
set_option linter.unusedSimpArgs false
namespace Go.Proofs.Ytbaihncnbejjbaa

theorem lawVecLess_true (l m : A6) (p q k : Int) : lawVecLess l m p q k = true := by
  unfold lawVecLess lawVecLess_e0 lawVecLess_e1 lawVecLess_e2 lawVecLess_e3 lawVecLess_e4
  have rx := tame5_R l
  have u := hInV_Le (tame5 l) p q
  have v := hInV_Le (tame5 m) q p
  have h100 := Int.tmod_lt_of_pos k (b := 100) (by omega)
  have h100' := Int.lt_tmod_of_pos k (b := 100) (by omega)
  generalize Int.tmod k 100 = j at *
  refine lT known5_true (lT ((in5_iff _ _).2 (leV_add u v)) (lT ((in5_iff _ _).2 (leV_unit u)) (lT ((inIv5_iff _ _).2 (le_dot u v)) (lT ((inIv5_iff _ _).2 (le_len2 u)) (lT (dT (dot_turn _ _ j)) (lT (dT (len2_turn _ j)) (lT (dT (add_turn _ _ j))
    (lT (dT ?_) (lT (dT (dot_mirror _ _)) (lT (dT (unit_mirror _)) (lT (dT (mirror2 rx)) (lT (dT ?_) (dT ?_)))))))))))))
  · rw [vecTurn_1, vecTurn_1, unit_turn1]
  · rw [w64_of (by omega) (by omega)]
    exact t0 (by omega) _
  · rw [w64_of (by omega) (by omega)]
    exact turn_back rx (by omega)
end Go.Proofs.Ytbaihncnbejjbaa
