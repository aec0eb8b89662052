import Derived.Test.YtbaihncnbejjbaaPQuad
import Derived.Test.YtbaihncnbejjbaaLQuadLess
set_option linter.unusedVariables false
set_option linter.unusedSimpArgs false
namespace Go.Proofs.Ytbaihncnbejjbaa

theorem lawQuadLess_true (a b c d e f m n : Int) : lawQuadLess a b c d e f m n = true := by
  unfold lawQuadLess lawQuadLess_e1 lawQuadLess_e0
  have h1 := hIn_Le (hTame a b) m n
  have h2 := hIn_Le (hTame c d) n m
  have h3 := hIn_Le (hTame e f) (w64 (Int.tdiv m 3)) (w64 (Int.tdiv n 3))
  have hl := near_less h1 h2 h3
  have hy := near_yes_right (hIn (hTame a b) m n) (hIn (hTame c d) n m) (hIn (hTame e f) (w64 (Int.tdiv m 3)) (w64 (Int.tdiv n 3)))
  have h012 := near_012 (hTame a b) (hTame c d) (hTame e f)
  rw [hy, beq_self_eq_true]
  generalize quadNear (hTame a b) (hTame c d) (hTame e f) = t at *
  generalize quadNear (hIn (hTame a b) m n) (hIn (hTame c d) n m) (hIn (hTame e f) (w64 (Int.tdiv m 3)) (w64 (Int.tdiv n 3))) = u at *
  rcases h012 with h | h | h
  · rw [known6_true, h]; rfl
  · have k := hl.1 h
    rw [known6_true, h, k.1, k.2]; rfl
  · have k := hl.2 h
    rw [known6_true, h, k]; rfl
end Go.Proofs.Ytbaihncnbejjbaa
