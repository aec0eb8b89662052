import Derived.Test.YtbaihncnbejjbaaPIv3
import Derived.Test.YtbaihncnbejjbaaLIvLess
set_option linter.unusedVariables false
set_option linter.unusedSimpArgs false
namespace Go.Proofs.Ytbaihncnbejjbaa

theorem lawIvLess_true (a b c d m n k : Int) : lawIvLess a b c d m n k = true := by
  unfold lawIvLess lawIvLess_e1 lawIvLess_e0 lawIvLess_e3 lawIvLess_e2 lawIvLess_e5 lawIvLess_e4 lawIvLess_e6 lawIvLess_e8 lawIvLess_e7 lawIvLess_e10 lawIvLess_e9
  refine lC (fun h1 => lC (fun h2 => ?_) (fun _ => known2_true)) (fun _ => known2_true)
  have p := hIn_Le (hIv a b) m n
  have q := hIn_Le (hIv c d) (w64 (Int.tdiv n 3)) (w64 (Int.tdiv m 5))
  refine lT known2_true (lT ((in2_iff _ _).2 (le_add p q)) (lT ((in2_iff _ _).2 (le_sub p q)) (lT ((in2_iff _ _).2 (le_neg p)) (lT ((in2_iff _ _).2 (le_mul p q)) (lT ((in2_iff _ _).2 (le_times _ p))
    (lT ((in2_iff _ _).2 (le_sqr p)) (lT ((in2_iff _ _).2 (le_div p q)) (lT ((in2_iff _ _).2 (le_root p)) ((in2_iff _ _).2 (le_hull p q))))))))))
end Go.Proofs.Ytbaihncnbejjbaa
