import Derived.Test.YthngkopcadlciaaFacts
import Derived.Test.YthngkopcadlciaaAny
set_option linter.unusedVariables false
set_option linter.unusedSimpArgs false
namespace Go.Proofs.Ythngkopcadlciaa
open Go.RowKit
theorem bs24_1_0a (x0_0 : Int) (x0_1 : Int) (x0_2 : Bool) : Makes Try.prog (Instr.buildSlice 24 1 #[(0, .agg #[.int .i64 x0_0, .int .i64 x0_1, .bool x0_2])]) 1 [.int .i64 x0_0, .int .i64 x0_1, .bool x0_2] 26 := ⟨fun w => by go_simp⟩
theorem bs24_2_0a_1a (x0_0 : Int) (x0_1 : Int) (x0_2 : Bool) (x1_0 : Int) (x1_1 : Int) (x1_2 : Bool) : Makes Try.prog (Instr.buildSlice 24 2 #[(0, .agg #[.int .i64 x0_0, .int .i64 x0_1, .bool x0_2]), (1, .agg #[.int .i64 x1_0, .int .i64 x1_1, .bool x1_2])]) 2 [.int .i64 x0_0, .int .i64 x0_1, .bool x0_2, .int .i64 x1_0, .int .i64 x1_1, .bool x1_2] 26 := ⟨fun w => by go_simp⟩
theorem bs24_3_0a_1a_2a (x0_0 : Int) (x0_1 : Int) (x0_2 : Bool) (x1_0 : Int) (x1_1 : Int) (x1_2 : Bool) (x2_0 : Int) (x2_1 : Int) (x2_2 : Bool) : Makes Try.prog (Instr.buildSlice 24 3 #[(0, .agg #[.int .i64 x0_0, .int .i64 x0_1, .bool x0_2]), (1, .agg #[.int .i64 x1_0, .int .i64 x1_1, .bool x1_2]), (2, .agg #[.int .i64 x2_0, .int .i64 x2_1, .bool x2_2])]) 3 [.int .i64 x0_0, .int .i64 x0_1, .bool x0_2, .int .i64 x1_0, .int .i64 x1_1, .bool x1_2, .int .i64 x2_0, .int .i64 x2_1, .bool x2_2] 26 := ⟨fun w => by go_simp⟩
theorem slT24 : SlT Try.prog 24 26 3 24 := ⟨Try.underlying24, .agg #[.int .i64 0, .int .i64 0, .bool false], by kernel_rfl, rfl, by decide⟩
end Go.Proofs.Ythngkopcadlciaa
