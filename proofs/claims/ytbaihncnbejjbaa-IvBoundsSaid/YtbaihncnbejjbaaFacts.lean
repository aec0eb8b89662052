import Derived.Test.YtbaihncnbejjbaaTypes
set_option linter.unusedVariables false
set_option linter.unusedSimpArgs false
namespace Go.Proofs.Ytbaihncnbejjbaa
open Go.RowKit
theorem agg35 : IsAgg Try.prog 35 3 := ⟨⟨_, Try.underlying35, rfl, by kernel_rfl⟩⟩
theorem agg58 : IsAgg Try.prog 58 9 := ⟨⟨_, Try.underlying58, rfl, by kernel_rfl⟩⟩
theorem bd106_0_1 (x0_0 : Int) (x1_0 : Int) : Runs Try.prog (Instr.build 106 #[(0, .int .i64 x0_0), (1, .int .i64 x1_0)]) (.agg #[.int .i64 x0_0, .int .i64 x1_0]) := ⟨fun w => by go_simp⟩
theorem bd35_0_1 (x0_0 : Int) (x1_0 : Int) : Runs Try.prog (Instr.build 35 #[(0, .int .i64 x0_0), (1, .int .i64 x1_0)]) (.agg #[.int .i64 x0_0, .int .i64 x1_0, .bool false]) := ⟨fun w => by go_simp⟩
theorem bd35_0_1_2 (x0_0 : Int) (x1_0 : Int) (x2_0 : Bool) : Runs Try.prog (Instr.build 35 #[(0, .int .i64 x0_0), (1, .int .i64 x1_0), (2, .bool x2_0)]) (.agg #[.int .i64 x0_0, .int .i64 x1_0, .bool x2_0]) := ⟨fun w => by go_simp⟩
theorem bd35_2 (x0_0 : Bool) : Runs Try.prog (Instr.build 35 #[(2, .bool x0_0)]) (.agg #[.int .i64 0, .int .i64 0, .bool x0_0]) := ⟨fun w => by go_simp⟩
theorem bd58_0a_1a_2a (x0_0 : Int) (x0_1 : Int) (x0_2 : Bool) (x1_0 : Int) (x1_1 : Int) (x1_2 : Bool) (x2_0 : Int) (x2_1 : Int) (x2_2 : Bool) : Runs Try.prog (Instr.build 58 #[(0, .agg #[.int .i64 x0_0, .int .i64 x0_1, .bool x0_2]), (1, .agg #[.int .i64 x1_0, .int .i64 x1_1, .bool x1_2]), (2, .agg #[.int .i64 x2_0, .int .i64 x2_1, .bool x2_2])]) (.agg #[.int .i64 x0_0, .int .i64 x0_1, .bool x0_2, .int .i64 x1_0, .int .i64 x1_1, .bool x1_2, .int .i64 x2_0, .int .i64 x2_1, .bool x2_2]) := ⟨fun w => by go_simp⟩
theorem cell3 : IsCell Try.prog 3 := ⟨⟨_, Try.underlying3, rfl, by kernel_rfl⟩⟩
theorem cell4 : IsCell Try.prog 4 := ⟨⟨_, Try.underlying4, rfl, by kernel_rfl⟩⟩
theorem fa35_0 (a : Addr) : Runs Try.prog (Instr.fieldAt 35 (.pointer (some a)) 0) (.pointer (some (a.add 0))) := run_fa (f := 0) (off := 0) (m := 1) Try.underlying35 rfl rfl (by kernel_rfl) (by decide) a
theorem fa35_1 (a : Addr) : Runs Try.prog (Instr.fieldAt 35 (.pointer (some a)) 1) (.pointer (some (a.add 1))) := run_fa (f := 1) (off := 1) (m := 1) Try.underlying35 rfl rfl (by kernel_rfl) (by decide) a
theorem fa35_2 (a : Addr) : Runs Try.prog (Instr.fieldAt 35 (.pointer (some a)) 2) (.pointer (some (a.add 2))) := run_fa (f := 2) (off := 2) (m := 1) Try.underlying35 rfl rfl (by kernel_rfl) (by decide) a
theorem fa58_0 (a : Addr) : Runs Try.prog (Instr.fieldAt 58 (.pointer (some a)) 0) (.pointer (some (a.add 0))) := run_fa (f := 0) (off := 0) (m := 3) Try.underlying58 rfl rfl (by kernel_rfl) (by decide) a
theorem fa58_1 (a : Addr) : Runs Try.prog (Instr.fieldAt 58 (.pointer (some a)) 1) (.pointer (some (a.add 3))) := run_fa (f := 1) (off := 3) (m := 3) Try.underlying58 rfl rfl (by kernel_rfl) (by decide) a
theorem fa58_2 (a : Addr) : Runs Try.prog (Instr.fieldAt 58 (.pointer (some a)) 2) (.pointer (some (a.add 6))) := run_fa (f := 2) (off := 6) (m := 3) Try.underlying58 rfl rfl (by kernel_rfl) (by decide) a
theorem fa77_0 (a : Addr) : Runs Try.prog (Instr.fieldAt 77 (.pointer (some a)) 0) (.pointer (some (a.add 0))) := run_fa (f := 0) (off := 0) (m := 9) Try.underlying77 rfl rfl (by kernel_rfl) (by decide) a
theorem fa77_1 (a : Addr) : Runs Try.prog (Instr.fieldAt 77 (.pointer (some a)) 1) (.pointer (some (a.add 9))) := run_fa (f := 1) (off := 9) (m := 9) Try.underlying77 rfl rfl (by kernel_rfl) (by decide) a
theorem ix106_0 (x0 : Int) (x1 : Int) : Runs Try.prog (Instr.index 106 (.agg #[.int .i64 x0, .int .i64 x1]) (.int .i64 0)) (.int .i64 x0) := run_ixc (xs := [.int .i64 x0, .int .i64 x1]) Try.underlying106 cell3 (by decide) (by decide) rfl
theorem ix106_1 (x0 : Int) (x1 : Int) : Runs Try.prog (Instr.index 106 (.agg #[.int .i64 x0, .int .i64 x1]) (.int .i64 1)) (.int .i64 x1) := run_ixc (xs := [.int .i64 x0, .int .i64 x1]) Try.underlying106 cell3 (by decide) (by decide) rfl
theorem zero35 : Zero Try.prog 35 [.int .i64 0, .int .i64 0, .bool false] := ⟨⟨.agg #[.int .i64 0, .int .i64 0, .bool false], by kernel_rfl, rfl⟩⟩
theorem zero58 : Zero Try.prog 58 [.int .i64 0, .int .i64 0, .bool false, .int .i64 0, .int .i64 0, .bool false, .int .i64 0, .int .i64 0, .bool false] := ⟨⟨.agg #[.int .i64 0, .int .i64 0, .bool false, .int .i64 0, .int .i64 0, .bool false, .int .i64 0, .int .i64 0, .bool false], by kernel_rfl, rfl⟩⟩
end Go.Proofs.Ytbaihncnbejjbaa
