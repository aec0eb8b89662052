import Derived.Test.YtalffjplbhelcaaDoorMLexTells1
set_option linter.unusedVariables false
set_option linter.unusedSimpArgs false
namespace Go.Proofs.YtalffjplbhelcaaDoor
open Go.RowKit
theorem agg37 : IsAgg Tryd.prog 37 2 := ⟨⟨_, Tryd.underlying37, rfl, by kernel_rfl⟩⟩
theorem agg42 : IsAgg Tryd.prog 42 4 := ⟨⟨_, Tryd.underlying42, rfl, by kernel_rfl⟩⟩
theorem bd37_0_1 (x0_0 : Int) (x1_0 : Int) : Runs Tryd.prog (Instr.build 37 #[(0, .int .i64 x0_0), (1, .int .i64 x1_0)]) (.agg #[.int .i64 x0_0, .int .i64 x1_0]) := ⟨fun w => by go_simp⟩
theorem bd42_0_1_2a (x0_0 : Int) (x1_0 : ByteArray) (x2_0 : Int) (x2_1 : Int) : Runs Tryd.prog (Instr.build 42 #[(0, .int .i64 x0_0), (1, .string x1_0), (2, .agg #[.int .i64 x2_0, .int .i64 x2_1])]) (.agg #[.int .i64 x0_0, .string x1_0, .int .i64 x2_0, .int .i64 x2_1]) := ⟨fun w => by go_simp⟩
theorem bd42_2a (x0_0 : Int) (x0_1 : Int) : Runs Tryd.prog (Instr.build 42 #[(2, .agg #[.int .i64 x0_0, .int .i64 x0_1])]) (.agg #[.int .i64 0, .string (⟨#[]⟩ : ByteArray), .int .i64 x0_0, .int .i64 x0_1]) := ⟨fun w => by go_simp⟩
theorem bs35_1_0a (x0_0 : Int) (x0_1 : ByteArray) (x0_2 : Int) (x0_3 : Int) : Makes Tryd.prog (Instr.buildSlice 35 1 #[(0, .agg #[.int .i64 x0_0, .string x0_1, .int .i64 x0_2, .int .i64 x0_3])]) 1 [.int .i64 x0_0, .string x0_1, .int .i64 x0_2, .int .i64 x0_3] 42 := ⟨fun w => by go_simp⟩
theorem fa42_0 (a : Addr) : Runs Tryd.prog (Instr.fieldAt 42 (.pointer (some a)) 0) (.pointer (some (a.add 0))) := run_fa (f := 0) (off := 0) (m := 1) Tryd.underlying42 rfl rfl (by kernel_rfl) (by decide) a
theorem fa42_1 (a : Addr) : Runs Tryd.prog (Instr.fieldAt 42 (.pointer (some a)) 1) (.pointer (some (a.add 1))) := run_fa (f := 1) (off := 1) (m := 1) Tryd.underlying42 rfl rfl (by kernel_rfl) (by decide) a
theorem slT35 : SlT Tryd.prog 35 42 4 40 := ⟨Tryd.underlying35, .agg #[.int .i64 0, .string (⟨#[]⟩ : ByteArray), .int .i64 0, .int .i64 0], by kernel_rfl, rfl, by decide⟩
theorem zero37 : Zero Tryd.prog 37 [.int .i64 0, .int .i64 0] := ⟨⟨.agg #[.int .i64 0, .int .i64 0], by kernel_rfl, rfl⟩⟩
theorem zero42 : Zero Tryd.prog 42 [.int .i64 0, .string (⟨#[]⟩ : ByteArray), .int .i64 0, .int .i64 0] := ⟨⟨.agg #[.int .i64 0, .string (⟨#[]⟩ : ByteArray), .int .i64 0, .int .i64 0], by kernel_rfl, rfl⟩⟩
end Go.Proofs.YtalffjplbhelcaaDoor
