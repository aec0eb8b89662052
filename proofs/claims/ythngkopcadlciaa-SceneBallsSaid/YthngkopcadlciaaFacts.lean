import Derived.Test.YthngkopcadlciaaTypes
import Derived.Test.YthngkopcadlciaaMem
import Derived.Test.YthngkopcadlciaaDraw2
import Derived.Test.YthngkopcadlciaaRound
set_option linter.unusedVariables false
set_option linter.unusedSimpArgs false
namespace Go.Proofs.Ythngkopcadlciaa
open Go.RowKit
theorem agg26 : IsAgg Try.prog 26 3 := ⟨⟨_, Try.underlying26, rfl, by kernel_rfl⟩⟩
theorem agg57 : IsAgg Try.prog 57 9 := ⟨⟨_, Try.underlying57, rfl, by kernel_rfl⟩⟩
theorem bd118_0_1 (x0_0 : Int) (x1_0 : Int) : Runs Try.prog (Instr.build 118 #[(0, .int .i64 x0_0), (1, .int .i64 x1_0)]) (.agg #[.int .i64 x0_0, .int .i64 x1_0]) := ⟨fun w => by go_simp⟩
theorem bd26_0_1 (x0_0 : Int) (x1_0 : Int) : Runs Try.prog (Instr.build 26 #[(0, .int .i64 x0_0), (1, .int .i64 x1_0)]) (.agg #[.int .i64 x0_0, .int .i64 x1_0, .bool false]) := ⟨fun w => by go_simp⟩
theorem bd26_0_1_2 (x0_0 : Int) (x1_0 : Int) (x2_0 : Bool) : Runs Try.prog (Instr.build 26 #[(0, .int .i64 x0_0), (1, .int .i64 x1_0), (2, .bool x2_0)]) (.agg #[.int .i64 x0_0, .int .i64 x1_0, .bool x2_0]) := ⟨fun w => by go_simp⟩
theorem bd26_2 (x0_0 : Bool) : Runs Try.prog (Instr.build 26 #[(2, .bool x0_0)]) (.agg #[.int .i64 0, .int .i64 0, .bool x0_0]) := ⟨fun w => by go_simp⟩
theorem bd57_0a_1a_2a (x0_0 : Int) (x0_1 : Int) (x0_2 : Bool) (x1_0 : Int) (x1_1 : Int) (x1_2 : Bool) (x2_0 : Int) (x2_1 : Int) (x2_2 : Bool) : Runs Try.prog (Instr.build 57 #[(0, .agg #[.int .i64 x0_0, .int .i64 x0_1, .bool x0_2]), (1, .agg #[.int .i64 x1_0, .int .i64 x1_1, .bool x1_2]), (2, .agg #[.int .i64 x2_0, .int .i64 x2_1, .bool x2_2])]) (.agg #[.int .i64 x0_0, .int .i64 x0_1, .bool x0_2, .int .i64 x1_0, .int .i64 x1_1, .bool x1_2, .int .i64 x2_0, .int .i64 x2_1, .bool x2_2]) := ⟨fun w => by go_simp⟩
theorem cell3 : IsCell Try.prog 3 := ⟨⟨_, Try.underlying3, rfl, by kernel_rfl⟩⟩
theorem cell4 : IsCell Try.prog 4 := ⟨⟨_, Try.underlying4, rfl, by kernel_rfl⟩⟩
theorem fa26_0 (a : Addr) : Runs Try.prog (Instr.fieldAt 26 (.pointer (some a)) 0) (.pointer (some (a.add 0))) := run_fa (f := 0) (off := 0) (m := 1) Try.underlying26 rfl rfl (by kernel_rfl) (by decide) a
theorem fa26_1 (a : Addr) : Runs Try.prog (Instr.fieldAt 26 (.pointer (some a)) 1) (.pointer (some (a.add 1))) := run_fa (f := 1) (off := 1) (m := 1) Try.underlying26 rfl rfl (by kernel_rfl) (by decide) a
theorem fa26_2 (a : Addr) : Runs Try.prog (Instr.fieldAt 26 (.pointer (some a)) 2) (.pointer (some (a.add 2))) := run_fa (f := 2) (off := 2) (m := 1) Try.underlying26 rfl rfl (by kernel_rfl) (by decide) a
theorem fa57_0 (a : Addr) : Runs Try.prog (Instr.fieldAt 57 (.pointer (some a)) 0) (.pointer (some (a.add 0))) := run_fa (f := 0) (off := 0) (m := 3) Try.underlying57 rfl rfl (by kernel_rfl) (by decide) a
theorem fa57_1 (a : Addr) : Runs Try.prog (Instr.fieldAt 57 (.pointer (some a)) 1) (.pointer (some (a.add 3))) := run_fa (f := 1) (off := 3) (m := 3) Try.underlying57 rfl rfl (by kernel_rfl) (by decide) a
theorem fa57_2 (a : Addr) : Runs Try.prog (Instr.fieldAt 57 (.pointer (some a)) 2) (.pointer (some (a.add 6))) := run_fa (f := 2) (off := 6) (m := 3) Try.underlying57 rfl rfl (by kernel_rfl) (by decide) a
theorem ia60_0 (g off : Nat) : Runs Try.prog (Instr.indexAt 60 (.pointer (some ⟨g, off, none⟩)) (.int .i64 0)) (.pointer (some ⟨g, off + 0, none⟩)) := run_ia (i := 0) (m := 1) (j := 0) Try.underlying60 (by kernel_rfl) rfl g off (by decide) (by decide)
theorem ia60_1 (g off : Nat) : Runs Try.prog (Instr.indexAt 60 (.pointer (some ⟨g, off, none⟩)) (.int .i64 1)) (.pointer (some ⟨g, off + 1, none⟩)) := run_ia (i := 1) (m := 1) (j := 1) Try.underlying60 (by kernel_rfl) rfl g off (by decide) (by decide)
theorem ia60_2 (g off : Nat) : Runs Try.prog (Instr.indexAt 60 (.pointer (some ⟨g, off, none⟩)) (.int .i64 2)) (.pointer (some ⟨g, off + 2, none⟩)) := run_ia (i := 2) (m := 1) (j := 2) Try.underlying60 (by kernel_rfl) rfl g off (by decide) (by decide)
theorem ia60_3 (g off : Nat) : Runs Try.prog (Instr.indexAt 60 (.pointer (some ⟨g, off, none⟩)) (.int .i64 3)) (.pointer (some ⟨g, off + 3, none⟩)) := run_ia (i := 3) (m := 1) (j := 3) Try.underlying60 (by kernel_rfl) rfl g off (by decide) (by decide)
theorem ia60_4 (g off : Nat) : Runs Try.prog (Instr.indexAt 60 (.pointer (some ⟨g, off, none⟩)) (.int .i64 4)) (.pointer (some ⟨g, off + 4, none⟩)) := run_ia (i := 4) (m := 1) (j := 4) Try.underlying60 (by kernel_rfl) rfl g off (by decide) (by decide)
theorem ia60_5 (g off : Nat) : Runs Try.prog (Instr.indexAt 60 (.pointer (some ⟨g, off, none⟩)) (.int .i64 5)) (.pointer (some ⟨g, off + 5, none⟩)) := run_ia (i := 5) (m := 1) (j := 5) Try.underlying60 (by kernel_rfl) rfl g off (by decide) (by decide)
theorem ix118_0 (x0 : Int) (x1 : Int) : Runs Try.prog (Instr.index 118 (.agg #[.int .i64 x0, .int .i64 x1]) (.int .i64 0)) (.int .i64 x0) := run_ixc (xs := [.int .i64 x0, .int .i64 x1]) Try.underlying118 cell3 (by decide) (by decide) rfl
theorem ix118_1 (x0 : Int) (x1 : Int) : Runs Try.prog (Instr.index 118 (.agg #[.int .i64 x0, .int .i64 x1]) (.int .i64 1)) (.int .i64 x1) := run_ixc (xs := [.int .i64 x0, .int .i64 x1]) Try.underlying118 cell3 (by decide) (by decide) rfl
theorem zero26 : Zero Try.prog 26 [.int .i64 0, .int .i64 0, .bool false] := ⟨⟨.agg #[.int .i64 0, .int .i64 0, .bool false], by kernel_rfl, rfl⟩⟩
theorem zero57 : Zero Try.prog 57 [.int .i64 0, .int .i64 0, .bool false, .int .i64 0, .int .i64 0, .bool false, .int .i64 0, .int .i64 0, .bool false] := ⟨⟨.agg #[.int .i64 0, .int .i64 0, .bool false, .int .i64 0, .int .i64 0, .bool false, .int .i64 0, .int .i64 0, .bool false], by kernel_rfl, rfl⟩⟩
end Go.Proofs.Ythngkopcadlciaa
