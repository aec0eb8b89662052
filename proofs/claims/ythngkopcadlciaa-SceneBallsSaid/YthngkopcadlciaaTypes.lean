import Derived.Test.YthngkopcadlciaaProg
import Derived.Test.YthngkopcadlciaaOps
set_option linter.unusedVariables false
set_option linter.unusedSimpArgs false
namespace Go.Proofs.Ythngkopcadlciaa
open Go.RowKit

/-! ## The program's structs, in Lean -/
structure Iv where
  lo : Int
  hi : Int
  no : Bool
deriving DecidableEq
@[reducible] def Iv.v (a : Iv) : Value := .agg #[.int .i64 a.lo, .int .i64 a.hi, .bool a.no]
structure V where
  x : Iv
  y : Iv
  z : Iv
deriving DecidableEq
@[reducible] def V.v (a : V) : Value := .agg #[.int .i64 a.x.lo, .int .i64 a.x.hi, .bool a.x.no, .int .i64 a.y.lo, .int .i64 a.y.hi, .bool a.y.no, .int .i64 a.z.lo, .int .i64 a.z.hi, .bool a.z.no]
structure Ray where
  o : V
  d : V
deriving DecidableEq
structure Surf where
  stop : Bool
  bent : Bool
  curve : Iv
  conic : Iv
  a4 : Iv
  a6 : Iv
  at_ : Iv
  open2 : Iv
  ratio : Iv
@[reducible] def Surf.v (s : Surf) : Value := .agg #[.bool s.stop, .bool s.bent, .int .i64 s.curve.lo, .int .i64 s.curve.hi, .bool s.curve.no, .int .i64 s.conic.lo, .int .i64 s.conic.hi, .bool s.conic.no, .int .i64 s.a4.lo, .int .i64 s.a4.hi, .bool s.a4.no, .int .i64 s.a6.lo, .int .i64 s.a6.hi, .bool s.a6.no, .int .i64 s.at_.lo, .int .i64 s.at_.hi, .bool s.at_.no, .int .i64 s.open2.lo, .int .i64 s.open2.hi, .bool s.open2.no, .int .i64 s.ratio.lo, .int .i64 s.ratio.hi, .bool s.ratio.no]
structure A6 where
  a0 : Int
  a1 : Int
  a2 : Int
  a3 : Int
  a4 : Int
  a5 : Int
theorem follows : Try.prog.follows .mixedOrders = true := by kernel_rfl

/-! ## '==' of structs -/
theorem iv_eq (a b : Iv) : decide (a = b) = ((a.lo == b.lo) && ((a.hi == b.hi) && (a.no == b.no))) := by
  obtain ⟨x, y, z⟩ := a
  obtain ⟨u, v, q⟩ := b
  rw [Bool.eq_iff_iff]
  simp [Iv.mk.injEq]
theorem cell_int : IsCell Try.prog 3 := ⟨⟨_, Try.underlying3, rfl, by kernel_rfl⟩⟩
theorem cell_bool : IsCell Try.prog 4 := ⟨⟨_, Try.underlying4, rfl, by kernel_rfl⟩⟩
theorem agg_iv : IsAgg Try.prog 26 3 := ⟨⟨_, Try.underlying26, rfl, by kernel_rfl⟩⟩
theorem stood_iv : Try.prog.stoodInHeld 26 = false := by kernel_rfl
theorem eqr_iv (a b : Iv) (d : Nat) (w : World) : (Op.equalIn (d + 2) 26 a.v b.v).run Try.prog w = .ok (decide (a = b)) w := by
  rw [iv_eq]
  refine eqf_s (xs := [.int .i64 a.lo, .int .i64 a.hi, .bool a.no]) (ys := [.int .i64 b.lo, .int .i64 b.hi, .bool b.no]) Try.underlying26 stood_iv ?_
  refine eqf_c (by decide) (part_c cell_int rfl) (part_c cell_int rfl) (run_equalIn_int _ _ _ _ _ _ _ Try.underlying3) ?_
  refine eqf_c (by decide) (part_c cell_int rfl) (part_c cell_int rfl) (run_equalIn_int _ _ _ _ _ _ _ Try.underlying3) ?_
  have := eqf_c (p := Try.prog) (d := d + 1) (xs := [.int .i64 a.lo, .int .i64 a.hi, .bool a.no]) (ys := [.int .i64 b.lo, .int .i64 b.hi, .bool b.no]) (w := w) (f := { name := "No", type := 4, offset := 2, embedded := false, tag := "", pkgPath := "", byteOffset := 16 }) (fs := []) (by decide) (part_c cell_bool rfl) (part_c cell_bool rfl) (run_equalIn_bool _ _ _ _ _ Try.underlying4) eqf_n
  rw [Bool.and_true] at this
  exact this
theorem guard_iv : Try.prog.eqGuardType Try.prog.depth 26 = false := by kernel_rfl
theorem beql_26 (a b : Iv) {d : Bool} (h : decide (a = b) = d) (x y : Operand) : Runs Try.prog (do eqGuard .eql 26 x y a.v b.v; binOp .eql 26 a.v b.v) (.bool d) := bs_eql guard_iv (fun w => eqr_iv a b 9998 w) h x y
theorem bneq_26 (a b : Iv) {d : Bool} (h : (!(decide (a = b))) = d) (x y : Operand) : Runs Try.prog (do eqGuard .neq 26 x y a.v b.v; binOp .neq 26 a.v b.v) (.bool d) := bs_neq guard_iv (fun w => eqr_iv a b 9998 w) h x y
theorem v_eq (a b : V) : decide (a = b) = (decide (a.x = b.x) && (decide (a.y = b.y) && decide (a.z = b.z))) := by
  obtain ⟨x, y, z⟩ := a
  obtain ⟨u, v, q⟩ := b
  rw [Bool.eq_iff_iff]
  simp [V.mk.injEq]
theorem eqr_v (a b : V) (d : Nat) (w : World) : (Op.equalIn (d + 3) 57 a.v b.v).run Try.prog w = .ok (decide (a = b)) w := by
  rw [v_eq]
  refine eqf_s (xs := [.int .i64 a.x.lo, .int .i64 a.x.hi, .bool a.x.no, .int .i64 a.y.lo, .int .i64 a.y.hi, .bool a.y.no, .int .i64 a.z.lo, .int .i64 a.z.hi, .bool a.z.no]) (ys := [.int .i64 b.x.lo, .int .i64 b.x.hi, .bool b.x.no, .int .i64 b.y.lo, .int .i64 b.y.hi, .bool b.y.no, .int .i64 b.z.lo, .int .i64 b.z.hi, .bool b.z.no]) Try.underlying57 (by kernel_rfl) ?_
  refine eqf_c (by decide) (part_a agg_iv rfl) (part_a agg_iv rfl) (eqr_iv a.x b.x d w) ?_
  refine eqf_c (by decide) (part_a agg_iv rfl) (part_a agg_iv rfl) (eqr_iv a.y b.y d w) ?_
  have := eqf_c (p := Try.prog) (d := d + 2) (xs := [.int .i64 a.x.lo, .int .i64 a.x.hi, .bool a.x.no, .int .i64 a.y.lo, .int .i64 a.y.hi, .bool a.y.no, .int .i64 a.z.lo, .int .i64 a.z.hi, .bool a.z.no]) (ys := [.int .i64 b.x.lo, .int .i64 b.x.hi, .bool b.x.no, .int .i64 b.y.lo, .int .i64 b.y.hi, .bool b.y.no, .int .i64 b.z.lo, .int .i64 b.z.hi, .bool b.z.no]) (w := w) (f := { name := "Z", type := 26, offset := 6, embedded := false, tag := "", pkgPath := "", byteOffset := 48 }) (fs := []) (by decide) (part_a agg_iv rfl) (part_a agg_iv rfl) (eqr_iv a.z b.z d w) eqf_n
  rw [Bool.and_true] at this
  exact this
theorem guard_v : Try.prog.eqGuardType Try.prog.depth 57 = false := by kernel_rfl
theorem beql_57 (a b : V) {d : Bool} (h : decide (a = b) = d) (x y : Operand) : Runs Try.prog (do eqGuard .eql 57 x y a.v b.v; binOp .eql 57 a.v b.v) (.bool d) := bs_eql guard_v (fun w => eqr_v a b 9997 w) h x y
theorem bneq_57 (a b : V) {d : Bool} (h : (!(decide (a = b))) = d) (x y : Operand) : Runs Try.prog (do eqGuard .neq 57 x y a.v b.v; binOp .neq 57 a.v b.v) (.bool d) := bs_neq guard_v (fun w => eqr_v a b 9997 w) h x y
end Go.Proofs.Ythngkopcadlciaa
