import Derived.Test.YtalffjplbhelcaaGreatDoorMGlassIndex2
import Derived.Shelf.Strings.SlTrimAscii
import Derived.Lib.AtoiErrMem
import Derived.Lib.AppendIntMem
import Derived.Test.YtalffjplbhelcaaGreatDoorMGlassIndex1
import Derived.ScopeJumps
import Derived.Control
set_option linter.unusedVariables false
set_option linter.unusedSimpArgs false
namespace Go.Proofs.YtalffjplbhelcaaGreatDoor
open Go.RowKit
def subS (s : ByteArray) (lo hi : Int) : ByteArray := s.extract lo.toNat hi.toNat
theorem subS_le (s : ByteArray) (lo hi : Int) {m : Nat} (h : s.size ≤ m) : (subS s lo hi).size ≤ m := by
  unfold subS
  rw [ByteArray.size_extract]; omega
section
variable {p : Program} {n : Nat} {ops : Array Oper} {Q : Exit → Env → List Box → Prop} {l : List Oper} {E : Env} {H : List Box} {o : Oper} {ρ : Operand → Value} {K : Post}
theorem st_ss {t : TypeId} {x y z : Operand} {s : ByteArray} {lo hi : Int} (h : 0 ≤ lo ∧ lo ≤ hi ∧ hi ≤ s.size) (ho : o.op = .slice t x (some y) (some z) none) (hu : p.underlying t = some .string) (hx : ρ x = .string s) (hy : ρ y = .int .i64 lo) (hz : ρ z = .int .i64 hi) (k : K (.string (subS s lo hi)) H) : Step p ρ o H K := by
  refine st_run (s := Instr.sliceAt t (.string s) (some (.int .i64 lo)) (some (.int .i64 hi)) none) (by rw [execOp, ho]; simp only [hx, hy, hz, Option.map_none, Option.map_some]) ⟨fun w => ?_⟩ k
  obtain ⟨h0, h1, h2⟩ := h
  have h3 : 0 ≤ hi := by omega
  have h4 : lo ≤ (hi.toNat : Int) := by omega
  have h5 : lo.toNat ≤ hi.toNat := by omega
  have h6 : hi.toNat ≤ s.size := by omega
  have e := run_sliceBound (P := p) w .i64 lo hi.toNat .sliceB h0 h4
  simp [Instr.sliceAt, Instr.slice, Instr.sliceBounds, Sem.run_bind, run_underlying hu w, run_sliceBound, h2, h3, e, h5, h6, subS]
theorem st_ssb {t : TypeId} {x y : Operand} {s : ByteArray} {lo : Int} (h : 0 ≤ lo ∧ lo ≤ s.size) (ho : o.op = .slice t x (some y) none none) (hu : p.underlying t = some .string) (hx : ρ x = .string s) (hy : ρ y = .int .i64 lo) (k : K (.string (subS s lo s.size)) H) : Step p ρ o H K := by
  refine st_run (s := Instr.sliceAt t (.string s) (some (.int .i64 lo)) none none) (by rw [execOp, ho]; simp only [hx, hy, Option.map_none, Option.map_some]) ⟨fun w => ?_⟩ k
  obtain ⟨h0, h1⟩ := h
  have h3 : lo.toNat ≤ s.size := by omega
  simp [Instr.sliceAt, Instr.slice, Instr.sliceBounds, Sem.run_bind, run_underlying hu w, run_sliceBound, h0, h1, h3, subS]
theorem st_ssh {t : TypeId} {x z : Operand} {s : ByteArray} {hi : Int} (h : 0 ≤ hi ∧ hi ≤ s.size) (ho : o.op = .slice t x none (some z) none) (hu : p.underlying t = some .string) (hx : ρ x = .string s) (hz : ρ z = .int .i64 hi) (k : K (.string (subS s 0 hi)) H) : Step p ρ o H K := by
  refine st_run (s := Instr.sliceAt t (.string s) none (some (.int .i64 hi)) none) (by rw [execOp, ho]; simp only [hx, hz, Option.map_none, Option.map_some]) ⟨fun w => ?_⟩ k
  obtain ⟨h0, h1⟩ := h
  simp [Instr.sliceAt, Instr.slice, Instr.sliceBounds, Sem.run_bind, run_underlying hu w, run_sliceBound, h0, h1, subS]
end
theorem res_ttt {p : Program} {n : Nat} {E : Env} {H : List Box} {fn : Func} {s t u : Nat} {x y z : Value} (h : fn.results = #[.tmp s, .tmp t, .tmp u]) (hx : ev n E (.tmp s) = x) (hy : ev n E (.tmp t) = y) (hz : ev n E (.tmp u) = z) : Res p fn n E H (.tuple #[x, y, z]) := by
  intro β w a hO hs
  simp [results, h, see_tmp hs hx, see_tmp hs hy, see_tmp hs hz, Sem.run_bind]
def byA (l : List UInt8) : ByteArray := ⟨l.toArray⟩
theorem byA_size (l : List UInt8) : (byA l).size = l.length := rfl
def lCutPrefix (s p : ByteArray) : ByteArray × Bool := (byA (Lib.trimPrefix s.data.toList p.data.toList), Lib.hasPrefix s.data.toList p.data.toList)
theorem c_lCutPrefix (s p : ByteArray) : Gets Tryz.prog 66 #[.string s, .string p] (.tuple #[.string (lCutPrefix s p).1, .bool (lCutPrefix s p).2]) :=
  fun w => (Tryz.strings_CutPrefix s p w).mono fun e w' ⟨he, hw⟩ => ⟨he, hw ▸ Below.refl _ _⟩
def lIndex (s : ByteArray) (c : UInt8) : Int := Lib.indexByte s.data.toList c
theorem c_lIndex (s : ByteArray) (c : UInt8) : Gets Tryz.prog 128 #[.string s, .string ⟨#[c]⟩] (.int .i64 (lIndex s c)) :=
  fun w => (Tryz.stringslite_Index_one s c w).mono fun e w' ⟨he, hw⟩ => ⟨he, hw ▸ Below.refl _ _⟩
theorem index_lt : ∀ (l : List UInt8) (c : UInt8), -1 ≤ Lib.indexByte l c ∧ Lib.indexByte l c < l.length ∨ Lib.indexByte l c = -1
  | [], c => .inr rfl
  | b :: l, c => by
    rw [Lib.indexByte]
    split
    · left; constructor <;> simp
    · split
      · right; rfl
      · rename_i h1 h2
        rcases index_lt l c with h | h
        · left; simp only [List.length_cons]; omega
        · rw [h] at h2; exact absurd rfl h2
theorem lIndex_lt (s : ByteArray) (c : UInt8) : lIndex s c < s.size ∧ -1 ≤ lIndex s c := by
  have e : s.size = s.data.toList.length := Lib.size_eq s
  unfold lIndex
  rcases index_lt s.data.toList c with h | h <;> omega
def lTrimRight (s : ByteArray) (c : UInt8) : ByteArray := byA (Lib.trimRightB s.data.toList c)
theorem c_lTrimRight (s : ByteArray) (c : UInt8) (hc : c.toNat < 128) (hs : s.size ≤ 9223372036854775807) : Gets Tryz.prog 69 #[.string s, .string ⟨#[c]⟩] (.string (lTrimRight s c)) :=
  fun w => (Tryz.strings_TrimRight_one s c hc w hs).mono fun e w' ⟨he, hw⟩ => ⟨he, hw ▸ Below.refl _ _⟩
def figs : ByteArray := ⟨#[48, 49, 50, 51, 52, 53, 54, 55, 56, 57]⟩
def lTrimFig (s : ByteArray) : ByteArray := byA (Lib.trimS s.data.toList figs.data.toList)
theorem c_lTrimFig (s : ByteArray) (hs : s.size ≤ 9223372036854775807) : Gets Tryz.prog 110 #[.string s, .string ⟨#[48, 49, 50, 51, 52, 53, 54, 55, 56, 57]⟩] (.string (lTrimFig s)) :=
  fun w => (Any.strings_Trim_laid Tryz.lays160 (by kernel_rfl) s ⟨#[48, 49, 50, 51, 52, 53, 54, 55, 56, 57]⟩ w hs (by decide) (ascii_of_all (by decide))).mono fun e w' ⟨he, hw⟩ => ⟨he, hw⟩
def lAtoi (s : ByteArray) : Int := (Lib.atoi s.data.toList).getD 0
theorem c_lAtoi (s : ByteArray) (hl : s.size ≤ 18) (h : (Lib.atoi s.data.toList).isSome = true) : Gets Tryz.prog 70 #[.string s] (.tuple #[.int .i64 (lAtoi s), .nilIface]) := fun w => by
  obtain ⟨n, hn⟩ := Option.isSome_iff_exists.1 h
  refine (Tryz.strconv_Atoi s n hl hn w).mono fun e w' ⟨he, t, hw⟩ => ⟨?_, hw ▸ Lib.bytesWorld_below _ _ _⟩
  rw [he, lAtoi, hn]; rfl
def lRepeat (s : ByteArray) (c : Int) : ByteArray := byA (Lib.repeatL s.data.toList c.toNat)
theorem c_lRepeat (s : ByteArray) (c : Int) (h0 : 0 ≤ c) (h1 : c ≤ 1000) (hs : s.size ≤ 1000) : Gets Tryz.prog 74 #[.string s, .int .i64 c] (.string (lRepeat s c)) := fun w => by
  have e : ((c.toNat : Nat) : Int) = c := by omega
  have h := Tryz.strings_Repeat s c.toNat w (by omega) (by
    have : s.size * c.toNat ≤ 1000 * 1000 := Nat.mul_le_mul hs (by omega)
    omega)
  rw [e] at h
  exact h.mono fun e w' ⟨he, hw⟩ => ⟨he, hw⟩
def powBox (t : Nat) : Box := ⟨3, Lib.pow10Tab.map fun z => Value.int .u64 z, t, true⟩
def lItoa (n : Int) : ByteArray := byA (Lib.itoa n)
theorem tab_of {w : World} {t : Nat} (h : At [powBox t] w) : Lib.TabIs Tryz.prog w "internal/strconv.uint64pow10" .u64 Lib.pow10Tab := by
  obtain ⟨fr, hh⟩ := h (powBox t) List.mem_cons_self
  have hg : Tryz.prog.globalNamed "internal/strconv.uint64pow10" = some 3 := by kernel_rfl
  unfold Lib.TabIs
  simp only [World.var?, hg, Option.bind_some, Option.bind_eq_bind]
  rw [show w.heap[3]? = _ from hh]
  rfl
theorem at_tab {w : World} (h : Lib.TabIs Tryz.prog w "internal/strconv.uint64pow10" .u64 Lib.pow10Tab) : ∃ t, At [powBox t] w := by
  have hg : Tryz.prog.globalNamed "internal/strconv.uint64pow10" = some 3 := by kernel_rfl
  unfold Lib.TabIs at h
  simp only [World.var?, hg, Option.bind_some, Option.bind_eq_bind] at h
  split at h
  · rename_i cs t fr hh
    refine ⟨t, fun b hb => ?_⟩
    obtain rfl := List.mem_singleton.1 hb
    refine ⟨fr, ?_⟩
    show w.heap[3]? = some (.cells (Lib.pow10Tab.map fun z => Value.int .u64 z).toArray t fr)
    rw [hh, Option.some.inj h]
  · cases h
theorem c_lItoa (tP : Nat) (n : Int) (h0 : -9223372036854775808 ≤ n) (h1 : n ≤ 9223372036854775807) : Gives Tryz.prog 73 #[.int .i64 n] [powBox tP] (fun u N => u = .string (lItoa n) ∧ N = []) := fun w hA _ =>
  (Tryz.strconv_Itoa n h0 h1 w (tab_of hA)).mono fun e w' ⟨he, k, os, hw⟩ => ⟨_, [], he, ⟨rfl, rfl⟩, ⟨by rw [hw]; simp, by simp, by simp⟩, by simp, by rw [hw]; exact Lib.below_grow _ _ (Nat.le_refl _) _ _⟩
end Go.Proofs.YtalffjplbhelcaaGreatDoor
namespace Go.Proofs.YtalffjplbhelcaaGreatDoor
open Go.RowKit
def JQ (J : Nat → Act → World → Prop) (Q : Exit → Act → World → Prop) : Exit → Act → World → Prop
  | .goto l, a, w => J l a w
  | e, a, w => Q e a w
theorem wp_scope_labels {P : Program} {a : Act} {w : World} {Q : Exit → Act → World → Prop} {c : Code} (J : Nat → Nat → Act → World → Prop) (first : c.wp P (JQ (fun l a w => ∃ k, J l k a w) Q) a w)
    (pass : ∀ l k a w, J l k a w → ∃ rest, findLabel c l = some rest ∧ rest.wp P (JQ (fun l' a' w' => ∃ k', k' < k ∧ J l' k' a' w') Q) a w) : (Code.scope c).wp P Q a w := by
  intro b k cs
  have key : ∀ n l a w, J l n a w → ∃ rest, findLabel c l = some rest ∧ ∃ e a' w', Q e a' w' ∧ Arrives P (lone (b.at a (.code rest :: .inScope c :: k)) cs w) b k cs e a' w' := by
    intro n
    induction n using Nat.strongRecOn with
    | _ n ih =>
      intro l a w hJ
      obtain ⟨rest, hf, hw⟩ := pass l n a w hJ
      refine ⟨rest, hf, ?_⟩
      obtain ⟨e, a₁, w₁, hq, harr⟩ := hw b (.inScope c :: k) cs
      cases e with
      | normal => exact ⟨.normal, a₁, w₁, hq, Steps.trans harr (.one step_inScope)⟩
      | exit id => exact ⟨.exit id, a₁, w₁, hq, fun k' hk => harr k' (by simp [exitTo, hk])⟩
      | goto l' =>
        obtain ⟨k', hlt, hJ'⟩ := hq
        obtain ⟨rest', hf', e₂, a₂, w₂, hq₂, harr₂⟩ := ih k' hlt l' a₁ w₁ hJ'
        exact ⟨e₂, a₂, w₂, hq₂, .of_steps (harr _ (by simp [gotoIn, hf'])) harr₂⟩
      | ret => exact ⟨_, a₁, w₁, hq, harr⟩
      | panic ch => exact ⟨_, a₁, w₁, hq, harr⟩
      | outgrown => exact ⟨_, a₁, w₁, hq, harr⟩
  obtain ⟨e, a₁, w₁, hq, harr⟩ := first b (.inScope c :: k) cs
  cases e with
  | normal => exact ⟨.normal, a₁, w₁, hq, .head step_scope (Steps.trans harr (.one step_inScope))⟩
  | exit id => exact ⟨.exit id, a₁, w₁, hq, fun k' hk => .head step_scope (harr k' (by simp [exitTo, hk]))⟩
  | goto l' =>
    obtain ⟨n, hJ'⟩ := hq
    obtain ⟨rest', hf', e₂, a₂, w₂, hq₂, harr₂⟩ := key n l' a₁ w₁ hJ'
    exact ⟨e₂, a₂, w₂, hq₂, .of_steps (.head step_scope (harr _ (by simp [gotoIn, hf']))) harr₂⟩
  | ret => exact ⟨_, a₁, w₁, hq, .of_steps (.one step_scope) harr⟩
  | panic ch => exact ⟨_, a₁, w₁, hq, .of_steps (.one step_scope) harr⟩
  | outgrown => exact ⟨_, a₁, w₁, hq, .of_steps (.one step_scope) harr⟩
section
variable {p : Program} {n : Nat} {ops : Array Oper} {Q : Exit → Env → List Box → Prop} {l : List Oper} {E : Env} {H : List Box} {o : Oper} {ρ : Operand → Value} {K : Post}
def AJ (J : Nat → Env → List Box → Prop) (Q : Exit → Env → List Box → Prop) : Exit → Env → List Box → Prop
  | .goto l, E, H => J l E H
  | e, E, H => Q e E H
theorem ac_scope {c : Code} (J : Nat → Nat → Env → List Box → Prop) (first : AC p n c (AJ (fun l E H => ∃ k, J l k E H) Q) E H)
    (pass : ∀ l k E H, J l k E H → ∃ rest, findLabel c l = some rest ∧ AC p n rest (AJ (fun l' E' H' => ∃ k', k' < k ∧ J l' k' E' H') Q) E H) : AC p n (.scope c) Q E H := by
  intro β w a hO hB hs
  refine wp_scope_labels (fun l k a w => ∃ E H, J l k E H ∧ Sees n E a ∧ Own β H w ∧ Keeps β w) ?_ ?_
  · refine Code.wp_mono ?_ (first β w a hO hB hs)
    rintro e a w ⟨E', H', q, r⟩
    cases e <;> first | exact ⟨E', H', q, r⟩ | (obtain ⟨k, hk⟩ := q; exact ⟨k, E', H', hk, r⟩)
  · rintro l k a w ⟨E', H', hJ, hs', hO', hB'⟩
    obtain ⟨rest, hf, h⟩ := pass l k E' H' hJ
    refine ⟨rest, hf, Code.wp_mono ?_ (h β w a hO' hB' hs')⟩
    rintro e a w ⟨E'', H'', q, r⟩
    cases e <;> first | exact ⟨E'', H'', q, r⟩ | (obtain ⟨k', hk, hJ'⟩ := q; exact ⟨k', hk, E'', H'', hJ', r⟩)
theorem ac_goto {l : Nat} (h : Q (.goto l) E H) : AC p n (.goto l) Q E H := fun β w a hO hB hs => wp_goto ⟨E, H, h, hs, hO, hB⟩
theorem ac_label {l : Nat} (h : Q .normal E H) : AC p n (.label l) Q E H := fun β w a hO hB hs => wp_label ⟨E, H, h, hs, hO, hB⟩
def fl (n : Int) : Nat := FloatKind.f64.nearest n
theorem st_cvf {t u : Nat} {x : Operand} {a : Int} (ho : o.op = .convert t u x) (hx : ρ x = .int .i64 a) (hu : p.underlying u = some (.float .f64)) (ht : p.underlying t = some (.int .i64)) (k : K (.float .f64 (fl a)) H) : Step p ρ o H K :=
  st_run (s := convert t u (.int .i64 a)) (by rw [execOp, ho]; simp only [hx]) ⟨fun w => by simp [convert, Sem.run_bind, run_underlying hu w, run_underlying ht w, Conv.intToFloat, fl]⟩ k
theorem run_cpx (ts : Array TypeId) (ty : TypeId) (a b : Nat) : Builtin.complex_ ts ty #[.float .f64 a, .float .f64 b] = pure (.complex .f64 a b) := rfl
theorem st_cpx {ts : Array TypeId} {args : List Operand} {a b : Nat} (ho : o.op = .call { callee := .builtin .complex, args := args.toArray, argTypes := ts }) (hv : args.map ρ = [.float .f64 a, .float .f64 b]) (k : K (.complex .f64 a b) H) : Step p ρ o H K := by
  refine st_val (fun w => ?_) k
  rw [execOp, ho]
  simp only [resolve, List.map_toArray, hv]
  simp [invoke, builtin, run_cpx, Sem.run_bind]
end
structure Cx where
  re : Nat
  im : Nat
deriving DecidableEq
def feq (x y : Nat) : Bool := FloatKind.f64.format.order x y == some .eq
def cxEq (a b : Cx) : Bool := feq a.re b.re && feq a.im b.im
section
variable {p : Program} {t : Nat} {a b : Cx} {d : Bool}
theorem bi_ceql (h : cxEq a b = d) (x y : Operand) : Runs p (do eqGuard .eql t x y (.complex .f64 a.re a.im) (.complex .f64 b.re b.im); binOp .eql t (.complex .f64 a.re a.im) (.complex .f64 b.re b.im)) (.bool d) := ⟨fun w => by
  subst h
  simp [eqGuard, binOp, Op.complexOp, Op.Complex.cmp, Op.floatCmp, Sem.run_bind, asBool, cxEq, feq]⟩
end
end Go.Proofs.YtalffjplbhelcaaGreatDoor
namespace Go.Proofs.YtalffjplbhelcaaGreatDoor
open Go.RowKit
theorem bd108_0_1_2 (x0_0 : Int) (x1_0 : ByteArray) (x2_0 : Cx) : Runs Tryz.prog (Instr.build 108 #[(0, .int .i64 x0_0), (1, .string x1_0), (2, .complex .f64 (x2_0).re (x2_0).im)]) (.agg #[.int .i64 x0_0, .string x1_0, .complex .f64 (x2_0).re (x2_0).im]) := ⟨fun w => by go_simp⟩
theorem bs71_1_0a (x0_0 : Int) (x0_1 : ByteArray) (x0_2 : Cx) : Makes Tryz.prog (Instr.buildSlice 71 1 #[(0, .agg #[.int .i64 x0_0, .string x0_1, .complex .f64 (x0_2).re (x0_2).im])]) 1 [.int .i64 x0_0, .string x0_1, .complex .f64 (x0_2).re (x0_2).im] 108 := ⟨fun w => by go_simp⟩
theorem slT71 : SlT Tryz.prog 71 108 3 40 := ⟨Tryz.underlying71, .agg #[.int .i64 0, .string (⟨#[]⟩ : ByteArray), .complex .f64 ((⟨0, 0⟩ : Cx)).re ((⟨0, 0⟩ : Cx)).im], by kernel_rfl, rfl, by decide⟩
end Go.Proofs.YtalffjplbhelcaaGreatDoor
namespace Go.Proofs.YtalffjplbhelcaaGreatDoor
open Go.RowKit
end Go.Proofs.YtalffjplbhelcaaGreatDoor
namespace Go.Proofs.YtalffjplbhelcaaGreatDoor
open Go.RowKit
end Go.Proofs.YtalffjplbhelcaaGreatDoor
namespace Go.Proofs.YtalffjplbhelcaaGreatDoor
open Go.RowKit
end Go.Proofs.YtalffjplbhelcaaGreatDoor
namespace Go.Proofs.YtalffjplbhelcaaGreatDoor
open Go.RowKit
end Go.Proofs.YtalffjplbhelcaaGreatDoor
namespace Go.Proofs.YtalffjplbhelcaaGreatDoor
open Go.RowKit
end Go.Proofs.YtalffjplbhelcaaGreatDoor
namespace Go.Proofs.YtalffjplbhelcaaGreatDoor
open Go.RowKit
end Go.Proofs.YtalffjplbhelcaaGreatDoor
namespace Go.Proofs.YtalffjplbhelcaaGreatDoor
open Go.RowKit
end Go.Proofs.YtalffjplbhelcaaGreatDoor
namespace Go.Proofs.YtalffjplbhelcaaGreatDoor
open Go.RowKit
theorem bs76_1_0 (x0_0 : Int) : Makes Tryz.prog (Instr.buildSlice 76 1 #[(0, .int .u8 x0_0)]) 1 [.int .u8 x0_0] 5 := ⟨fun w => by go_simp⟩
end Go.Proofs.YtalffjplbhelcaaGreatDoor
namespace Go.Proofs.YtalffjplbhelcaaGreatDoor
open Go.RowKit
theorem cell9 : IsCell Tryz.prog 9 := ⟨⟨_, Tryz.underlying9, rfl, by kernel_rfl⟩⟩
end Go.Proofs.YtalffjplbhelcaaGreatDoor
namespace Go.Proofs.YtalffjplbhelcaaGreatDoor
open Go.RowKit
theorem agg29 : IsAgg Tryz.prog 29 13 := ⟨⟨_, Tryz.underlying29, rfl, by kernel_rfl⟩⟩
theorem bd29_  : Runs Tryz.prog (Instr.build 29 #[]) (.agg #[.string (⟨#[]⟩ : ByteArray), .int .i64 0, .int .i64 0, .int .i64 0, .int .i64 0, .int .i64 0, .int .i64 0, .int .i64 0, .int .i64 0, .int .i64 0, .int .i64 0, .int .i64 0, .int .i64 0]) := ⟨fun w => by go_simp⟩
theorem fa108_0 (a : Addr) : Runs Tryz.prog (Instr.fieldAt 108 (.pointer (some a)) 0) (.pointer (some (a.add 0))) := run_fa (f := 0) (off := 0) (m := 1) Tryz.underlying108 rfl rfl (by kernel_rfl) (by decide) a
theorem fa108_1 (a : Addr) : Runs Tryz.prog (Instr.fieldAt 108 (.pointer (some a)) 1) (.pointer (some (a.add 1))) := run_fa (f := 1) (off := 1) (m := 1) Tryz.underlying108 rfl rfl (by kernel_rfl) (by decide) a
theorem fa29_0 (a : Addr) : Runs Tryz.prog (Instr.fieldAt 29 (.pointer (some a)) 0) (.pointer (some (a.add 0))) := run_fa (f := 0) (off := 0) (m := 1) Tryz.underlying29 rfl rfl (by kernel_rfl) (by decide) a
theorem zero29 : Zero Tryz.prog 29 [.string (⟨#[]⟩ : ByteArray), .int .i64 0, .int .i64 0, .int .i64 0, .int .i64 0, .int .i64 0, .int .i64 0, .int .i64 0, .int .i64 0, .int .i64 0, .int .i64 0, .int .i64 0, .int .i64 0] := ⟨⟨.agg #[.string (⟨#[]⟩ : ByteArray), .int .i64 0, .int .i64 0, .int .i64 0, .int .i64 0, .int .i64 0, .int .i64 0, .int .i64 0, .int .i64 0, .int .i64 0, .int .i64 0, .int .i64 0, .int .i64 0], by kernel_rfl, rfl⟩⟩
end Go.Proofs.YtalffjplbhelcaaGreatDoor
namespace Go.Proofs.YtalffjplbhelcaaGreatDoor
open Go.RowKit
theorem agg108 : IsAgg Tryz.prog 108 3 := ⟨⟨_, Tryz.underlying108, rfl, by kernel_rfl⟩⟩
theorem bs23_1_0a (x0_0 : ByteArray) (x0_1 : Int) (x0_2 : Int) (x0_3 : Int) (x0_4 : Int) (x0_5 : Int) (x0_6 : Int) (x0_7 : Int) (x0_8 : Int) (x0_9 : Int) (x0_10 : Int) (x0_11 : Int) (x0_12 : Int) : Makes Tryz.prog (Instr.buildSlice 23 1 #[(0, .agg #[.string x0_0, .int .i64 x0_1, .int .i64 x0_2, .int .i64 x0_3, .int .i64 x0_4, .int .i64 x0_5, .int .i64 x0_6, .int .i64 x0_7, .int .i64 x0_8, .int .i64 x0_9, .int .i64 x0_10, .int .i64 x0_11, .int .i64 x0_12])]) 1 [.string x0_0, .int .i64 x0_1, .int .i64 x0_2, .int .i64 x0_3, .int .i64 x0_4, .int .i64 x0_5, .int .i64 x0_6, .int .i64 x0_7, .int .i64 x0_8, .int .i64 x0_9, .int .i64 x0_10, .int .i64 x0_11, .int .i64 x0_12] 29 := ⟨fun w => by go_simp⟩
theorem bs94_6_0a_1a_2a_3a_4a_5a (x0_0 : Int) (x0_1 : Int) (x1_0 : Int) (x1_1 : Int) (x2_0 : Int) (x2_1 : Int) (x3_0 : Int) (x3_1 : Int) (x4_0 : Int) (x4_1 : Int) (x5_0 : Int) (x5_1 : Int) : Makes Tryz.prog (Instr.buildSlice 94 6 #[(0, .agg #[.int .i64 x0_0, .int .i64 x0_1]), (1, .agg #[.int .i64 x1_0, .int .i64 x1_1]), (2, .agg #[.int .i64 x2_0, .int .i64 x2_1]), (3, .agg #[.int .i64 x3_0, .int .i64 x3_1]), (4, .agg #[.int .i64 x4_0, .int .i64 x4_1]), (5, .agg #[.int .i64 x5_0, .int .i64 x5_1])]) 6 [.int .i64 x0_0, .int .i64 x0_1, .int .i64 x1_0, .int .i64 x1_1, .int .i64 x2_0, .int .i64 x2_1, .int .i64 x3_0, .int .i64 x3_1, .int .i64 x4_0, .int .i64 x4_1, .int .i64 x5_0, .int .i64 x5_1] 26 := ⟨fun w => by go_simp⟩
theorem cell39 : IsCell Tryz.prog 39 := ⟨⟨_, Tryz.underlying39, rfl, by kernel_rfl⟩⟩
theorem cell76 : IsCell Tryz.prog 76 := ⟨⟨_, Tryz.underlying76, rfl, by kernel_rfl⟩⟩
theorem cell91 : IsCell Tryz.prog 91 := ⟨⟨_, Tryz.underlying91, rfl, by kernel_rfl⟩⟩
theorem fa108_2 (a : Addr) : Runs Tryz.prog (Instr.fieldAt 108 (.pointer (some a)) 2) (.pointer (some (a.add 2))) := run_fa (f := 2) (off := 2) (m := 1) Tryz.underlying108 rfl rfl (by kernel_rfl) (by decide) a
theorem fa29_1 (a : Addr) : Runs Tryz.prog (Instr.fieldAt 29 (.pointer (some a)) 1) (.pointer (some (a.add 1))) := run_fa (f := 1) (off := 1) (m := 6) Tryz.underlying29 rfl rfl (by kernel_rfl) (by decide) a
theorem fa29_2 (a : Addr) : Runs Tryz.prog (Instr.fieldAt 29 (.pointer (some a)) 2) (.pointer (some (a.add 7))) := run_fa (f := 2) (off := 7) (m := 6) Tryz.underlying29 rfl rfl (by kernel_rfl) (by decide) a
theorem fa93_0 (a : Addr) : Runs Tryz.prog (Instr.fieldAt 93 (.pointer (some a)) 0) (.pointer (some (a.add 0))) := run_fa (f := 0) (off := 0) (m := 1) Tryz.underlying93 rfl rfl (by kernel_rfl) (by decide) a
theorem fa93_1 (a : Addr) : Runs Tryz.prog (Instr.fieldAt 93 (.pointer (some a)) 1) (.pointer (some (a.add 1))) := run_fa (f := 1) (off := 1) (m := 1) Tryz.underlying93 rfl rfl (by kernel_rfl) (by decide) a
theorem ia27_0 (g off : Nat) : Runs Tryz.prog (Instr.indexAt 27 (.pointer (some ⟨g, off, none⟩)) (.int .i64 0)) (.pointer (some ⟨g, off + 0, none⟩)) := run_ia (i := 0) (m := 2) (j := 0) Tryz.underlying27 (by kernel_rfl) rfl g off (by decide) (by decide)
theorem ia27_1 (g off : Nat) : Runs Tryz.prog (Instr.indexAt 27 (.pointer (some ⟨g, off, none⟩)) (.int .i64 1)) (.pointer (some ⟨g, off + 2, none⟩)) := run_ia (i := 1) (m := 2) (j := 2) Tryz.underlying27 (by kernel_rfl) rfl g off (by decide) (by decide)
theorem ia27_2 (g off : Nat) : Runs Tryz.prog (Instr.indexAt 27 (.pointer (some ⟨g, off, none⟩)) (.int .i64 2)) (.pointer (some ⟨g, off + 4, none⟩)) := run_ia (i := 2) (m := 2) (j := 4) Tryz.underlying27 (by kernel_rfl) rfl g off (by decide) (by decide)
theorem slT23 : SlT Tryz.prog 23 29 13 112 := ⟨Tryz.underlying23, .agg #[.string (⟨#[]⟩ : ByteArray), .int .i64 0, .int .i64 0, .int .i64 0, .int .i64 0, .int .i64 0, .int .i64 0, .int .i64 0, .int .i64 0, .int .i64 0, .int .i64 0, .int .i64 0, .int .i64 0], by kernel_rfl, rfl, by decide⟩
theorem zero93 : Zero Tryz.prog 93 [.pointer none, .slice none 0 0] := ⟨⟨.agg #[.pointer none, .slice none 0 0], by kernel_rfl, rfl⟩⟩
end Go.Proofs.YtalffjplbhelcaaGreatDoor
namespace Go.Proofs.YtalffjplbhelcaaGreatDoor
open Go.RowKit
theorem bd127_0_1 (x0_0 : Int) (x1_0 : Int) : Runs Tryz.prog (Instr.build 127 #[(0, .int .i64 x0_0), (1, .int .i64 x1_0)]) (.agg #[.int .i64 x0_0, .int .i64 x1_0]) := ⟨fun w => by go_simp⟩
theorem bd27_0a_1a_2a (x0_0 : Int) (x0_1 : Int) (x1_0 : Int) (x1_1 : Int) (x2_0 : Int) (x2_1 : Int) : Runs Tryz.prog (Instr.build 27 #[(0, .agg #[.int .i64 x0_0, .int .i64 x0_1]), (1, .agg #[.int .i64 x1_0, .int .i64 x1_1]), (2, .agg #[.int .i64 x2_0, .int .i64 x2_1])]) (.agg #[.int .i64 x0_0, .int .i64 x0_1, .int .i64 x1_0, .int .i64 x1_1, .int .i64 x2_0, .int .i64 x2_1]) := ⟨fun w => by go_simp⟩
theorem bd29_0_1a_2a (x0_0 : ByteArray) (x1_0 : Int) (x1_1 : Int) (x1_2 : Int) (x1_3 : Int) (x1_4 : Int) (x1_5 : Int) (x2_0 : Int) (x2_1 : Int) (x2_2 : Int) (x2_3 : Int) (x2_4 : Int) (x2_5 : Int) : Runs Tryz.prog (Instr.build 29 #[(0, .string x0_0), (1, .agg #[.int .i64 x1_0, .int .i64 x1_1, .int .i64 x1_2, .int .i64 x1_3, .int .i64 x1_4, .int .i64 x1_5]), (2, .agg #[.int .i64 x2_0, .int .i64 x2_1, .int .i64 x2_2, .int .i64 x2_3, .int .i64 x2_4, .int .i64 x2_5])]) (.agg #[.string x0_0, .int .i64 x1_0, .int .i64 x1_1, .int .i64 x1_2, .int .i64 x1_3, .int .i64 x1_4, .int .i64 x1_5, .int .i64 x2_0, .int .i64 x2_1, .int .i64 x2_2, .int .i64 x2_3, .int .i64 x2_4, .int .i64 x2_5]) := ⟨fun w => by go_simp⟩
theorem bd32_0_1_2 (x0_0 : Int) (x1_0 : Int) (x2_0 : Bool) : Runs Tryz.prog (Instr.build 32 #[(0, .int .i64 x0_0), (1, .int .i64 x1_0), (2, .bool x2_0)]) (.agg #[.int .i64 x0_0, .int .i64 x1_0, .bool x2_0]) := ⟨fun w => by go_simp⟩
theorem bs23_2_0a_1a (x0_0 : ByteArray) (x0_1 : Int) (x0_2 : Int) (x0_3 : Int) (x0_4 : Int) (x0_5 : Int) (x0_6 : Int) (x0_7 : Int) (x0_8 : Int) (x0_9 : Int) (x0_10 : Int) (x0_11 : Int) (x0_12 : Int) (x1_0 : ByteArray) (x1_1 : Int) (x1_2 : Int) (x1_3 : Int) (x1_4 : Int) (x1_5 : Int) (x1_6 : Int) (x1_7 : Int) (x1_8 : Int) (x1_9 : Int) (x1_10 : Int) (x1_11 : Int) (x1_12 : Int) : Makes Tryz.prog (Instr.buildSlice 23 2 #[(0, .agg #[.string x0_0, .int .i64 x0_1, .int .i64 x0_2, .int .i64 x0_3, .int .i64 x0_4, .int .i64 x0_5, .int .i64 x0_6, .int .i64 x0_7, .int .i64 x0_8, .int .i64 x0_9, .int .i64 x0_10, .int .i64 x0_11, .int .i64 x0_12]), (1, .agg #[.string x1_0, .int .i64 x1_1, .int .i64 x1_2, .int .i64 x1_3, .int .i64 x1_4, .int .i64 x1_5, .int .i64 x1_6, .int .i64 x1_7, .int .i64 x1_8, .int .i64 x1_9, .int .i64 x1_10, .int .i64 x1_11, .int .i64 x1_12])]) 2 [.string x0_0, .int .i64 x0_1, .int .i64 x0_2, .int .i64 x0_3, .int .i64 x0_4, .int .i64 x0_5, .int .i64 x0_6, .int .i64 x0_7, .int .i64 x0_8, .int .i64 x0_9, .int .i64 x0_10, .int .i64 x0_11, .int .i64 x0_12, .string x1_0, .int .i64 x1_1, .int .i64 x1_2, .int .i64 x1_3, .int .i64 x1_4, .int .i64 x1_5, .int .i64 x1_6, .int .i64 x1_7, .int .i64 x1_8, .int .i64 x1_9, .int .i64 x1_10, .int .i64 x1_11, .int .i64 x1_12] 29 := ⟨fun w => by go_simp⟩
theorem ix127_0 (x0 : Int) (x1 : Int) : Runs Tryz.prog (Instr.index 127 (.agg #[.int .i64 x0, .int .i64 x1]) (.int .i64 0)) (.int .i64 x0) := run_ixc (xs := [.int .i64 x0, .int .i64 x1]) Tryz.underlying127 cell3 (by decide) (by decide) rfl
theorem ix127_1 (x0 : Int) (x1 : Int) : Runs Tryz.prog (Instr.index 127 (.agg #[.int .i64 x0, .int .i64 x1]) (.int .i64 1)) (.int .i64 x1) := run_ixc (xs := [.int .i64 x0, .int .i64 x1]) Tryz.underlying127 cell3 (by decide) (by decide) rfl
end Go.Proofs.YtalffjplbhelcaaGreatDoor
namespace Go.Proofs.YtalffjplbhelcaaGreatDoor
open Go.RowKit
theorem bs22_3_0_1_2 (x0_0 : Int) (x1_0 : Int) (x2_0 : Int) : Makes Tryz.prog (Instr.buildSlice 22 3 #[(0, .int .i64 x0_0), (1, .int .i64 x1_0), (2, .int .i64 x2_0)]) 3 [.int .i64 x0_0, .int .i64 x1_0, .int .i64 x2_0] 3 := ⟨fun w => by go_simp⟩
end Go.Proofs.YtalffjplbhelcaaGreatDoor
namespace Go.Proofs.YtalffjplbhelcaaGreatDoor
open Go.RowKit
attribute [local irreducible] AC AR DWalk
def numRounded_e0 (a : Int) (b : Int) (up : Bool) : Int := (bif (Int.tmod a b) != 0 then (w64 ((numFloor a b) + 1)) else (numFloor a b))
def numRounded (a : Int) (b : Int) (up : Bool) : Int × Bool := (bif up then (bif numIn (numRounded_e0 a b up) then ((numRounded_e0 a b up), true) else (0, false)) else (bif numIn (numFloor a b) then ((numFloor a b), true) else (0, false)))
set_option maxRecDepth 100000 in
theorem c_numRounded (a : Int) (b : Int) (up : Bool) (hb : b ≠ 0) : Gets Tryz.prog 124 #[.int .i64 a, .int .i64 b, .bool up] ((fun (r : Int × Bool) => (.tuple #[.int .i64 r.1, .bool r.2] : Value)) (numRounded a b up)) := by
 refine gets_fin Tryz.func124 rfl rfl rfl (aQ (aL (aA 6 (.int .i64 0) rfl rfl (aA 7 (.bool false) rfl rfl (aN (aQ (aL (aM 9 (.int .i64 a) rfl rfl (aM 10 (.int .i64 b) rfl rfl (aC 11 (c_numFloor a b) Tryz.func77 ⟨rfl, by decide⟩ rfl rfl (aA 8 (.int .i64 (numFloor a b)) rfl rfl (aN (aQ (aQ (aL (aM 12 (.bool up) rfl rfl (aM 13 (.bool up) rfl rfl ?_)))))))))))))))))
 refine bool_split (up) (fun h1 => ?_) (fun h1 => ?_)
 ·refine ar_gd (d := (some 14)) (by show (up == true) = true; rw [h1]; rfl) rfl (st_move (v := .int .i64 a) rfl rfl (ar_gd (d := (some 15)) (by show (up == true) = true; rw [h1]; rfl) rfl (st_move (v := .int .i64 b) rfl rfl (ar_gd (d := (some 16)) (by show (up == true) = true; rw [h1]; rfl) rfl (st_bi (r := .int .i64 (Int.tmod a b)) rfl rfl rfl (bi_rem hb rfl) (ar_gd (d := (some 17)) (by show (up == true) = true; rw [h1]; rfl) rfl (st_bi (r := .bool ((Int.tmod a b) != 0)) rfl rfl rfl (bi_neq rfl) (ao 18 rfl rfl (st_pkt' (b := up) (v := .bool ((Int.tmod a b) != 0)) h1 rfl rfl rfl (aN ?_))))))))))
  refine ac_mergeE (fun E9 => (((Env.put E9 (some 19) (.int .i64 (numFloor a b))).put (some 20) (.int .i64 (w64 ((numFloor a b) + 1)))).put (some 8) (.int .i64 (w64 ((numFloor a b) + 1))))) (fun E9 => (((Env.put E9 (some 19) (bif (Int.tmod a b) != 0 then (.int .i64 (numFloor a b) : Value) else E9 19)).put (some 20) (bif (Int.tmod a b) != 0 then (.int .i64 (w64 ((numFloor a b) + 1)) : Value) else E9 20)).put (some 8) (.int .i64 (numRounded_e0 a b up)))) (b := (Int.tmod a b) != 0) rfl (fun hm => ?_) (fun hm => ?_) (fun hm => ?_) ?_
  ·refine aL (aM 19 (.int .i64 (numFloor a b)) rfl rfl (aB 20 (.int .i64 (w64 ((numFloor a b) + 1))) rfl rfl rfl (bi_add rfl) (aA 8 (.int .i64 (w64 ((numFloor a b) + 1))) rfl rfl (aN ?_))))
   exact ⟨rfl, rfl, rfl⟩
  ·unfold numRounded_e0; rw [hm]; rfl
  ·unfold numRounded_e0; rw [hm]; exact ((put_self rfl).trans ((put_self rfl).trans (put_self rfl)))
  refine aQ (aQ (aL (aM 21 (.int .i64 (numRounded_e0 a b up)) rfl rfl (aC 22 (c_numIn (numRounded_e0 a b up)) Tryz.func65 ⟨rfl, by decide⟩ rfl rfl (ao 23 rfl rfl (st_un (v := .bool (!(numIn (numRounded_e0 a b up)))) rfl rfl (un_not rfl) (aN ?_)))))))
  refine bool_split (numIn (numRounded_e0 a b up)) (fun h2 => ?_) (fun h2 => ?_)
  ·refine ac_else' (b := !(numIn (numRounded_e0 a b up))) (by rw [h2]; rfl) rfl (ac_skip (aQ (aL (aM 24 (.int .i64 (numRounded_e0 a b up)) rfl rfl (aA 6 (.int .i64 (numRounded_e0 a b up)) rfl rfl (aA 7 (.bool true) rfl rfl (aN (ac_ret (fin_eq (v := .tuple #[.int .i64 (numRounded_e0 a b up), .bool true]) (by show _ = (fun (r : Int × Bool) => (.tuple #[.int .i64 r.1, .bool r.2] : Value)) (numRounded a b up); rw [numRounded, h2, h1] <;> rfl) (fin_ret (res_tt rfl rfl rfl)))))))))))
  ·refine ac_then' (b := !(numIn (numRounded_e0 a b up))) (by rw [h2]; rfl) rfl (aQ (aL (aA 6 (.int .i64 0) rfl rfl (aA 7 (.bool false) rfl rfl (aN (ac_ret (fin_eq (v := .tuple #[.int .i64 0, .bool false]) (by show _ = (fun (r : Int × Bool) => (.tuple #[.int .i64 r.1, .bool r.2] : Value)) (numRounded a b up); rw [numRounded, h2, h1] <;> rfl) (fin_ret (res_tt rfl rfl rfl)))))))))
 ·refine aK 14 (by show (up == true) = false; rw [h1]; rfl) rfl (aK 15 (by show (up == true) = false; rw [h1]; rfl) rfl (aK 16 (by show (up == true) = false; rw [h1]; rfl) rfl (aK 17 (by show (up == true) = false; rw [h1]; rfl) rfl (ao 18 rfl rfl (st_pkf' (b := up) (v := .bool false) h1 rfl rfl rfl (aN (ac_else rfl (ac_skip (aQ (aQ (aL (aM 21 (.int .i64 (numFloor a b)) rfl rfl (aC 22 (c_numIn (numFloor a b)) Tryz.func65 ⟨rfl, by decide⟩ rfl rfl (ao 23 rfl rfl (st_un (v := .bool (!(numIn (numFloor a b)))) rfl rfl (un_not rfl) (aN ?_))))))))))))))))
  refine bool_split (numIn (numFloor a b)) (fun h2 => ?_) (fun h2 => ?_)
  ·refine ac_else' (b := !(numIn (numFloor a b))) (by rw [h2]; rfl) rfl (ac_skip (aQ (aL (aM 24 (.int .i64 (numFloor a b)) rfl rfl (aA 6 (.int .i64 (numFloor a b)) rfl rfl (aA 7 (.bool true) rfl rfl (aN (ac_ret (fin_eq (v := .tuple #[.int .i64 (numFloor a b), .bool true]) (by show _ = (fun (r : Int × Bool) => (.tuple #[.int .i64 r.1, .bool r.2] : Value)) (numRounded a b up); rw [numRounded, h2, h1] <;> rfl) (fin_ret (res_tt rfl rfl rfl)))))))))))
  ·refine ac_then' (b := !(numIn (numFloor a b))) (by rw [h2]; rfl) rfl (aQ (aL (aA 6 (.int .i64 0) rfl rfl (aA 7 (.bool false) rfl rfl (aN (ac_ret (fin_eq (v := .tuple #[.int .i64 0, .bool false]) (by show _ = (fun (r : Int × Bool) => (.tuple #[.int .i64 r.1, .bool r.2] : Value)) (numRounded a b up); rw [numRounded, h2, h1] <;> rfl) (fin_ret (res_tt rfl rfl rfl)))))))))
def numMul (a : Int) (b : Int) (up : Bool) : Int × Bool := (bif numIn a then (bif numIn b then ((numRounded (w64 (a * b)) 65536 up).1, (numRounded (w64 (a * b)) 65536 up).2) else (0, false)) else (0, false))
set_option maxRecDepth 100000 in
theorem c_numMul (a : Int) (b : Int) (up : Bool) : Gets Tryz.prog 88 #[.int .i64 a, .int .i64 b, .bool up] ((fun (r : Int × Bool) => (.tuple #[.int .i64 r.1, .bool r.2] : Value)) (numMul a b up)) := by
 refine gets_fin Tryz.func88 rfl rfl rfl (aQ (aL (aA 6 (.int .i64 0) rfl rfl (aA 7 (.bool false) rfl rfl (aN (aQ (aQ (aL (aM 8 (.int .i64 a) rfl rfl (aC 9 (c_numIn a) Tryz.func65 ⟨rfl, by decide⟩ rfl rfl (ao 10 rfl rfl (st_un (v := .bool (!(numIn a))) rfl rfl (un_not rfl) (aM 11 (.bool (!(numIn a))) rfl rfl ?_)))))))))))))
 refine bool_split (numIn a) (fun h1 => ?_) (fun h1 => ?_)
 ·refine ar_gd (d := (some 12)) (by show ((!(numIn a)) == false) = true; rw [h1]; rfl) rfl (st_move (v := .int .i64 b) rfl rfl (ar_gd (d := (some 13)) (by show ((!(numIn a)) == false) = true; rw [h1]; rfl) rfl (st_cf (c_numIn b) Tryz.func65 rfl (by decide) rfl rfl rfl (ar_gd (d := (some 14)) (by show ((!(numIn a)) == false) = true; rw [h1]; rfl) rfl (st_un (v := .bool (!(numIn b))) rfl rfl (un_not rfl) (ao 15 rfl rfl (st_pkf' (b := !(numIn a)) (v := .bool (!(numIn b))) (by rw [h1]; rfl) rfl rfl rfl (aN ?_))))))))
  refine bool_split (numIn b) (fun h2 => ?_) (fun h2 => ?_)
  ·refine ac_else' (b := !(numIn b)) (by rw [h2]; rfl) rfl (ac_skip (aQ (aL (aM 16 (.int .i64 a) rfl rfl (aM 17 (.int .i64 b) rfl rfl (aB 18 (.int .i64 (w64 (a * b))) rfl rfl rfl (bi_mul rfl) (aM 19 (.bool up) rfl rfl (aC 20 (c_numRounded (w64 (a * b)) 65536 up (by decide)) Tryz.func124 ⟨rfl, by decide⟩ rfl rfl (aX 21 (.int .i64 ((numRounded (w64 (a * b)) 65536 up).1)) rfl rfl rfl (aX 22 (.bool ((numRounded (w64 (a * b)) 65536 up).2)) rfl rfl rfl (aA 6 (.int .i64 ((numRounded (w64 (a * b)) 65536 up).1)) rfl rfl (aA 7 (.bool ((numRounded (w64 (a * b)) 65536 up).2)) rfl rfl (aN (ac_ret ?_))))))))))))))
   exact fin_eq (v := .tuple #[.int .i64 ((numRounded (w64 (a * b)) 65536 up).1), .bool ((numRounded (w64 (a * b)) 65536 up).2)]) (by show _ = (fun (r : Int × Bool) => (.tuple #[.int .i64 r.1, .bool r.2] : Value)) (numMul a b up); rw [numMul, h2, h1] <;> rfl) (fin_ret (res_tt rfl rfl rfl))
  ·refine ac_then' (b := !(numIn b)) (by rw [h2]; rfl) rfl (aQ (aL (aA 6 (.int .i64 0) rfl rfl (aA 7 (.bool false) rfl rfl (aN (ac_ret (fin_eq (v := .tuple #[.int .i64 0, .bool false]) (by show _ = (fun (r : Int × Bool) => (.tuple #[.int .i64 r.1, .bool r.2] : Value)) (numMul a b up); rw [numMul, h2, h1] <;> rfl) (fin_ret (res_tt rfl rfl rfl)))))))))
 ·refine aK 12 (by show ((!(numIn a)) == false) = false; rw [h1]; rfl) rfl (aK 13 (by show ((!(numIn a)) == false) = false; rw [h1]; rfl) rfl (aK 14 (by show ((!(numIn a)) == false) = false; rw [h1]; rfl) rfl (ao 15 rfl rfl (st_pkt' (b := !(numIn a)) (v := .bool true) (by rw [h1]; rfl) rfl rfl rfl (aN (ac_then rfl (aQ (aL (aA 6 (.int .i64 0) rfl rfl (aA 7 (.bool false) rfl rfl (aN (ac_ret (fin_eq (v := .tuple #[.int .i64 0, .bool false]) (by show _ = (fun (r : Int × Bool) => (.tuple #[.int .i64 r.1, .bool r.2] : Value)) (numMul a b up); rw [numMul, h1] <;> rfl) (fin_ret (res_tt rfl rfl rfl)))))))))))))))
def numDiv (a : Int) (b : Int) (up : Bool) : Int × Bool := (bif numIn a then (bif numIn b then (bif b == 0 then (0, false) else ((numRounded (w64 (a * 65536)) b up).1, (numRounded (w64 (a * 65536)) b up).2)) else (0, false)) else (0, false))
set_option maxRecDepth 100000 in
theorem c_numDiv (a : Int) (b : Int) (up : Bool) : Gets Tryz.prog 94 #[.int .i64 a, .int .i64 b, .bool up] ((fun (r : Int × Bool) => (.tuple #[.int .i64 r.1, .bool r.2] : Value)) (numDiv a b up)) := by
 refine gets_fin Tryz.func94 rfl rfl rfl (aQ (aL (aA 6 (.int .i64 0) rfl rfl (aA 7 (.bool false) rfl rfl (aN (aQ (aQ (aL (aM 8 (.int .i64 a) rfl rfl (aC 9 (c_numIn a) Tryz.func65 ⟨rfl, by decide⟩ rfl rfl (ao 10 rfl rfl (st_un (v := .bool (!(numIn a))) rfl rfl (un_not rfl) (aM 11 (.bool (!(numIn a))) rfl rfl ?_)))))))))))))
 refine bool_split (numIn a) (fun h1 => ?_) (fun h1 => ?_)
 ·refine ar_gd (d := (some 12)) (by show ((!(numIn a)) == false) = true; rw [h1]; rfl) rfl (st_move (v := .int .i64 b) rfl rfl (ar_gd (d := (some 13)) (by show ((!(numIn a)) == false) = true; rw [h1]; rfl) rfl (st_cf (c_numIn b) Tryz.func65 rfl (by decide) rfl rfl rfl (ar_gd (d := (some 14)) (by show ((!(numIn a)) == false) = true; rw [h1]; rfl) rfl (st_un (v := .bool (!(numIn b))) rfl rfl (un_not rfl) (ao 15 rfl rfl (st_pkf' (b := !(numIn a)) (v := .bool (!(numIn b))) (by rw [h1]; rfl) rfl rfl rfl (aM 16 (.bool (!(numIn b))) rfl rfl ?_))))))))
  refine bool_split (numIn b) (fun h2 => ?_) (fun h2 => ?_)
  ·refine ar_gd (d := (some 17)) (by show ((!(numIn b)) == false) = true; rw [h2]; rfl) rfl (st_move (v := .int .i64 b) rfl rfl (ar_gd (d := (some 18)) (by show ((!(numIn b)) == false) = true; rw [h2]; rfl) rfl (st_bi (r := .bool (b == 0)) rfl rfl rfl (bi_eql rfl) (ao 19 rfl rfl (st_pkf' (b := !(numIn b)) (v := .bool (b == 0)) (by rw [h2]; rfl) rfl rfl rfl (aN ?_))))))
   refine bool_split (b == 0) (fun h3 => ?_) (fun h3 => ?_)
   ·refine ac_then' (b := b == 0) h3 rfl (aQ (aL (aA 6 (.int .i64 0) rfl rfl (aA 7 (.bool false) rfl rfl (aN (ac_ret (fin_eq (v := .tuple #[.int .i64 0, .bool false]) (by show _ = (fun (r : Int × Bool) => (.tuple #[.int .i64 r.1, .bool r.2] : Value)) (numDiv a b up); rw [numDiv, h3, h2, h1] <;> rfl) (fin_ret (res_tt rfl rfl rfl)))))))))
   ·refine ac_else' (b := b == 0) h3 rfl (ac_skip (aQ (aL (aM 20 (.int .i64 a) rfl rfl (aB 21 (.int .i64 (w64 (a * 65536))) rfl rfl rfl (bi_mul rfl) (aM 22 (.int .i64 b) rfl rfl (aM 23 (.bool up) rfl rfl (aC 24 (c_numRounded (w64 (a * 65536)) b up (ne_of_beq0 h3)) Tryz.func124 ⟨rfl, by decide⟩ rfl rfl (aX 25 (.int .i64 ((numRounded (w64 (a * 65536)) b up).1)) rfl rfl rfl (aX 26 (.bool ((numRounded (w64 (a * 65536)) b up).2)) rfl rfl rfl (aA 6 (.int .i64 ((numRounded (w64 (a * 65536)) b up).1)) rfl rfl (aA 7 (.bool ((numRounded (w64 (a * 65536)) b up).2)) rfl rfl (aN (ac_ret ?_))))))))))))))
    exact fin_eq (v := .tuple #[.int .i64 ((numRounded (w64 (a * 65536)) b up).1), .bool ((numRounded (w64 (a * 65536)) b up).2)]) (by show _ = (fun (r : Int × Bool) => (.tuple #[.int .i64 r.1, .bool r.2] : Value)) (numDiv a b up); rw [numDiv, h3, h2, h1] <;> rfl) (fin_ret (res_tt rfl rfl rfl))
  ·refine aK 17 (by show ((!(numIn b)) == false) = false; rw [h2]; rfl) rfl (aK 18 (by show ((!(numIn b)) == false) = false; rw [h2]; rfl) rfl (ao 19 rfl rfl (st_pkt' (b := !(numIn b)) (v := .bool true) (by rw [h2]; rfl) rfl rfl rfl (aN (ac_then rfl (aQ (aL (aA 6 (.int .i64 0) rfl rfl (aA 7 (.bool false) rfl rfl (aN (ac_ret (fin_eq (v := .tuple #[.int .i64 0, .bool false]) (by show _ = (fun (r : Int × Bool) => (.tuple #[.int .i64 r.1, .bool r.2] : Value)) (numDiv a b up); rw [numDiv, h2, h1] <;> rfl) (fin_ret (res_tt rfl rfl rfl))))))))))))))
 ·refine aK 12 (by show ((!(numIn a)) == false) = false; rw [h1]; rfl) rfl (aK 13 (by show ((!(numIn a)) == false) = false; rw [h1]; rfl) rfl (aK 14 (by show ((!(numIn a)) == false) = false; rw [h1]; rfl) rfl (ao 15 rfl rfl (st_pkt' (b := !(numIn a)) (v := .bool true) (by rw [h1]; rfl) rfl rfl rfl (aM 16 (.bool true) rfl rfl (aK 17 rfl rfl (aK 18 rfl rfl (ao 19 rfl rfl (st_pkt (v := .bool true) rfl rfl rfl (aN (ac_then rfl (aQ (aL (aA 6 (.int .i64 0) rfl rfl (aA 7 (.bool false) rfl rfl (aN (ac_ret ?_)))))))))))))))))
  exact fin_eq (v := .tuple #[.int .i64 0, .bool false]) (by show _ = (fun (r : Int × Bool) => (.tuple #[.int .i64 r.1, .bool r.2] : Value)) (numDiv a b up); rw [numDiv, h1] <;> rfl) (fin_ret (res_tt rfl rfl rfl))
end Go.Proofs.YtalffjplbhelcaaGreatDoor
namespace Go.Proofs.YtalffjplbhelcaaGreatDoor
open Go.RowKit
attribute [local irreducible] AC AR DWalk
def numRootLoop (n : Int) : Nat → Int → Int
 | 0, r => r
 | j + 1, r => bif decide ((w64 ((orI r (w64 (1 * 2 ^ (min (Int.toNat (j : Int)) 64)))) * (orI r (w64 (1 * 2 ^ (min (Int.toNat (j : Int)) 64)))))) ≤ n) then numRootLoop n j (orI r (w64 (1 * 2 ^ (min (Int.toNat (j : Int)) 64)))) else numRootLoop n j r
set_option maxRecDepth 100000 in
theorem c_numRoot_loop (n : Int) (up : Bool) {Q : Exit → Env → List Box → Prop} {H : List Box} {c : Code} (hc : Tryz.f96.body.bind loopOf = some c) : ∀ (j : Nat) (r k : Int) (E : Env), j ≤ 64 → k = (j : Int) - 1 → E 1 = .bool up → E 6 = .int .i64 n → E 7 = .int .i64 r → E 8 = .int .i64 k →
  (∀ E' : Env, E' 1 = .bool up → E' 6 = .int .i64 n → E' 7 = .int .i64 (numRootLoop n j r) → Q (.exit 0) E' H) → ARounds Tryz.prog 44 c Q (j + 1) E H := by
 rw [show Tryz.f96.body.bind loopOf = some _ from rfl] at hc
 cases hc
 intro j
 induction j with
 | zero =>
  intro r k E hj hk h1 h6 h7 h8 hn
  obtain rfl : k = -1 := by omega
  obtain ⟨E0, rfl⟩ := env4 h1 h6 h7 h8
  refine ar_round (aQ (aQ (aL (aM 19 (.int .i64 (-1)) rfl rfl (aB 20 (.bool false) rfl rfl rfl (bi_geq (by decide)) (aN (ac_else rfl (ac_exit ?_))))))))
  exact hn _ rfl rfl rfl
 | succ j ih =>
  intro r k E hj hk h1 h6 h7 h8 hn
  obtain rfl : k = (j : Int) := by omega
  obtain ⟨E0, rfl⟩ := env4 h1 h6 h7 h8
  have h0 : decide ((j : Int) ≥ 0) = true := decide_eq_true (by omega)
  refine ar_round ?_
  cases h9 : decide ((w64 ((orI r (w64 (1 * 2 ^ (min (Int.toNat (j : Int)) 64)))) * (orI r (w64 (1 * 2 ^ (min (Int.toNat (j : Int)) 64)))))) ≤ n) with
  | false =>
   refine aQ (aQ (aL (aM 19 (.int .i64 (j : Int)) rfl rfl (aB 20 (.bool (decide ((j : Int) ≥ 0))) rfl rfl rfl (bi_geq rfl) (aN (ac_then' (b := decide ((j : Int) ≥ 0)) h0 rfl (ac_skip (aQ (ac_block (aQ (aL (aM 23 (.int .i64 r) rfl rfl (aM 24 (.int .i64 (j : Int)) rfl rfl (aB 25 (.int .i64 (w64 (1 * 2 ^ (min (Int.toNat (j : Int)) 64)))) rfl rfl rfl (bi_shl rfl (by omega)) (aB 26 (.int .i64 (orI r (w64 (1 * 2 ^ (min (Int.toNat (j : Int)) 64))))) rfl rfl rfl (bi_or rfl) (aA 9 (.int .i64 (orI r (w64 (1 * 2 ^ (min (Int.toNat (j : Int)) 64))))) rfl rfl (aN (aQ (aL (aM 27 (.int .i64 (orI r (w64 (1 * 2 ^ (min (Int.toNat (j : Int)) 64))))) rfl rfl ?_))))))))))))))))))))
   refine aM 28 (.int .i64 (orI r (w64 (1 * 2 ^ (min (Int.toNat (j : Int)) 64))))) rfl rfl (aB 29 (.int .i64 (w64 ((orI r (w64 (1 * 2 ^ (min (Int.toNat (j : Int)) 64)))) * (orI r (w64 (1 * 2 ^ (min (Int.toNat (j : Int)) 64))))))) rfl rfl rfl (bi_mul rfl) (aM 30 (.int .i64 n) rfl rfl (aB 31 (.bool (decide ((w64 ((orI r (w64 (1 * 2 ^ (min (Int.toNat (j : Int)) 64)))) * (orI r (w64 (1 * 2 ^ (min (Int.toNat (j : Int)) 64)))))) ≤ n))) rfl rfl rfl (bi_leq rfl) (aN (ac_else' (b := decide ((w64 ((orI r (w64 (1 * 2 ^ (min (Int.toNat (j : Int)) 64)))) * (orI r (w64 (1 * 2 ^ (min (Int.toNat (j : Int)) 64)))))) ≤ n)) h9 rfl (ac_skip (aL (aM 21 (.int .i64 (j : Int)) rfl rfl ?_))))))))
   refine aB 22 (.int .i64 (w64 ((j : Int) - 1))) rfl rfl rfl (bi_sub rfl) (aA 8 (.int .i64 (w64 ((j : Int) - 1))) rfl rfl (aN ?_))
   refine ih _ _ _ (by omega) (w64_id (by omega)) rfl rfl rfl rfl (fun E' a b c => hn E' a b ?_)
   rw [c, numRootLoop, h9]; rfl
  | true =>
   refine aQ (aQ (aL (aM 19 (.int .i64 (j : Int)) rfl rfl (aB 20 (.bool (decide ((j : Int) ≥ 0))) rfl rfl rfl (bi_geq rfl) (aN (ac_then' (b := decide ((j : Int) ≥ 0)) h0 rfl (ac_skip (aQ (ac_block (aQ (aL (aM 23 (.int .i64 r) rfl rfl (aM 24 (.int .i64 (j : Int)) rfl rfl (aB 25 (.int .i64 (w64 (1 * 2 ^ (min (Int.toNat (j : Int)) 64)))) rfl rfl rfl (bi_shl rfl (by omega)) (aB 26 (.int .i64 (orI r (w64 (1 * 2 ^ (min (Int.toNat (j : Int)) 64))))) rfl rfl rfl (bi_or rfl) (aA 9 (.int .i64 (orI r (w64 (1 * 2 ^ (min (Int.toNat (j : Int)) 64))))) rfl rfl (aN (aQ (aL (aM 27 (.int .i64 (orI r (w64 (1 * 2 ^ (min (Int.toNat (j : Int)) 64))))) rfl rfl ?_))))))))))))))))))))
   refine aM 28 (.int .i64 (orI r (w64 (1 * 2 ^ (min (Int.toNat (j : Int)) 64))))) rfl rfl (aB 29 (.int .i64 (w64 ((orI r (w64 (1 * 2 ^ (min (Int.toNat (j : Int)) 64)))) * (orI r (w64 (1 * 2 ^ (min (Int.toNat (j : Int)) 64))))))) rfl rfl rfl (bi_mul rfl) (aM 30 (.int .i64 n) rfl rfl (aB 31 (.bool (decide ((w64 ((orI r (w64 (1 * 2 ^ (min (Int.toNat (j : Int)) 64)))) * (orI r (w64 (1 * 2 ^ (min (Int.toNat (j : Int)) 64)))))) ≤ n))) rfl rfl rfl (bi_leq rfl) (aN (ac_then' (b := decide ((w64 ((orI r (w64 (1 * 2 ^ (min (Int.toNat (j : Int)) 64)))) * (orI r (w64 (1 * 2 ^ (min (Int.toNat (j : Int)) 64)))))) ≤ n)) h9 rfl (aL ?_))))))
   refine aM 32 (.int .i64 (orI r (w64 (1 * 2 ^ (min (Int.toNat (j : Int)) 64))))) rfl rfl (aA 7 (.int .i64 (orI r (w64 (1 * 2 ^ (min (Int.toNat (j : Int)) 64))))) rfl rfl (aN (aL (aM 21 (.int .i64 (j : Int)) rfl rfl (aB 22 (.int .i64 (w64 ((j : Int) - 1))) rfl rfl rfl (bi_sub rfl) (aA 8 (.int .i64 (w64 ((j : Int) - 1))) rfl rfl (aN ?_)))))))
   refine ih _ _ _ (by omega) (w64_id (by omega)) rfl rfl rfl rfl (fun E' a b c => hn E' a b ?_)
   rw [c, numRootLoop, h9]; rfl
def numRoot_e0 (a : Int) (up : Bool) : Int := (bif decide ((w64 ((numRootLoop (w64 (a * 65536)) 25 0) * (numRootLoop (w64 (a * 65536)) 25 0))) < (w64 (a * 65536))) then (w64 ((numRootLoop (w64 (a * 65536)) 25 0) + 1)) else (numRootLoop (w64 (a * 65536)) 25 0))
def numRoot (a : Int) (up : Bool) : Int × Bool := (bif decide (a < 0) then (0, false) else (bif numIn a then (bif up then ((numRoot_e0 a up), true) else (numRootLoop (w64 (a * 65536)) 25 0, true)) else (0, false)))
set_option maxRecDepth 100000 in
theorem c_numRoot (a : Int) (up : Bool) : Gets Tryz.prog 96 #[.int .i64 a, .bool up] ((fun (r : Int × Bool) => (.tuple #[.int .i64 r.1, .bool r.2] : Value)) (numRoot a up)) := by
 refine gets_fin Tryz.func96 rfl rfl rfl (aQ (aL (aA 4 (.int .i64 0) rfl rfl (aA 5 (.bool false) rfl rfl (aN (aQ (aQ (aL (aM 10 (.int .i64 a) rfl rfl (aB 11 (.bool (decide (a < 0))) rfl rfl rfl (bi_lss rfl) (aM 12 (.bool (decide (a < 0))) rfl rfl ?_)))))))))))
 refine bool_split (decide (a < 0)) (fun h1 => ?_) (fun h1 => ?_)
 ·refine aK 13 (by show ((decide (a < 0)) == false) = false; rw [h1]; rfl) rfl (aK 14 (by show ((decide (a < 0)) == false) = false; rw [h1]; rfl) rfl (aK 15 (by show ((decide (a < 0)) == false) = false; rw [h1]; rfl) rfl (ao 16 rfl rfl (st_pkt' (b := decide (a < 0)) (v := .bool true) h1 rfl rfl rfl (aN (ac_then rfl (aQ (aL (aA 4 (.int .i64 0) rfl rfl (aA 5 (.bool false) rfl rfl (aN (ac_ret (fin_eq (v := .tuple #[.int .i64 0, .bool false]) (by show _ = (fun (r : Int × Bool) => (.tuple #[.int .i64 r.1, .bool r.2] : Value)) (numRoot a up); rw [numRoot, h1] <;> rfl) (fin_ret (res_tt rfl rfl rfl)))))))))))))))
 ·refine ar_gd (d := (some 13)) (by show ((decide (a < 0)) == false) = true; rw [h1]; rfl) rfl (st_move (v := .int .i64 a) rfl rfl (ar_gd (d := (some 14)) (by show ((decide (a < 0)) == false) = true; rw [h1]; rfl) rfl (st_cf (c_numIn a) Tryz.func65 rfl (by decide) rfl rfl rfl (ar_gd (d := (some 15)) (by show ((decide (a < 0)) == false) = true; rw [h1]; rfl) rfl (st_un (v := .bool (!(numIn a))) rfl rfl (un_not rfl) (ao 16 rfl rfl (st_pkf' (b := decide (a < 0)) (v := .bool (!(numIn a))) h1 rfl rfl rfl (aN ?_))))))))
  refine bool_split (numIn a) (fun h2 => ?_) (fun h2 => ?_)
  ·refine ac_else' (b := !(numIn a)) (by rw [h2]; rfl) rfl (ac_skip (aQ (aL (aM 17 (.int .i64 a) rfl rfl (aB 18 (.int .i64 (w64 (a * 65536))) rfl rfl rfl (bi_mul rfl) (aA 6 (.int .i64 (w64 (a * 65536))) rfl rfl (aA 7 (.int .i64 0) rfl rfl (aN (aQ (aQ (aL (aA 8 (.int .i64 24) rfl rfl (aN (ac_block ?_))))))))))))))
   refine ac_rounds 26 ?_
   refine c_numRoot_loop (n := (w64 (a * 65536))) (up := up) rfl 25 0 _ _ (by decide) rfl rfl rfl rfl rfl (fun E1 q1 q6 q7 => ?_)
   obtain ⟨E0, rfl⟩ := env3 q1 q6 q7
   refine aQ (aQ (aL (aM 33 (.bool up) rfl rfl (aM 34 (.bool up) rfl rfl ?_))))
   refine bool_split (up) (fun h3 => ?_) (fun h3 => ?_)
   ·refine ar_gd (d := (some 35)) (by show (up == true) = true; rw [h3]; rfl) rfl (st_move (v := .int .i64 (numRootLoop (w64 (a * 65536)) 25 0)) rfl rfl (ar_gd (d := (some 36)) (by show (up == true) = true; rw [h3]; rfl) rfl (st_move (v := .int .i64 (numRootLoop (w64 (a * 65536)) 25 0)) rfl rfl (ar_gd (d := (some 37)) (by show (up == true) = true; rw [h3]; rfl) rfl (st_bi (r := .int .i64 (w64 ((numRootLoop (w64 (a * 65536)) 25 0) * (numRootLoop (w64 (a * 65536)) 25 0)))) rfl rfl rfl (bi_mul rfl) (ar_gd (d := (some 38)) (by show (up == true) = true; rw [h3]; rfl) rfl (st_move (v := .int .i64 (w64 (a * 65536))) rfl rfl ?_)))))))
    refine ar_gd (d := (some 39)) (by show (up == true) = true; rw [h3]; rfl) rfl (st_bi (r := .bool (decide ((w64 ((numRootLoop (w64 (a * 65536)) 25 0) * (numRootLoop (w64 (a * 65536)) 25 0))) < (w64 (a * 65536))))) rfl rfl rfl (bi_lss rfl) (ao 40 rfl rfl (st_pkt' (b := up) (v := .bool (decide ((w64 ((numRootLoop (w64 (a * 65536)) 25 0) * (numRootLoop (w64 (a * 65536)) 25 0))) < (w64 (a * 65536))))) h3 rfl rfl rfl (aN ?_))))
    refine ac_mergeE (fun E9 => (((Env.put E9 (some 41) (.int .i64 (numRootLoop (w64 (a * 65536)) 25 0))).put (some 42) (.int .i64 (w64 ((numRootLoop (w64 (a * 65536)) 25 0) + 1)))).put (some 7) (.int .i64 (w64 ((numRootLoop (w64 (a * 65536)) 25 0) + 1))))) (fun E9 => (((Env.put E9 (some 41) (bif decide ((w64 ((numRootLoop (w64 (a * 65536)) 25 0) * (numRootLoop (w64 (a * 65536)) 25 0))) < (w64 (a * 65536))) then (.int .i64 (numRootLoop (w64 (a * 65536)) 25 0) : Value) else E9 41)).put (some 42) (bif decide ((w64 ((numRootLoop (w64 (a * 65536)) 25 0) * (numRootLoop (w64 (a * 65536)) 25 0))) < (w64 (a * 65536))) then (.int .i64 (w64 ((numRootLoop (w64 (a * 65536)) 25 0) + 1)) : Value) else E9 42)).put (some 7) (.int .i64 (numRoot_e0 a up)))) (b := decide ((w64 ((numRootLoop (w64 (a * 65536)) 25 0) * (numRootLoop (w64 (a * 65536)) 25 0))) < (w64 (a * 65536)))) rfl (fun hm => ?_) (fun hm => ?_) (fun hm => ?_) ?_
    ·refine aL (aM 41 (.int .i64 (numRootLoop (w64 (a * 65536)) 25 0)) rfl rfl (aB 42 (.int .i64 (w64 ((numRootLoop (w64 (a * 65536)) 25 0) + 1))) rfl rfl rfl (bi_add rfl) (aA 7 (.int .i64 (w64 ((numRootLoop (w64 (a * 65536)) 25 0) + 1))) rfl rfl (aN ?_))))
     exact ⟨rfl, rfl, rfl⟩
    ·unfold numRoot_e0; rw [hm]; rfl
    ·unfold numRoot_e0; rw [hm]; exact ((put_self rfl).trans ((put_self rfl).trans (put_self rfl)))
    refine aQ (aL (aM 43 (.int .i64 (numRoot_e0 a up)) rfl rfl (aA 4 (.int .i64 (numRoot_e0 a up)) rfl rfl (aA 5 (.bool true) rfl rfl (aN (ac_ret (fin_eq (v := .tuple #[.int .i64 (numRoot_e0 a up), .bool true]) (by show _ = (fun (r : Int × Bool) => (.tuple #[.int .i64 r.1, .bool r.2] : Value)) (numRoot a up); rw [numRoot, h3, h2, h1] <;> rfl) (fin_ret (res_tt rfl rfl rfl)))))))))
   ·refine aK 35 (by show (up == true) = false; rw [h3]; rfl) rfl (aK 36 (by show (up == true) = false; rw [h3]; rfl) rfl (aK 37 (by show (up == true) = false; rw [h3]; rfl) rfl (aK 38 (by show (up == true) = false; rw [h3]; rfl) rfl (aK 39 (by show (up == true) = false; rw [h3]; rfl) rfl (ao 40 rfl rfl (st_pkf' (b := up) (v := .bool false) h3 rfl rfl rfl (aN (ac_else rfl (ac_skip (aQ (aL (aM 43 (.int .i64 (numRootLoop (w64 (a * 65536)) 25 0)) rfl rfl (aA 4 (.int .i64 (numRootLoop (w64 (a * 65536)) 25 0)) rfl rfl (aA 5 (.bool true) rfl rfl (aN (ac_ret ?_))))))))))))))))
    exact fin_eq (v := .tuple #[.int .i64 (numRootLoop (w64 (a * 65536)) 25 0), .bool true]) (by show _ = (fun (r : Int × Bool) => (.tuple #[.int .i64 r.1, .bool r.2] : Value)) (numRoot a up); rw [numRoot, h3, h2, h1] <;> rfl) (fin_ret (res_tt rfl rfl rfl))
  ·refine ac_then' (b := !(numIn a)) (by rw [h2]; rfl) rfl (aQ (aL (aA 4 (.int .i64 0) rfl rfl (aA 5 (.bool false) rfl rfl (aN (ac_ret (fin_eq (v := .tuple #[.int .i64 0, .bool false]) (by show _ = (fun (r : Int × Bool) => (.tuple #[.int .i64 r.1, .bool r.2] : Value)) (numRoot a up); rw [numRoot, h2, h1] <;> rfl) (fin_ret (res_tt rfl rfl rfl)))))))))
end Go.Proofs.YtalffjplbhelcaaGreatDoor
namespace Go.Proofs.YtalffjplbhelcaaGreatDoor
open Go.RowKit
attribute [local irreducible] AC AR DWalk
def ivPoint (n : Int) : Iv := (ivOf n n)
set_option maxRecDepth 100000 in
theorem c_ivPoint (n : Int) : Gets Tryz.prog 49 #[.int .i64 n] (Iv.v (ivPoint n)) := by
 refine gets_fin Tryz.func49 rfl rfl rfl (aQ (aL (ao 2 rfl rfl (st_new zero32 rfl fun g0 => (aN (aQ (aL (aM 3 (.int .i64 n) rfl rfl (aM 4 (.int .i64 n) rfl rfl (aC 5 (c_ivOf n n) Tryz.func72 ⟨rfl, by decide⟩ rfl rfl (aS [.int .i64 ((ivOf n n).lo), .int .i64 ((ivOf n n).hi), .bool ((ivOf n n).no)] agg32 0 rfl rfl rfl rfl rfl rfl (aN (ac_ret (fin_eq (v := (Iv.v (ivOf n n))) rfl (fin_ret (res_c (vs := [.int .i64 ((ivOf n n).lo), .int .i64 ((ivOf n n).hi), .bool ((ivOf n n).no)]) agg32 0 rfl rfl rfl rfl rfl rfl))))))))))))))))
def ivBoth (a : Iv) (b : Iv) : Bool := (bif ivRight a then ivRight b else false)
set_option maxRecDepth 100000 in
theorem c_ivBoth (a : Iv) (b : Iv) : Gets Tryz.prog 90 #[(Iv.v a), (Iv.v b)] ((fun (r : Bool) => (.bool r : Value)) (ivBoth a b)) := by
 refine gets_fin Tryz.func90 rfl rfl rfl (aQ (aL (ao 2 rfl rfl (st_box (v := (Iv.v a)) (cs := [.int .i64 a.lo, .int .i64 a.hi, .bool a.no]) rfl rfl rfl fun g0 => (ao 3 rfl rfl (st_box (v := (Iv.v b)) (cs := [.int .i64 b.lo, .int .i64 b.hi, .bool b.no]) rfl rfl rfl fun g1 => (aA 4 (.bool false) rfl rfl (aN (aQ (aL (aG 5 [.int .i64 a.lo, .int .i64 a.hi, .bool a.no] agg32 1 rfl rfl rfl rfl rfl (aC 6 (c_ivRight a) Tryz.func24 ⟨rfl, by decide⟩ rfl rfl (aM 7 (.bool (ivRight a)) rfl rfl ?_)))))))))))))
 refine bool_split (ivRight a) (fun h1 => ?_) (fun h1 => ?_)
 ·refine ar_gd (d := (some 8)) (by show ((ivRight a) == true) = true; rw [h1]; rfl) rfl (st_lda (vs := [.int .i64 b.lo, .int .i64 b.hi, .bool b.no]) agg32 0 rfl rfl rfl rfl rfl rfl (ar_gd (d := (some 9)) (by show ((ivRight a) == true) = true; rw [h1]; rfl) rfl (st_cf (c_ivRight b) Tryz.func24 rfl (by decide) rfl rfl rfl (ao 10 rfl rfl (st_pkt' (b := ivRight a) (v := .bool (ivRight b)) h1 rfl rfl rfl (aA 4 (.bool (ivRight b)) rfl rfl (aN (ac_ret (fin_eq (v := .bool (ivRight b)) (by show _ = (fun (r : Bool) => (.bool r : Value)) (ivBoth a b); rw [ivBoth, h1] <;> rfl) (fin_ret (res_tmp rfl rfl)))))))))))
 ·refine aK 8 (by show ((ivRight a) == true) = false; rw [h1]; rfl) rfl (aK 9 (by show ((ivRight a) == true) = false; rw [h1]; rfl) rfl (ao 10 rfl rfl (st_pkf' (b := ivRight a) (v := .bool false) h1 rfl rfl rfl (aA 4 (.bool false) rfl rfl (aN (ac_ret (fin_eq (v := .bool false) (by show _ = (fun (r : Bool) => (.bool r : Value)) (ivBoth a b); rw [ivBoth, h1] <;> rfl) (fin_ret (res_tmp rfl rfl)))))))))
def ivAdd (a : Iv) (b : Iv) : Iv := (bif ivBoth a b then (ivOf (w64 (a.lo + b.lo)) (w64 (a.hi + b.hi))) else ivNone)
set_option maxRecDepth 100000 in
theorem c_ivAdd (a : Iv) (b : Iv) : Gets Tryz.prog 50 #[(Iv.v a), (Iv.v b)] (Iv.v (ivAdd a b)) := by
 refine gets_fin Tryz.func50 rfl rfl rfl (aQ (aL (ao 2 rfl rfl (st_box (v := (Iv.v a)) (cs := [.int .i64 a.lo, .int .i64 a.hi, .bool a.no]) rfl rfl rfl fun g0 => (ao 3 rfl rfl (st_box (v := (Iv.v b)) (cs := [.int .i64 b.lo, .int .i64 b.hi, .bool b.no]) rfl rfl rfl fun g1 => (ao 4 rfl rfl (st_new zero32 rfl fun g2 => (aN (aQ (aQ (aL (aG 5 [.int .i64 a.lo, .int .i64 a.hi, .bool a.no] agg32 2 rfl rfl rfl rfl rfl (aG 6 [.int .i64 b.lo, .int .i64 b.hi, .bool b.no] agg32 1 rfl rfl rfl rfl rfl (aC 7 (c_ivBoth a b) Tryz.func90 ⟨rfl, by decide⟩ rfl rfl (ao 8 rfl rfl (st_un (v := .bool (!(ivBoth a b))) rfl rfl (un_not rfl) (aN ?_))))))))))))))))))
 refine bool_split (ivBoth a b) (fun h1 => ?_) (fun h1 => ?_)
 ·refine ac_else' (b := !(ivBoth a b)) (by rw [h1]; rfl) rfl (ac_skip (aQ (aL (aF 10 fa32_0 rfl rfl (aD 11 (.int .i64 a.lo) cell3 2 rfl rfl rfl rfl (aF 12 fa32_0 rfl rfl (aD 13 (.int .i64 b.lo) cell3 1 rfl rfl rfl rfl (aB 14 (.int .i64 (w64 (a.lo + b.lo))) rfl rfl rfl (bi_add rfl) (aF 15 fa32_1 rfl rfl (aD 16 (.int .i64 a.hi) cell3 2 rfl rfl rfl rfl (aF 17 fa32_1 rfl rfl (aD 18 (.int .i64 b.hi) cell3 1 rfl rfl rfl rfl (aB 19 (.int .i64 (w64 (a.hi + b.hi))) rfl rfl rfl (bi_add rfl) (aC 20 (c_ivOf (w64 (a.lo + b.lo)) (w64 (a.hi + b.hi))) Tryz.func72 ⟨rfl, by decide⟩ rfl rfl ?_))))))))))))))
  refine aS [.int .i64 ((ivOf (w64 (a.lo + b.lo)) (w64 (a.hi + b.hi))).lo), .int .i64 ((ivOf (w64 (a.lo + b.lo)) (w64 (a.hi + b.hi))).hi), .bool ((ivOf (w64 (a.lo + b.lo)) (w64 (a.hi + b.hi))).no)] agg32 0 rfl rfl rfl rfl rfl rfl (aN (ac_ret (fin_eq (v := (Iv.v (ivOf (w64 (a.lo + b.lo)) (w64 (a.hi + b.hi))))) (by show _ = Iv.v (ivAdd a b); rw [ivAdd, h1] <;> rfl) (fin_ret (res_c (vs := [.int .i64 ((ivOf (w64 (a.lo + b.lo)) (w64 (a.hi + b.hi))).lo), .int .i64 ((ivOf (w64 (a.lo + b.lo)) (w64 (a.hi + b.hi))).hi), .bool ((ivOf (w64 (a.lo + b.lo)) (w64 (a.hi + b.hi))).no)]) agg32 0 rfl rfl rfl rfl rfl rfl)))))
 ·refine ac_then' (b := !(ivBoth a b)) (by rw [h1]; rfl) rfl (aQ (aL (aC 9 c_ivNone Tryz.func25 ⟨rfl, by decide⟩ rfl rfl (aS [.int .i64 ivNone.lo, .int .i64 ivNone.hi, .bool ivNone.no] agg32 0 rfl rfl rfl rfl rfl rfl (aN (ac_ret (fin_eq (v := (Iv.v ivNone)) (by show _ = Iv.v (ivAdd a b); rw [ivAdd, h1] <;> rfl) (fin_ret (res_c (vs := [.int .i64 ivNone.lo, .int .i64 ivNone.hi, .bool ivNone.no]) agg32 0 rfl rfl rfl rfl rfl rfl)))))))))
def ivNeg (a : Iv) : Iv := (bif ivRight a then (ivOf (w64 (0 - a.hi)) (w64 (0 - a.lo))) else ivNone)
set_option maxRecDepth 100000 in
theorem c_ivNeg (a : Iv) : Gets Tryz.prog 95 #[(Iv.v a)] (Iv.v (ivNeg a)) := by
 refine gets_fin Tryz.func95 rfl rfl rfl (aQ (aL (ao 1 rfl rfl (st_box (v := (Iv.v a)) (cs := [.int .i64 a.lo, .int .i64 a.hi, .bool a.no]) rfl rfl rfl fun g0 => (ao 2 rfl rfl (st_new zero32 rfl fun g1 => (aN (aQ (aQ (aL (aG 3 [.int .i64 a.lo, .int .i64 a.hi, .bool a.no] agg32 1 rfl rfl rfl rfl rfl (aC 4 (c_ivRight a) Tryz.func24 ⟨rfl, by decide⟩ rfl rfl (ao 5 rfl rfl (st_un (v := .bool (!(ivRight a))) rfl rfl (un_not rfl) (aN ?_)))))))))))))))
 refine bool_split (ivRight a) (fun h1 => ?_) (fun h1 => ?_)
 ·refine ac_else' (b := !(ivRight a)) (by rw [h1]; rfl) rfl (ac_skip (aQ (aL (aF 7 fa32_1 rfl rfl (aD 8 (.int .i64 a.hi) cell3 1 rfl rfl rfl rfl (ao 9 rfl rfl (st_un (v := .int .i64 (w64 (0 - a.hi))) rfl rfl (un_neg rfl) (aF 10 fa32_0 rfl rfl (aD 11 (.int .i64 a.lo) cell3 1 rfl rfl rfl rfl (ao 12 rfl rfl (st_un (v := .int .i64 (w64 (0 - a.lo))) rfl rfl (un_neg rfl) (aC 13 (c_ivOf (w64 (0 - a.hi)) (w64 (0 - a.lo))) Tryz.func72 ⟨rfl, by decide⟩ rfl rfl (aS [.int .i64 ((ivOf (w64 (0 - a.hi)) (w64 (0 - a.lo))).lo), .int .i64 ((ivOf (w64 (0 - a.hi)) (w64 (0 - a.lo))).hi), .bool ((ivOf (w64 (0 - a.hi)) (w64 (0 - a.lo))).no)] agg32 0 rfl rfl rfl rfl rfl rfl (aN ?_))))))))))))))
  refine ac_ret (fin_eq (v := (Iv.v (ivOf (w64 (0 - a.hi)) (w64 (0 - a.lo))))) (by show _ = Iv.v (ivNeg a); rw [ivNeg, h1] <;> rfl) (fin_ret (res_c (vs := [.int .i64 ((ivOf (w64 (0 - a.hi)) (w64 (0 - a.lo))).lo), .int .i64 ((ivOf (w64 (0 - a.hi)) (w64 (0 - a.lo))).hi), .bool ((ivOf (w64 (0 - a.hi)) (w64 (0 - a.lo))).no)]) agg32 0 rfl rfl rfl rfl rfl rfl)))
 ·refine ac_then' (b := !(ivRight a)) (by rw [h1]; rfl) rfl (aQ (aL (aC 6 c_ivNone Tryz.func25 ⟨rfl, by decide⟩ rfl rfl (aS [.int .i64 ivNone.lo, .int .i64 ivNone.hi, .bool ivNone.no] agg32 0 rfl rfl rfl rfl rfl rfl (aN (ac_ret (fin_eq (v := (Iv.v ivNone)) (by show _ = Iv.v (ivNeg a); rw [ivNeg, h1] <;> rfl) (fin_ret (res_c (vs := [.int .i64 ivNone.lo, .int .i64 ivNone.hi, .bool ivNone.no]) agg32 0 rfl rfl rfl rfl rfl rfl)))))))))
def ivSub (a : Iv) (b : Iv) : Iv := (ivAdd a (ivNeg b))
set_option maxRecDepth 100000 in
theorem c_ivSub (a : Iv) (b : Iv) : Gets Tryz.prog 53 #[(Iv.v a), (Iv.v b)] (Iv.v (ivSub a b)) := by
 refine gets_fin Tryz.func53 rfl rfl rfl (aQ (aL (ao 2 rfl rfl (st_box (v := (Iv.v a)) (cs := [.int .i64 a.lo, .int .i64 a.hi, .bool a.no]) rfl rfl rfl fun g0 => (ao 3 rfl rfl (st_box (v := (Iv.v b)) (cs := [.int .i64 b.lo, .int .i64 b.hi, .bool b.no]) rfl rfl rfl fun g1 => (ao 4 rfl rfl (st_new zero32 rfl fun g2 => (aN (aQ ?_))))))))))
 refine ac_draw0 (id := 1) [0, 1, 2, 3] [4] _ (by kernel_rfl) follows rfl  (dw_op (d := some 5) _ rfl rfl rfl (st_lda (vs := [.int .i64 a.lo, .int .i64 a.hi, .bool a.no]) agg32 2 rfl rfl rfl rfl rfl rfl ⟨rfl, rfl⟩) (dw_op (d := some 6) _ rfl rfl rfl (st_lda (vs := [.int .i64 b.lo, .int .i64 b.hi, .bool b.no]) agg32 1 rfl rfl rfl rfl rfl rfl ⟨rfl, rfl⟩) (dw_op (d := some 7) _ rfl rfl rfl (st_cf (c_ivNeg b) Tryz.func95 rfl (by decide) rfl rfl rfl ⟨rfl, rfl⟩) (dw_op (d := some 8) _ rfl rfl rfl (st_cf (c_ivAdd a (ivNeg b)) Tryz.func50 rfl (by decide) rfl rfl rfl ⟨rfl, rfl⟩) (dw_nil ?_)))))
 refine aS [.int .i64 ((ivAdd a (ivNeg b)).lo), .int .i64 ((ivAdd a (ivNeg b)).hi), .bool ((ivAdd a (ivNeg b)).no)] agg32 0 rfl rfl rfl rfl rfl rfl (aN (ac_ret (fin_eq (v := (Iv.v (ivAdd a (ivNeg b)))) rfl (fin_ret (res_c (vs := [.int .i64 ((ivAdd a (ivNeg b)).lo), .int .i64 ((ivAdd a (ivNeg b)).hi), .bool ((ivAdd a (ivNeg b)).no)]) agg32 0 rfl rfl rfl rfl rfl rfl)))))
def ivSqr_e0 (a : Iv) : Int × Bool := (numMul (max (w64 (0 - a.lo)) a.hi) (max (w64 (0 - a.lo)) a.hi) true)
def ivSqr_e1 (a : Iv) : Int × Bool := (numMul (max (max a.lo (w64 (0 - a.hi))) 0) (max (max a.lo (w64 (0 - a.hi))) 0) false)
def ivSqr (a : Iv) : Iv := (bif ivRight a then (bif (ivSqr_e0 a).2 then (ivOf ((ivSqr_e1 a).1) ((ivSqr_e0 a).1)) else ivNone) else ivNone)
set_option maxRecDepth 100000 in
theorem c_ivSqr (a : Iv) : Gets Tryz.prog 43 #[(Iv.v a)] (Iv.v (ivSqr a)) := by
 refine gets_fin Tryz.func43 rfl rfl rfl (aQ (aL (ao 1 rfl rfl (st_box (v := (Iv.v a)) (cs := [.int .i64 a.lo, .int .i64 a.hi, .bool a.no]) rfl rfl rfl fun g0 => (ao 2 rfl rfl (st_new zero32 rfl fun g1 => (aN (aQ (aQ (aL (aG 9 [.int .i64 a.lo, .int .i64 a.hi, .bool a.no] agg32 1 rfl rfl rfl rfl rfl (aC 10 (c_ivRight a) Tryz.func24 ⟨rfl, by decide⟩ rfl rfl (ao 11 rfl rfl (st_un (v := .bool (!(ivRight a))) rfl rfl (un_not rfl) (aN ?_)))))))))))))))
 refine bool_split (ivRight a) (fun h1 => ?_) (fun h1 => ?_)
 ·refine ac_else' (b := !(ivRight a)) (by rw [h1]; rfl) rfl (ac_skip (aQ ?_))
  refine ac_draw0 (id := 3) [0, 1, 2, 3, 4, 5, 6, 7, 8, 9, 10, 11, 12, 13] [] _ (by kernel_rfl) follows rfl  (dw_op (d := some 13) _ rfl rfl rfl (st_fa rfl fa32_0 rfl ⟨rfl, rfl⟩) (dw_op (d := some 14) _ rfl rfl rfl (st_ldc (v := .int .i64 a.lo) cell3 1 rfl rfl rfl rfl rfl ⟨rfl, rfl⟩) (dw_op (d := some 15) _ rfl rfl rfl (st_un (v := .int .i64 (w64 (0 - a.lo))) rfl rfl (un_neg rfl) ⟨rfl, rfl⟩) (dw_op (d := some 16) _ rfl rfl rfl (st_fa rfl fa32_1 rfl ⟨rfl, rfl⟩) (dw_op (d := some 17) _ rfl rfl rfl (st_ldc (v := .int .i64 a.hi) cell3 1 rfl rfl rfl rfl rfl ⟨rfl, rfl⟩) ?_)))))
  refine dw_op (d := some 18) _ rfl rfl rfl (st_mx (x := (w64 (0 - a.lo))) (y := a.hi) (c := (max (w64 (0 - a.lo)) a.hi)) rfl rfl rfl ⟨rfl, rfl⟩) (dw_op (d := some 19) _ rfl rfl rfl (st_fa rfl fa32_0 rfl ⟨rfl, rfl⟩) (dw_op (d := some 20) _ rfl rfl rfl (st_ldc (v := .int .i64 a.lo) cell3 1 rfl rfl rfl rfl rfl ⟨rfl, rfl⟩) (dw_op (d := some 21) _ rfl rfl rfl (st_fa rfl fa32_1 rfl ⟨rfl, rfl⟩) (dw_op (d := some 22) _ rfl rfl rfl (st_ldc (v := .int .i64 a.hi) cell3 1 rfl rfl rfl rfl rfl ⟨rfl, rfl⟩) (dw_op (d := some 23) _ rfl rfl rfl (st_un (v := .int .i64 (w64 (0 - a.hi))) rfl rfl (un_neg rfl) ⟨rfl, rfl⟩) ?_)))))
  refine dw_op (d := some 24) _ rfl rfl rfl (st_mx3 (x := a.lo) (y := (w64 (0 - a.hi))) (z := 0) (c := (max (max a.lo (w64 (0 - a.hi))) 0)) rfl rfl rfl ⟨rfl, rfl⟩) (dw_op (d := some 3) _ rfl rfl rfl (st_assign (v := .int .i64 (max (w64 (0 - a.lo)) a.hi)) rfl rfl ⟨rfl, rfl⟩) (dw_op (d := some 4) _ rfl rfl rfl (st_assign (v := .int .i64 (max (max a.lo (w64 (0 - a.hi))) 0)) rfl rfl ⟨rfl, rfl⟩) (dw_nil (aN (aQ (aL (aM 26 (.int .i64 (max (w64 (0 - a.lo)) a.hi)) rfl rfl (aM 27 (.int .i64 (max (w64 (0 - a.lo)) a.hi)) rfl rfl (aC 28 (c_numMul (max (w64 (0 - a.lo)) a.hi) (max (w64 (0 - a.lo)) a.hi) true) Tryz.func88 ⟨rfl, by decide⟩ rfl rfl ?_)))))))))
  refine aM 25 (.tuple #[.int .i64 ((ivSqr_e0 a).1), .bool ((ivSqr_e0 a).2)]) rfl rfl (aX 29 (.int .i64 ((ivSqr_e0 a).1)) rfl rfl rfl (aX 30 (.bool ((ivSqr_e0 a).2)) rfl rfl rfl (aA 5 (.int .i64 ((ivSqr_e0 a).1)) rfl rfl (aA 6 (.bool ((ivSqr_e0 a).2)) rfl rfl (aN (aQ (aL (aM 32 (.int .i64 (max (max a.lo (w64 (0 - a.hi))) 0)) rfl rfl (aM 33 (.int .i64 (max (max a.lo (w64 (0 - a.hi))) 0)) rfl rfl (aC 34 (c_numMul (max (max a.lo (w64 (0 - a.hi))) 0) (max (max a.lo (w64 (0 - a.hi))) 0) false) Tryz.func88 ⟨rfl, by decide⟩ rfl rfl (aM 31 (.tuple #[.int .i64 ((ivSqr_e1 a).1), .bool ((ivSqr_e1 a).2)]) rfl rfl (aX 35 (.int .i64 ((ivSqr_e1 a).1)) rfl rfl rfl ?_))))))))))))
  refine aX 36 (.bool ((ivSqr_e1 a).2)) rfl rfl rfl (aA 7 (.int .i64 ((ivSqr_e1 a).1)) rfl rfl (aA 8 (.bool ((ivSqr_e1 a).2)) rfl rfl (aN (aQ (aQ (aL (aM 37 (.bool ((ivSqr_e0 a).2)) rfl rfl (ao 38 rfl rfl (st_un (v := .bool (!((ivSqr_e0 a).2))) rfl rfl (un_not rfl) (aN ?_))))))))))
  refine bool_split ((ivSqr_e0 a).2) (fun h2 => ?_) (fun h2 => ?_)
  ·refine ac_else' (b := !((ivSqr_e0 a).2)) (by rw [h2]; rfl) rfl (ac_skip (aQ (aL (aM 40 (.int .i64 ((ivSqr_e1 a).1)) rfl rfl (aM 41 (.int .i64 ((ivSqr_e0 a).1)) rfl rfl (aC 42 (c_ivOf ((ivSqr_e1 a).1) ((ivSqr_e0 a).1)) Tryz.func72 ⟨rfl, by decide⟩ rfl rfl (aS [.int .i64 ((ivOf ((ivSqr_e1 a).1) ((ivSqr_e0 a).1)).lo), .int .i64 ((ivOf ((ivSqr_e1 a).1) ((ivSqr_e0 a).1)).hi), .bool ((ivOf ((ivSqr_e1 a).1) ((ivSqr_e0 a).1)).no)] agg32 0 rfl rfl rfl rfl rfl rfl (aN (ac_ret ?_)))))))))
   exact fin_eq (v := (Iv.v (ivOf ((ivSqr_e1 a).1) ((ivSqr_e0 a).1)))) (by show _ = Iv.v (ivSqr a); rw [ivSqr, h2, h1] <;> rfl) (fin_ret (res_c (vs := [.int .i64 ((ivOf ((ivSqr_e1 a).1) ((ivSqr_e0 a).1)).lo), .int .i64 ((ivOf ((ivSqr_e1 a).1) ((ivSqr_e0 a).1)).hi), .bool ((ivOf ((ivSqr_e1 a).1) ((ivSqr_e0 a).1)).no)]) agg32 0 rfl rfl rfl rfl rfl rfl))
  ·refine ac_then' (b := !((ivSqr_e0 a).2)) (by rw [h2]; rfl) rfl (aQ (aL (aC 39 c_ivNone Tryz.func25 ⟨rfl, by decide⟩ rfl rfl (aS [.int .i64 ivNone.lo, .int .i64 ivNone.hi, .bool ivNone.no] agg32 0 rfl rfl rfl rfl rfl rfl (aN (ac_ret (fin_eq (v := (Iv.v ivNone)) (by show _ = Iv.v (ivSqr a); rw [ivSqr, h2, h1] <;> rfl) (fin_ret (res_c (vs := [.int .i64 ivNone.lo, .int .i64 ivNone.hi, .bool ivNone.no]) agg32 0 rfl rfl rfl rfl rfl rfl)))))))))
 ·refine ac_then' (b := !(ivRight a)) (by rw [h1]; rfl) rfl (aQ (aL (aC 12 c_ivNone Tryz.func25 ⟨rfl, by decide⟩ rfl rfl (aS [.int .i64 ivNone.lo, .int .i64 ivNone.hi, .bool ivNone.no] agg32 0 rfl rfl rfl rfl rfl rfl (aN (ac_ret (fin_eq (v := (Iv.v ivNone)) (by show _ = Iv.v (ivSqr a); rw [ivSqr, h1] <;> rfl) (fin_ret (res_c (vs := [.int .i64 ivNone.lo, .int .i64 ivNone.hi, .bool ivNone.no]) agg32 0 rfl rfl rfl rfl rfl rfl)))))))))
def ivHas (a : Iv) (n : Int) : Bool := (bif ivRight a then (bif decide (a.lo ≤ n) then decide (n ≤ a.hi) else false) else false)
set_option maxRecDepth 100000 in
theorem c_ivHas (a : Iv) (n : Int) : Gets Tryz.prog 92 #[(Iv.v a), .int .i64 n] ((fun (r : Bool) => (.bool r : Value)) (ivHas a n)) := by
 refine gets_fin Tryz.func92 rfl rfl rfl (aQ (aL (ao 2 rfl rfl (st_box (v := (Iv.v a)) (cs := [.int .i64 a.lo, .int .i64 a.hi, .bool a.no]) rfl rfl rfl fun g0 => (aA 4 (.bool false) rfl rfl (aN (aQ (aL (aG 5 [.int .i64 a.lo, .int .i64 a.hi, .bool a.no] agg32 0 rfl rfl rfl rfl rfl (aC 6 (c_ivRight a) Tryz.func24 ⟨rfl, by decide⟩ rfl rfl (aM 7 (.bool (ivRight a)) rfl rfl ?_)))))))))))
 refine bool_split (ivRight a) (fun h1 => ?_) (fun h1 => ?_)
 ·refine ar_gd (d := (some 8)) (by show ((ivRight a) == true) = true; rw [h1]; rfl) rfl (st_fa rfl fa32_0 rfl (ar_gd (d := (some 9)) (by show ((ivRight a) == true) = true; rw [h1]; rfl) rfl (st_ldc (v := .int .i64 a.lo) cell3 0 rfl rfl rfl rfl rfl (ar_gd (d := (some 10)) (by show ((ivRight a) == true) = true; rw [h1]; rfl) rfl (st_move (v := .int .i64 n) rfl rfl (ar_gd (d := (some 11)) (by show ((ivRight a) == true) = true; rw [h1]; rfl) rfl (st_bi (r := .bool (decide (a.lo ≤ n))) rfl rfl rfl (bi_leq rfl) (ao 12 rfl rfl (st_pkt' (b := ivRight a) (v := .bool (decide (a.lo ≤ n))) h1 rfl rfl rfl (aM 13 (.bool (decide (a.lo ≤ n))) rfl rfl ?_))))))))))
  refine bool_split (decide (a.lo ≤ n)) (fun h2 => ?_) (fun h2 => ?_)
  ·refine ar_gd (d := (some 14)) (by show ((decide (a.lo ≤ n)) == true) = true; rw [h2]; rfl) rfl (st_move (v := .int .i64 n) rfl rfl (ar_gd (d := (some 15)) (by show ((decide (a.lo ≤ n)) == true) = true; rw [h2]; rfl) rfl (st_fa rfl fa32_1 rfl (ar_gd (d := (some 16)) (by show ((decide (a.lo ≤ n)) == true) = true; rw [h2]; rfl) rfl (st_ldc (v := .int .i64 a.hi) cell3 0 rfl rfl rfl rfl rfl (ar_gd (d := (some 17)) (by show ((decide (a.lo ≤ n)) == true) = true; rw [h2]; rfl) rfl (st_bi (r := .bool (decide (n ≤ a.hi))) rfl rfl rfl (bi_leq rfl) (ao 18 rfl rfl (st_pkt' (b := decide (a.lo ≤ n)) (v := .bool (decide (n ≤ a.hi))) h2 rfl rfl rfl ?_)))))))))
   refine aA 4 (.bool (decide (n ≤ a.hi))) rfl rfl (aN (ac_ret (fin_eq (v := .bool (decide (n ≤ a.hi))) (by show _ = (fun (r : Bool) => (.bool r : Value)) (ivHas a n); rw [ivHas, h2, h1] <;> rfl) (fin_ret (res_tmp rfl rfl)))))
  ·refine aK 14 (by show ((decide (a.lo ≤ n)) == true) = false; rw [h2]; rfl) rfl (aK 15 (by show ((decide (a.lo ≤ n)) == true) = false; rw [h2]; rfl) rfl (aK 16 (by show ((decide (a.lo ≤ n)) == true) = false; rw [h2]; rfl) rfl (aK 17 (by show ((decide (a.lo ≤ n)) == true) = false; rw [h2]; rfl) rfl (ao 18 rfl rfl (st_pkf' (b := decide (a.lo ≤ n)) (v := .bool false) h2 rfl rfl rfl (aA 4 (.bool false) rfl rfl (aN (ac_ret (fin_eq (v := .bool false) (by show _ = (fun (r : Bool) => (.bool r : Value)) (ivHas a n); rw [ivHas, h2, h1] <;> rfl) (fin_ret (res_tmp rfl rfl)))))))))))
 ·refine aK 8 (by show ((ivRight a) == true) = false; rw [h1]; rfl) rfl (aK 9 (by show ((ivRight a) == true) = false; rw [h1]; rfl) rfl (aK 10 (by show ((ivRight a) == true) = false; rw [h1]; rfl) rfl (aK 11 (by show ((ivRight a) == true) = false; rw [h1]; rfl) rfl (ao 12 rfl rfl (st_pkf' (b := ivRight a) (v := .bool false) h1 rfl rfl rfl (aM 13 (.bool false) rfl rfl (aK 14 rfl rfl (aK 15 rfl rfl (aK 16 rfl rfl (aK 17 rfl rfl (ao 18 rfl rfl (st_pkf (v := .bool false) rfl rfl rfl (aA 4 (.bool false) rfl rfl (aN (ac_ret (fin_eq (v := .bool false) (by show _ = (fun (r : Bool) => (.bool r : Value)) (ivHas a n); rw [ivHas, h1] <;> rfl) (fin_ret (res_tmp rfl rfl))))))))))))))))))
end Go.Proofs.YtalffjplbhelcaaGreatDoor
