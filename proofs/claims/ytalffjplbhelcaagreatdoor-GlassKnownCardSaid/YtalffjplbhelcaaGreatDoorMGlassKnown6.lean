import Derived.Test.YtalffjplbhelcaaGreatDoorMGlassKnown5
import Derived.Test.YtalffjplbhelcaaGreatDoorMGlassKnown1
set_option linter.unusedVariables false
set_option linter.unusedSimpArgs false
namespace Go.Proofs.YtalffjplbhelcaaGreatDoor
open Go.RowKit
attribute [local irreducible] AC AR DWalk
def gName (m : Nat) (x : Nat → Glass) (tk : Tok) : Int := (bif tk.kind != 1 then 2 else (bif (gFind x tk.text m 0).2 then 5 else (bif sEq tk.text (⟨#[97, 105, 114]⟩ : ByteArray) then 5 else (bif (m : Int) == 30 then 3 else 0))))
set_option maxRecDepth 100000 in
set_option maxHeartbeats 1000000 in
theorem c_gName (m c : Nat) (a : Option Addr) (x : Nat → Glass) (tk : Tok) (NA : List Box) (hm4 : m ≤ 4001) (hl : GlI a m x NA) (hro : (NA.all fun b => b.ro) = true) : Gives Tryz.prog 107 #[.slice a m c, .agg #[.int .i64 tk.kind, .string tk.text, .complex .f64 (tk.at_).re (tk.at_).im]] NA (fun v N => v = (fun (r : Int) => (.int .i64 r : Value)) (gName m x tk) ∧ N = []) := by
 refine gives_fin Tryz.func107 rfl rfl rfl hro (aQ (aL (ao 3 rfl rfl (st_box (v := .agg #[.int .i64 tk.kind, .string tk.text, .complex .f64 (tk.at_).re (tk.at_).im]) (cs := [.int .i64 tk.kind, .string tk.text, .complex .f64 (tk.at_).re (tk.at_).im]) rfl rfl rfl fun g0 => (aA 4 (.int .i64 0) rfl rfl (aN (aQ (aL (aM 8 (.slice a m c) rfl rfl (aF 9 fa108_1 rfl rfl (aD 10 (.string tk.text) cell9 0 rfl rfl rfl rfl ?_)))))))))))
 refine ao 11 rfl rfl (st_ownT fun hnd => st_gr (vs := [.slice a m c, .string tk.text]) (R := NA) (r := .tuple #[.agg #[.string (((gFind x tk.text m 0).1).name), .int .i64 (((((gFind x tk.text m 0).1).b).d0).c), .int .i64 (((((gFind x tk.text m 0).1).b).d0).scale), .int .i64 (((((gFind x tk.text m 0).1).b).d1).c), .int .i64 (((((gFind x tk.text m 0).1).b).d1).scale), .int .i64 (((((gFind x tk.text m 0).1).b).d2).c), .int .i64 (((((gFind x tk.text m 0).1).b).d2).scale), .int .i64 (((((gFind x tk.text m 0).1).c).d0).c), .int .i64 (((((gFind x tk.text m 0).1).c).d0).scale), .int .i64 (((((gFind x tk.text m 0).1).c).d1).c), .int .i64 (((((gFind x tk.text m 0).1).c).d1).scale), .int .i64 (((((gFind x tk.text m 0).1).c).d2).c), .int .i64 (((((gFind x tk.text m 0).1).c).d2).scale)], .bool ((gFind x tk.text m 0).2)]) (c_gFind m c a tk.text x NA hm4 hl hro) Tryz.func23 rfl (by decide) rfl rfl rfl (has_tl (has_self NA)) (nd_tl hnd) ?_)
 refine aM 7 (.tuple #[.agg #[.string (((gFind x tk.text m 0).1).name), .int .i64 (((((gFind x tk.text m 0).1).b).d0).c), .int .i64 (((((gFind x tk.text m 0).1).b).d0).scale), .int .i64 (((((gFind x tk.text m 0).1).b).d1).c), .int .i64 (((((gFind x tk.text m 0).1).b).d1).scale), .int .i64 (((((gFind x tk.text m 0).1).b).d2).c), .int .i64 (((((gFind x tk.text m 0).1).b).d2).scale), .int .i64 (((((gFind x tk.text m 0).1).c).d0).c), .int .i64 (((((gFind x tk.text m 0).1).c).d0).scale), .int .i64 (((((gFind x tk.text m 0).1).c).d1).c), .int .i64 (((((gFind x tk.text m 0).1).c).d1).scale), .int .i64 (((((gFind x tk.text m 0).1).c).d2).c), .int .i64 (((((gFind x tk.text m 0).1).c).d2).scale)], .bool ((gFind x tk.text m 0).2)]) rfl rfl ?_
 refine aX 12 (.agg #[.string (((gFind x tk.text m 0).1).name), .int .i64 (((((gFind x tk.text m 0).1).b).d0).c), .int .i64 (((((gFind x tk.text m 0).1).b).d0).scale), .int .i64 (((((gFind x tk.text m 0).1).b).d1).c), .int .i64 (((((gFind x tk.text m 0).1).b).d1).scale), .int .i64 (((((gFind x tk.text m 0).1).b).d2).c), .int .i64 (((((gFind x tk.text m 0).1).b).d2).scale), .int .i64 (((((gFind x tk.text m 0).1).c).d0).c), .int .i64 (((((gFind x tk.text m 0).1).c).d0).scale), .int .i64 (((((gFind x tk.text m 0).1).c).d1).c), .int .i64 (((((gFind x tk.text m 0).1).c).d1).scale), .int .i64 (((((gFind x tk.text m 0).1).c).d2).c), .int .i64 (((((gFind x tk.text m 0).1).c).d2).scale)]) rfl rfl rfl ?_
 refine aX 13 (.bool ((gFind x tk.text m 0).2)) rfl rfl rfl (ao 5 rfl rfl (st_new zero29 rfl fun g1 => ?_))
 refine aS [.string (((gFind x tk.text m 0).1).name), .int .i64 (((((gFind x tk.text m 0).1).b).d0).c), .int .i64 (((((gFind x tk.text m 0).1).b).d0).scale), .int .i64 (((((gFind x tk.text m 0).1).b).d1).c), .int .i64 (((((gFind x tk.text m 0).1).b).d1).scale), .int .i64 (((((gFind x tk.text m 0).1).b).d2).c), .int .i64 (((((gFind x tk.text m 0).1).b).d2).scale), .int .i64 (((((gFind x tk.text m 0).1).c).d0).c), .int .i64 (((((gFind x tk.text m 0).1).c).d0).scale), .int .i64 (((((gFind x tk.text m 0).1).c).d1).c), .int .i64 (((((gFind x tk.text m 0).1).c).d1).scale), .int .i64 (((((gFind x tk.text m 0).1).c).d2).c), .int .i64 (((((gFind x tk.text m 0).1).c).d2).scale)] agg29 0 rfl rfl rfl rfl rfl rfl ?_
 refine aA 6 (.bool ((gFind x tk.text m 0).2)) rfl rfl (aN (aQ (ac_block (aQ (aL (aF 15 fa108_0 rfl rfl (aD 16 (.int .i64 tk.kind) cell3 1 rfl rfl rfl rfl (aB 17 (.bool (tk.kind != 1)) rfl rfl rfl (bi_neq rfl) (aA 14 (.bool (tk.kind != 1)) rfl rfl (aN ?_))))))))))
 refine bool_split (tk.kind != 1) (fun h1 => ?_) (fun h1 => ?_)
 ·refine ac_then' (b := tk.kind != 1) h1 rfl (aQ (aL (aA 4 (.int .i64 2) rfl rfl (aN (ac_ret ?_)))))
  exact fing_ret (N := []) ⟨(show (.int .i64 2 : Value) = (fun (r : Int) => (.int .i64 r : Value)) (gName m x tk) from by rw [gName, h1] <;> rfl), rfl⟩ (List.nil_sublist _) rfl (res_tmp rfl rfl)
 ·refine ac_else' (b := tk.kind != 1) h1 rfl (aQ (aL (aM 19 (.bool ((gFind x tk.text m 0).2)) rfl rfl (aM 20 (.bool ((gFind x tk.text m 0).2)) rfl rfl ?_))))
  refine bool_split ((gFind x tk.text m 0).2) (fun h2 => ?_) (fun h2 => ?_)
  ·refine aK 21 (by show (((gFind x tk.text m 0).2) == false) = false; rw [h2]; rfl) rfl (aK 22 (by show (((gFind x tk.text m 0).2) == false) = false; rw [h2]; rfl) rfl (aK 23 (by show (((gFind x tk.text m 0).2) == false) = false; rw [h2]; rfl) rfl (ao 24 rfl rfl (st_pkt' (b := (gFind x tk.text m 0).2) (v := .bool true) h2 rfl rfl rfl (aA 18 (.bool true) rfl rfl (aN (ac_then rfl (aQ (aL (aA 4 (.int .i64 5) rfl rfl (aN (ac_ret ?_))))))))))))
   exact fing_ret (N := []) ⟨(show (.int .i64 5 : Value) = (fun (r : Int) => (.int .i64 r : Value)) (gName m x tk) from by rw [gName, h2, h1] <;> rfl), rfl⟩ (List.nil_sublist _) rfl (res_tmp rfl rfl)
  ·refine ar_gd (d := (some 21)) (by show (((gFind x tk.text m 0).2) == false) = true; rw [h2]; rfl) rfl (st_fa rfl fa108_1 rfl (ar_gd (d := (some 22)) (by show (((gFind x tk.text m 0).2) == false) = true; rw [h2]; rfl) rfl (st_ldc (v := .string tk.text) cell9 1 rfl rfl rfl rfl rfl (ar_gd (d := (some 23)) (by show (((gFind x tk.text m 0).2) == false) = true; rw [h2]; rfl) rfl (st_bi (r := .bool (sEq tk.text (⟨#[97, 105, 114]⟩ : ByteArray))) rfl rfl rfl (bi_seql rfl) (ao 24 rfl rfl (st_pkf' (b := (gFind x tk.text m 0).2) (v := .bool (sEq tk.text (⟨#[97, 105, 114]⟩ : ByteArray))) h2 rfl rfl rfl (aA 18 (.bool (sEq tk.text (⟨#[97, 105, 114]⟩ : ByteArray))) rfl rfl (aN ?_)))))))))
   refine bool_split (sEq tk.text (⟨#[97, 105, 114]⟩ : ByteArray)) (fun h3 => ?_) (fun h3 => ?_)
   ·refine ac_then' (b := sEq tk.text (⟨#[97, 105, 114]⟩ : ByteArray)) h3 rfl (aQ (aL (aA 4 (.int .i64 5) rfl rfl (aN (ac_ret ?_)))))
    exact fing_ret (N := []) ⟨(show (.int .i64 5 : Value) = (fun (r : Int) => (.int .i64 r : Value)) (gName m x tk) from by rw [gName, h3, h2, h1] <;> rfl), rfl⟩ (List.nil_sublist _) rfl (res_tmp rfl rfl)
   ·refine ac_else' (b := sEq tk.text (⟨#[97, 105, 114]⟩ : ByteArray)) h3 rfl (aQ (aL (aM 26 (.slice a m c) rfl rfl (ao 27 rfl rfl (st_ln (a := a) (m := m) (c := c) rfl Tryz.underlying23 rfl (aB 28 (.bool ((m : Int) == 30)) rfl rfl rfl (bi_eql rfl) (aA 25 (.bool ((m : Int) == 30)) rfl rfl (aN ?_))))))))
    refine bool_split ((m : Int) == 30) (fun h4 => ?_) (fun h4 => ?_)
    ·refine ac_then' (b := (m : Int) == 30) h4 rfl (aQ (aL (aA 4 (.int .i64 3) rfl rfl (aN (ac_ret ?_)))))
     exact fing_ret (N := []) ⟨(show (.int .i64 3 : Value) = (fun (r : Int) => (.int .i64 r : Value)) (gName m x tk) from by rw [gName, h4, h3, h2, h1] <;> rfl), rfl⟩ (List.nil_sublist _) rfl (res_tmp rfl rfl)
    ·refine ac_else' (b := (m : Int) == 30) h4 rfl (ac_skip (aQ (aL (aA 4 (.int .i64 0) rfl rfl (aN (ac_ret ?_))))))
     exact fing_ret (N := []) ⟨(show (.int .i64 0 : Value) = (fun (r : Int) => (.int .i64 r : Value)) (gName m x tk) from by rw [gName, h4, h3, h2, h1] <;> rfl), rfl⟩ (List.nil_sublist _) rfl (res_tmp rfl rfl)
end Go.Proofs.YtalffjplbhelcaaGreatDoor
namespace Go.Proofs.YtalffjplbhelcaaGreatDoor
open Go.RowKit
def TkI (a : Option Addr) (m : Nat) (x : Nat → Tok) (H : List Box) : Prop :=
  ∀ i, i < m → ∃ (g off : Nat) (cs : List Value) (t : TypeId) (r : Bool), a = some ⟨g, off, none⟩ ∧ (⟨g, cs, t, r⟩ : Box) ∈ H ∧ (cs.drop (off + i * 3)).take 3 = (x i).cells
theorem tk_open {a : Option Addr} {m : Nat} {x : Nat → Tok} {H : List Box} (h : TkI a m x H) (hm : 0 < m) : ∃ g off : Nat, a = some ⟨g, off, none⟩ := by
  obtain ⟨g, off, _, _, _, e, _⟩ := h 0 hm
  exact ⟨g, off, e⟩
theorem take_at {cs l : List Value} {o n j : Nat} {v : Value} (h : (cs.drop o).take n = l) (hj : l[j]? = some v) (hn : j < n) : cs[o + j]? = some v := by
  rw [← h, List.getElem?_take, if_pos hn, List.getElem?_drop] at hj
  exact hj
theorem tk_at {g off m : Nat} {x : Nat → Tok} {H : List Box} (h : TkI (some ⟨g, off, none⟩) m x H) (i : Nat) (hi : i < m) : ∃ (cs : List Value) (t : TypeId) (r : Bool), (⟨g, cs, t, r⟩ : Box) ∈ H ∧ (cs.drop (off + i * 3)).take 3 = (x i).cells ∧
    cs[off + i * 3 + 0]? = some (.int .i64 (x i).kind) ∧ cs[off + i * 3 + 1]? = some (.string (x i).text) ∧ cs[off + i * 3 + 2]? = some (.complex .f64 (x i).at_.re (x i).at_.im) := by
  obtain ⟨g', off', cs, t, r, e, hm, hc⟩ := h i hi
  simp only [Option.some.injEq, Addr.mk.injEq, and_true] at e
  obtain ⟨rfl, rfl⟩ := e
  exact ⟨cs, t, r, hm, hc, take_at (j := 0) hc rfl (by decide), take_at (j := 1) hc rfl (by decide), take_at (j := 2) hc rfl (by decide)⟩
def slE (g off h s c : Nat) : Option Addr := if c = h then some ⟨g, off, none⟩ else some ⟨g, off + h * s, none⟩
theorem tk_rest {g off m c h : Nat} {x : Nat → Tok} {H : List Box} (hx : TkI (some ⟨g, off, none⟩) m x H) (hm : h ≤ m) (hc : m ≤ c) : TkI (slE g off h 3 c) (m - h) (fun i => x (i + h)) H := by
  intro i hi
  obtain ⟨cs, t, r, h1, h2, _⟩ := tk_at hx (i + h) (by omega)
  refine ⟨g, off + h * 3, cs, t, r, ?_, h1, ?_⟩
  · unfold slE
    rw [if_neg (by omega)]
  · rw [← h2, show off + h * 3 + i * 3 = off + (i + h) * 3 by omega]
theorem res_cttt {p : Program} {n : Nat} {E : Env} {H : List Box} {fn : Func} {t ty u1 u2 u3 : Nat} {b : Box} {g : Nat} {vs : List Value} {m : Nat} {y1 y2 y3 : Value} (ha : IsAgg p ty m) (i : Nat) (h : fn.results = #[.cell t ty, .tmp u1, .tmp u2, .tmp u3]) (hv : ev n E (.tmp t) = .pointer (some ⟨g, 0, none⟩)) (hm : H[i]? = some b) (hg : b.g = g) (hn : b.cs.length = m) (hb : b.cs = vs)
    (h1 : ev n E (.tmp u1) = y1) (h2 : ev n E (.tmp u2) = y2) (h3 : ev n E (.tmp u3) = y3) : Res p fn n E H (.tuple #[.agg vs.toArray, y1, y2, y3]) := by
  intro β w a hO hs
  subst hb hg
  simp [results, h, see_ptr hs hv, see_tmp hs h1, see_tmp hs h2, see_tmp hs h3, asAddr, own_load hO ha i hm hn, Sem.run_bind]
section
variable {p : Program} {n : Nat} {o : Oper} {H : List Box} {ρ : Operand → Value} {K : Post}
theorem st_slE {t e : Nat} {x y : Operand} {g off m c s h : Nat} (ho : o.op = .slice t x (some y) none none) (hu : p.underlying t = some (.slice e)) (hs : (p.info? e).map (·.size) = some s) (hx : ρ x = .slice (some ⟨g, off, none⟩) m c) (hy : ρ y = .int .i64 h) (hh : h ≤ m)
    (k : K (.slice (slE g off h s c) (m - h) (c - h)) H) : Step p ρ o H K := by
  refine st_run (s := Instr.sliceAt t (.slice (some ⟨g, off, none⟩) m c) (some (.int .i64 h)) none none) (by rw [execOp, ho]; simp only [hx, hy, Option.map_none, Option.map_some]) ⟨fun w => ?_⟩ k
  have h0 : (0 : Int) ≤ h := by omega
  have hh' : (h : Int) ≤ m := by omega
  cases hq : p.info? e with
  | none => simp [hq] at hs
  | some inf =>
    have hs' : inf.size = s := by simpa [hq] using hs
    unfold slE
    by_cases hch : c = h
    · subst hch
      simp [Instr.sliceAt, Instr.slice, Instr.sliceBounds, Sem.run_bind, run_underlying hu w, run_sliceBound, h0, hh', hh, sizeOf, typeInfo, hq, hs', Addr.add]
    · simp [Instr.sliceAt, Instr.slice, Instr.sliceBounds, Sem.run_bind, run_underlying hu w, run_sliceBound, h0, hh', hh, hch, sizeOf, typeInfo, hq, hs', Addr.add]
end
end Go.Proofs.YtalffjplbhelcaaGreatDoor
namespace Go.Proofs.YtalffjplbhelcaaGreatDoor
open Go.RowKit
theorem bd127_0_1 (x0_0 : Int) (x1_0 : Int) : Runs Tryz.prog (Instr.build 127 #[(0, .int .i64 x0_0), (1, .int .i64 x1_0)]) (.agg #[.int .i64 x0_0, .int .i64 x1_0]) := ⟨fun w => by go_simp⟩
theorem bd27_0a_1a_2a (x0_0 : Int) (x0_1 : Int) (x1_0 : Int) (x1_1 : Int) (x2_0 : Int) (x2_1 : Int) : Runs Tryz.prog (Instr.build 27 #[(0, .agg #[.int .i64 x0_0, .int .i64 x0_1]), (1, .agg #[.int .i64 x1_0, .int .i64 x1_1]), (2, .agg #[.int .i64 x2_0, .int .i64 x2_1])]) (.agg #[.int .i64 x0_0, .int .i64 x0_1, .int .i64 x1_0, .int .i64 x1_1, .int .i64 x2_0, .int .i64 x2_1]) := ⟨fun w => by go_simp⟩
theorem bd29_0_1a_2a (x0_0 : ByteArray) (x1_0 : Int) (x1_1 : Int) (x1_2 : Int) (x1_3 : Int) (x1_4 : Int) (x1_5 : Int) (x2_0 : Int) (x2_1 : Int) (x2_2 : Int) (x2_3 : Int) (x2_4 : Int) (x2_5 : Int) : Runs Tryz.prog (Instr.build 29 #[(0, .string x0_0), (1, .agg #[.int .i64 x1_0, .int .i64 x1_1, .int .i64 x1_2, .int .i64 x1_3, .int .i64 x1_4, .int .i64 x1_5]), (2, .agg #[.int .i64 x2_0, .int .i64 x2_1, .int .i64 x2_2, .int .i64 x2_3, .int .i64 x2_4, .int .i64 x2_5])]) (.agg #[.string x0_0, .int .i64 x1_0, .int .i64 x1_1, .int .i64 x1_2, .int .i64 x1_3, .int .i64 x1_4, .int .i64 x1_5, .int .i64 x2_0, .int .i64 x2_1, .int .i64 x2_2, .int .i64 x2_3, .int .i64 x2_4, .int .i64 x2_5]) := ⟨fun w => by go_simp⟩
theorem bs23_2_0a_1a (x0_0 : ByteArray) (x0_1 : Int) (x0_2 : Int) (x0_3 : Int) (x0_4 : Int) (x0_5 : Int) (x0_6 : Int) (x0_7 : Int) (x0_8 : Int) (x0_9 : Int) (x0_10 : Int) (x0_11 : Int) (x0_12 : Int) (x1_0 : ByteArray) (x1_1 : Int) (x1_2 : Int) (x1_3 : Int) (x1_4 : Int) (x1_5 : Int) (x1_6 : Int) (x1_7 : Int) (x1_8 : Int) (x1_9 : Int) (x1_10 : Int) (x1_11 : Int) (x1_12 : Int) : Makes Tryz.prog (Instr.buildSlice 23 2 #[(0, .agg #[.string x0_0, .int .i64 x0_1, .int .i64 x0_2, .int .i64 x0_3, .int .i64 x0_4, .int .i64 x0_5, .int .i64 x0_6, .int .i64 x0_7, .int .i64 x0_8, .int .i64 x0_9, .int .i64 x0_10, .int .i64 x0_11, .int .i64 x0_12]), (1, .agg #[.string x1_0, .int .i64 x1_1, .int .i64 x1_2, .int .i64 x1_3, .int .i64 x1_4, .int .i64 x1_5, .int .i64 x1_6, .int .i64 x1_7, .int .i64 x1_8, .int .i64 x1_9, .int .i64 x1_10, .int .i64 x1_11, .int .i64 x1_12])]) 2 [.string x0_0, .int .i64 x0_1, .int .i64 x0_2, .int .i64 x0_3, .int .i64 x0_4, .int .i64 x0_5, .int .i64 x0_6, .int .i64 x0_7, .int .i64 x0_8, .int .i64 x0_9, .int .i64 x0_10, .int .i64 x0_11, .int .i64 x0_12, .string x1_0, .int .i64 x1_1, .int .i64 x1_2, .int .i64 x1_3, .int .i64 x1_4, .int .i64 x1_5, .int .i64 x1_6, .int .i64 x1_7, .int .i64 x1_8, .int .i64 x1_9, .int .i64 x1_10, .int .i64 x1_11, .int .i64 x1_12] 29 := ⟨fun w => by go_simp⟩
theorem ix127_0 (x0 : Int) (x1 : Int) : Runs Tryz.prog (Instr.index 127 (.agg #[.int .i64 x0, .int .i64 x1]) (.int .i64 0)) (.int .i64 x0) := run_ixc (xs := [.int .i64 x0, .int .i64 x1]) Tryz.underlying127 cell3 (by decide) (by decide) rfl
theorem ix127_1 (x0 : Int) (x1 : Int) : Runs Tryz.prog (Instr.index 127 (.agg #[.int .i64 x0, .int .i64 x1]) (.int .i64 1)) (.int .i64 x1) := run_ixc (xs := [.int .i64 x0, .int .i64 x1]) Tryz.underlying127 cell3 (by decide) (by decide) rfl
end Go.Proofs.YtalffjplbhelcaaGreatDoor
