import Derived.Test.YthngkopcadlciaaMem
import Derived.Test.YthngkopcadlciaaRnd
import Derived.Test.YthngkopcadlciaaTypes
import Derived.Test.YthngkopcadlciaaFacts
import Derived.RangeFuncBox
import Derived.RangeFuncLeaves
import Derived.RangeFuncNested
import Derived.Shelf.Abstract
import Derived.OwnWalkIn
import Derived.TacticsInMore
import Derived.LoopNIn
import Derived.LoopIn
set_option linter.unusedVariables false
set_option linter.unusedSimpArgs false
namespace Go.Proofs.Ythngkopcadlciaa
open Go.RowKit Go.Shelf

attribute [local go_sem] Oper.semAt_some

/-- The intervals of a list, from behind: with their places. -/
def bk (l : List Iv) (j : Nat) : Nat × Iv := (l.length - 1 - j, (l[l.length - 1 - j]?).getD ⟨0, 0, false⟩)
def upto (l : List Iv) (k : Nat) : List (Nat × Iv) := (List.range k).map (bk l)
theorem upto_succ (l : List Iv) (k : Nat) : upto l (k + 1) = upto l k ++ [bk l k] := by simp [upto, List.range_succ]
theorem upto_length (l : List Iv) (k : Nat) : (upto l k).length = k := by simp [upto]
def flat (l : List Iv) : List Value := l.flatMap fun a => [.int .i64 a.lo, .int .i64 a.hi, .bool a.no]
theorem flat_length (l : List Iv) : (flat l).length = 3 * l.length := by
  induction l with
  | nil => rfl
  | cons a l ih => simp only [flat, List.flatMap_cons, List.length_append, List.length_cons, List.length_nil] at ih ⊢; omega
theorem flat_append (a b : List Iv) : flat (a ++ b) = flat a ++ flat b := by simp [flat]

set_option maxHeartbeats 1000000 in
/-- slices.Backward(s): the slice is boxed; the function value captures the box. -/
theorem back_in (F : Fence) (n : Nat) (h5 : F.fn 66) (hro : F.round = none) (a : Option Addr) (len cap : Nat) (w : World) :
    CallsIn F n Try.prog 66 #[.slice a len cap] w fun e w' => e = .returned (.func (.func 99) #[] #[.pointer (some ⟨w.heap.size, 0, none⟩)]) ∧ w' = w.alloc (.cells #[.slice a len cap] 24) := by
  refine callsIn_of_wp Try.func66 rfl h5 ?_ hro
  simp only [Try.ntmps66, List.size_toArray, List.length_cons, List.length_nil, Nat.reduceAdd, Nat.reduceSub, Array.replicate_succ, Array.replicate_zero, List.push_toArray, List.append_toArray, List.nil_append, List.cons_append]
  gi_wp2
  go_ret
  exact ⟨rfl, rfl⟩

def elt (l : List Iv) (m : Nat) : Iv := (l[m]?).getD ⟨0, 0, false⟩
/-- The row of a list lies in block b, from off on. -/
def Lies (W : World) (b off : Nat) (l : List Iv) : Prop :=
  ∀ m, m < l.length → W.cell? ⟨b, off + m * 3, none⟩ = some (.int .i64 (elt l m).lo) ∧ W.cell? ⟨b, off + m * 3 + 1, none⟩ = some (.int .i64 (elt l m).hi) ∧ W.cell? ⟨b, off + m * 3 + 2, none⟩ = some (.bool (elt l m).no)

/-- What the iterator wants kept: the row and its own box. -/
def KpB (b Bs : Nat) (A B : World) : Prop := B.heap[b]? = A.heap[b]? ∧ B.heap[Bs]? = A.heap[Bs]?
theorem KpB.trans {b Bs : Nat} {A B C : World} (h : KpB b Bs A B) (k : KpB b Bs B C) : KpB b Bs A C := ⟨k.1.trans h.1, k.2.trans h.2⟩
set_option maxRecDepth 100000 in
set_option maxHeartbeats 2000000 in
/-- slices.Backward's closure. -/
theorem back1_in (F : Fence) (n : Nat) (h7 : F.fn 99) (hro : F.round = none) (hn : 1 ≤ n) (l Bs b off cap : Nat) (zs : List Iv) (hreach : zs.length * 24 ≤ 140737488351232) (J Jx : List (Nat × Iv) → World → Prop)
    (hY : ∀ pre x W, J pre W → pre.length < zs.length → YieldAt F (n - 1) Try.prog l #[.int .i64 (x.1 : Int), x.2.v] W fun e W' =>
      (e = .returned (.bool true) ∧ J (pre ++ [x]) W' ∧ KpB b Bs W W') ∨ (e = .returned (.bool false) ∧ Jx (pre ++ [x]) W'))
    (W : World) (hBs : W.cell? ⟨Bs, 0, none⟩ = some (.slice (some ⟨b, off, none⟩) zs.length cap)) (hc : Lies W b off zs) (h0 : J [] W) :
    CallsIn F n Try.prog 99 #[.func (.yield l) #[] #[], .pointer (some ⟨Bs, 0, none⟩)] W fun e W' => (∃ v, e = .returned v) ∧
      ((∃ ys, ys = upto zs zs.length ∧ J ys W') ∨ (∃ pre, (∃ k, k ≤ zs.length ∧ pre = upto zs k) ∧ Jx pre W')) := by
  refine callsIn_of_wp Try.func99 rfl h7 ?_ hro
  simp only [Try.ntmps99, List.size_toArray, List.length_cons, List.length_nil, Nat.reduceAdd, Nat.reduceSub, Array.replicate_succ, Array.replicate_zero, List.push_toArray, List.append_toArray, List.nil_append, List.cons_append]
  gi_wp2
  gi_loopw [3] (fun i wr => ∃ k m : Nat, m + k = zs.length ∧ i = .int .i64 ((m : Int) - 1) ∧ J (upto zs k) wr ∧ KpB b Bs W wr)
    (fun i _ => (intOf i + 1).toNat)
  case atStart => exact ⟨0, zs.length, by omega, by simp, h0, rfl, rfl⟩
  case round =>
    obtain ⟨k, m, hk, rfl, hJs, hnx⟩ := hrel
    have hBs' := (World.cell?_of_block (a := ⟨Bs, 0, none⟩) hnx.2).trans hBs
    cases m with
    | zero =>
      obtain rfl : k = zs.length := by omega
      rw [show (((0 : Nat) : Int) - 1) = -1 from rfl]
      gi_wp2
      go_end0
      exact ⟨⟨_, rfl⟩, .inl ⟨_, rfl, hJs⟩⟩
    | succ m =>
      obtain ⟨e1, e2, e3⟩ := hc m (by omega)
      have d1 := (World.cell?_of_block (a := ⟨b, off + m * 3, none⟩) hnx.1).trans e1
      have d2 := (World.cell?_of_block (a := ⟨b, off + m * 3 + 1, none⟩) hnx.1).trans e2
      have d3 := (World.cell?_of_block (a := ⟨b, off + m * 3 + 2, none⟩) hnx.1).trans e3
      have hm : m < zs.length := by omega
      have hi : (((m + 1 : Nat) : Int) - 1) = (m : Int) := by omega
      rw [hi]
      have hx : bk zs k = (m, elt zs m) := by
        have : zs.length - 1 - k = m := by omega
        simp only [bk, this, elt]
      obtain ⟨fn, tmps, assign, body, hy, hR⟩ := hY _ (bk zs k) wr hJs (by rw [upto_length]; omega)
      rw [hx] at hy hR
      dsimp only at hy
      gi_wp2
      refine hR.mono ?_
      rintro e W3 (⟨rfl, hJ3, hk3⟩ | ⟨rfl, hJx3⟩)
      · gi_wp2
        go_roundw
        case rel => exact ⟨k + 1, m, by omega, by simp, by rw [upto_succ, hx]; exact hJ3, hnx.trans hk3⟩
        case measure => simp [intOf]
      · gi_wp2
        refine bodyPost_ret (results_none rfl _ _ _) rfl ?_
        exact ⟨⟨_, rfl⟩, .inr ⟨_, ⟨k + 1, by omega, by rw [upto_succ, hx]⟩, hJx3⟩⟩
/-- slices.Backward(s) hands back a value that goes through the row from behind. -/
theorem back_stops (F : Fence) (n : Nat) (h7 : F.fn 99) (hro : F.round = none) (hn : 1 ≤ n) (Bs b off cap : Nat) (zs : List Iv) (hreach : zs.length * 24 ≤ 140737488351232) (w : World) (hBs : Bs < w.heap.size) (hb : b < w.heap.size)
    (hc : w.cell? ⟨Bs, 0, none⟩ = some (.slice (some ⟨b, off, none⟩) zs.length cap)) (hL : Lies w b off zs) :
    SeqStopsK F n Try.prog 99 #[.pointer (some ⟨Bs, 0, none⟩)] (fun x : Nat × Iv => #[Value.int .i64 (x.1 : Int), x.2.v]) (KpB b Bs) (fun ys => ys = upto zs zs.length) (fun pre => ∃ k, k ≤ zs.length ∧ pre = upto zs k) zs.length w := fun l J Jx W hW _ _ hY h0 => by
  have hc' := (hW.cell (p := ⟨Bs, 0, none⟩) hBs).trans hc
  have hL' : Lies W b off zs := fun m hm => by
    obtain ⟨e1, e2, e3⟩ := hL m hm
    exact ⟨(hW.cell (p := ⟨b, off + m * 3, none⟩) hb).trans e1, (hW.cell (p := ⟨b, off + m * 3 + 1, none⟩) hb).trans e2, (hW.cell (p := ⟨b, off + m * 3 + 2, none⟩) hb).trans e3⟩
  exact back1_in F n h7 hro hn l Bs b off cap zs hreach J Jx hY W hc' hL' h0
end Go.Proofs.Ythngkopcadlciaa
