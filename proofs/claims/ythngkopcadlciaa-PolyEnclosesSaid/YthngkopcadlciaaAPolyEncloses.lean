import Derived.Test.YthngkopcadlciaaQPolyEncloses
import Derived.Test.YthngkopcadlciaaIL
set_option linter.unusedVariables false
namespace Go.Proofs.Ythngkopcadlciaa
open Go.RowKit
/-- The law, called with whatever slice. -/
theorem polyEncloses_calls (W : World) (a : Option Addr) (len cap : Nat) (x m n : Int) (h : Ints W a len) : Calls Try.prog 3 #[.slice a len cap, .int .i64 x, .int .i64 m, .int .i64 n] W fun e W' => e = .returned (.bool true) ∧ Below W.heap.size W W' := by
  have key : ∀ {R : List Box} {v : Value} {args : Array Value}, Gives Try.prog 3 args R (fun u N => u = v ∧ N = []) → At R W → (R.map Box.g).Nodup → Calls Try.prog 3 args W fun e W' => e = .returned v ∧ Below W.heap.size W W' := by
    intro R v args hg hA hn
    refine (hg W hA hn).mono ?_
    rintro e w' ⟨v', N, he, ⟨rfl, _⟩, _, _, hb⟩
    exact ⟨he, hb⟩
  rcases h with rfl | ⟨b, off, rfl, cs, ty, fr, hh, zs, hz⟩
  · exact key (gives_gets (R := []) (c_lawPolyEncloses0 x m n a cap (lawPolyEncloses0_true x m n))) (by simp [At]) (by simp)
  · have hA : At [⟨b, cs, ty, true⟩] W := by
      intro c hc
      obtain rfl := List.mem_singleton.1 hc
      exact ⟨fr, hh⟩
    match len, hz with
    | 0, _ => exact key (gives_gets (R := []) (c_lawPolyEncloses0 x m n (some ⟨b, off, none⟩) cap (lawPolyEncloses0_true x m n))) (by simp [At]) (by simp)
    | 1, hz => exact key (c_lawPolyEncloses1 (zs 0) x m n b off cap ty cs (by simpa using hz 0 (by decide)) (lawPolyEncloses1_true (zs 0) x m n)) hA (by simp)
    | 2, hz => exact key (c_lawPolyEncloses2 (zs 0) (zs 1) x m n b off cap ty cs (by simpa using hz 0 (by decide)) (by simpa using hz 1 (by decide)) (lawPolyEncloses2_true (zs 0) (zs 1) x m n)) hA (by simp)
    | 3, hz => exact key (c_lawPolyEncloses3 (zs 0) (zs 1) (zs 2) x m n b off cap ty cs (by simpa using hz 0 (by decide)) (by simpa using hz 1 (by decide)) (by simpa using hz 2 (by decide)) (lawPolyEncloses3_true (zs 0) (zs 1) (zs 2) x m n)) hA (by simp)
    | 4, hz => exact key (c_lawPolyEncloses4 (zs 0) (zs 1) (zs 2) (zs 3) x m n b off cap ty cs (by simpa using hz 0 (by decide)) (by simpa using hz 1 (by decide)) (by simpa using hz 2 (by decide)) (by simpa using hz 3 (by decide)) (lawPolyEncloses4_true (zs 0) (zs 1) (zs 2) (zs 3) x m n)) hA (by simp)
    | 5, hz => exact key (c_lawPolyEncloses5 (zs 0) (zs 1) (zs 2) (zs 3) (zs 4) x m n b off cap ty cs (by simpa using hz 0 (by decide)) (by simpa using hz 1 (by decide)) (by simpa using hz 2 (by decide)) (by simpa using hz 3 (by decide)) (by simpa using hz 4 (by decide)) (lawPolyEncloses5_true (zs 0) (zs 1) (zs 2) (zs 3) (zs 4) x m n)) hA (by simp)
    | N + 6, hz => exact key (c_lawPolyEncloses6 (zs 0) (zs 1) (zs 2) (zs 3) (zs 4) x m n b off cap ty (N + 6) cs (by omega) (by simpa using hz 0 (by omega)) (by simpa using hz 1 (by omega)) (by simpa using hz 2 (by omega)) (by simpa using hz 3 (by omega)) (by simpa using hz 4 (by omega)) (lawPolyEncloses6_true (zs 0) (zs 1) (zs 2) (zs 3) (zs 4) x m n)) hA (by simp)
end Go.Proofs.Ythngkopcadlciaa
