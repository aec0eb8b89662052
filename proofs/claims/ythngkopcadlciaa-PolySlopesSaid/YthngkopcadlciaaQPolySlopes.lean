import Derived.Test.YthngkopcadlciaaPHorner
import Derived.Test.YthngkopcadlciaaPLaw
import Derived.Test.YthngkopcadlciaaLPolySlopes
set_option linter.unusedVariables false
set_option linter.unusedSimpArgs false
namespace Go.Proofs.Ythngkopcadlciaa

theorem mulb {a b A B : Int} (ha : -A ≤ a ∧ a ≤ A) (hb : -B ≤ b ∧ b ≤ B) (C : Int) (h : A * B ≤ C) : -C ≤ a * b ∧ a * b ≤ C := by
  have := mul_bound ha hb
  omega
theorem horner2 {a b x : Int} (ha : -40 ≤ a ∧ a ≤ 40) (hb : -40 ≤ b ∧ b ≤ 40) (hx : -7 ≤ x ∧ x ≤ 7) : horner [pt (a * 65536), pt (b * 65536)] (pt (x * 65536)) = pt ((b * x + a) * 65536) := by
  have h1 := mulb hb hx 280 (by decide)
  show ivAdd (ivMul (htop (pt (b * 65536))) (pt (x * 65536))) (pt (a * 65536)) = _
  rw [htop_R (R_pt (by omega)), mul_wh (by omega) (by omega) (by omega), add_wh (by omega) (by omega) (by omega)]
theorem horner3 {a b c x : Int} (ha : -20 ≤ a ∧ a ≤ 20) (hb : -20 ≤ b ∧ b ≤ 20) (hc : -20 ≤ c ∧ c ≤ 20) (hx : -7 ≤ x ∧ x ≤ 7) : horner [pt (a * 65536), pt (b * 65536), pt (c * 65536)] (pt (x * 65536)) = pt (((c * x + b) * x + a) * 65536) := by
  have h1 := mulb hc hx 140 (by decide)
  have h2 := mulb (a := c * x + b) (A := 160) (by omega) hx 1120 (by decide)
  have e := horner2 (a := b) (b := c) (x := x) (by omega) (by omega) hx
  show ivAdd (ivMul (horner [pt (b * 65536), pt (c * 65536)] (pt (x * 65536))) (pt (x * 65536))) (pt (a * 65536)) = _
  rw [e, mul_wh (by omega) (by omega) (by omega), add_wh (by omega) (by omega) (by omega)]
theorem lawPolySlopes_true (a b c x : Int) : lawPolySlopes a b c x = true := by
  have ha := hPick_lt a (m := 41) (by decide) (by decide)
  have hb := hPick_lt b (m := 41) (by decide) (by decide)
  have hc := hPick_lt c (m := 41) (by decide) (by decide)
  have hx := hPick_lt x (m := 13) (by decide) (by decide)
  have hdef : lawPolySlopes a b c x = (bif known4 then (bif decide (lawPolySlopes_e0 a b c x = lawPolySlopes_e3 a b c x) then decide (lawPolySlopes_e4 a b c x = ivTimes (lawPolySlopes_e0 a b c x) 2) else false) else false) := rfl
  have eA : w64 (hPick a 41 - 20) = hPick a 41 - 20 := w64_of (by omega) (by omega)
  have eB : w64 (hPick b 41 - 20) = hPick b 41 - 20 := w64_of (by omega) (by omega)
  have eC : w64 (hPick c 41 - 20) = hPick c 41 - 20 := w64_of (by omega) (by omega)
  have eX : w64 (hPick x 13 - 6) = hPick x 13 - 6 := w64_of (by omega) (by omega)
  rw [hdef]
  simp only [lawPolySlopes_e0, lawPolySlopes_e1, lawPolySlopes_e2, lawPolySlopes_e3, lawPolySlopes_e4, eA, eB, eC, eX]
  generalize hA : hPick a 41 - 20 = A at *
  generalize hB : hPick b 41 - 20 = B at *
  generalize hC : hPick c 41 - 20 = C at *
  generalize hX : hPick x 13 - 6 = X at *
  have bA : -20 ≤ A ∧ A ≤ 20 := by omega
  have bB : -20 ≤ B ∧ B ≤ 20 := by omega
  have bC : -20 ≤ C ∧ C ≤ 20 := by omega
  have bX : -6 ≤ X ∧ X ≤ 6 := by omega
  clear ha hb hc hx hA hB hC hX eA eB eC eX hdef
  have p1 := mulb (a := 2 * C) (b := X) (A := 40) (B := 6) (by omega) bX 240 (by decide)
  have p2 := mulb (a := C) (b := X) (A := 20) (B := 6) bC bX 120 (by decide)
  have w1 : w64 (2 * C) = 2 * C := w64_of (by omega) (by omega)
  have w2 : w64 (2 * C * X) = 2 * C * X := w64_of (by omega) (by omega)
  have w3 : w64 (B + 2 * C * X) = B + 2 * C * X := w64_of (by omega) (by omega)
  have w4 : w64 (X + 1) = X + 1 := w64_of (by omega) (by omega)
  have w5 : w64 (X - 1) = X - 1 := w64_of (by omega) (by omega)
  rw [w1, w2, w3, w4, w5]
  rw [whole_eq (k := A) (by omega), whole_eq (k := B) (by omega), whole_eq (k := C) (by omega), whole_eq (k := X) (by omega), whole_eq (k := X + 1) (by omega), whole_eq (k := X - 1) (by omega), whole_eq (k := B + 2 * C * X) (by omega)]
  rw [times_wh (a := B) (k := 1) (by omega) (by omega) (by omega), times_wh (a := C) (k := 2) (by omega) (by omega) (by omega)]
  rw [horner2 (a := 1 * B) (b := 2 * C) (x := X) (by omega) (by omega) (by omega), horner3 (x := X + 1) bA bB bC (by omega), horner3 (x := X - 1) bA bB bC (by omega)]
  have q1 := mulb (a := C) (b := X + 1) (A := 20) (B := 7) bC (by omega) 140 (by decide)
  have q2 := mulb (a := C * (X + 1) + B) (b := X + 1) (A := 160) (B := 7) (by omega) (by omega) 1120 (by decide)
  have q3 := mulb (a := C) (b := X - 1) (A := 20) (B := 7) bC (by omega) 140 (by decide)
  have q4 := mulb (a := C * (X - 1) + B) (b := X - 1) (A := 160) (B := 7) (by omega) (by omega) 1120 (by decide)
  rw [sub_wh (by omega) (by omega) (by omega), times_wh (k := 2) (by omega) (by omega) (by omega)]
  have e1 : 2 * C * X + 1 * B = B + 2 * C * X := by omega
  have e2 : (C * (X + 1) + B) * (X + 1) + A - ((C * (X - 1) + B) * (X - 1) + A) = 2 * (B + 2 * C * X) := by grind
  rw [e1, e2, known4_true]
  simp
end Go.Proofs.Ythngkopcadlciaa
