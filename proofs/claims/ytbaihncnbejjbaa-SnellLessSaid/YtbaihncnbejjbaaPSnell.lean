import Derived.Test.YtbaihncnbejjbaaPRat
import Derived.Test.YtbaihncnbejjbaaPVec
import Derived.Test.YtbaihncnbejjbaaPQuad
import Derived.Test.YtbaihncnbejjbaaSnell
import Derived.Test.YtbaihncnbejjbaaK17
set_option linter.unusedVariables false
set_option linter.unusedSimpArgs false
namespace Go.Proofs.Ytbaihncnbejjbaa

/-! ## Bent -/
theorem known17_true : known17 = true := by decide +kernel
def bG (d n : V) : Iv := vecDot d n
def bK (d n : V) (r : Iv) : Iv := ivSub (ivPoint 65536) (ivMul (ivSqr r) (ivSub (ivPoint 65536) (ivSqr (bG d n))))
def bO (d n : V) (r : Iv) : V := vecAdd (vecScale d r) (vecScale n (ivSub (ivRoot (bK d n r)) (ivMul r (bG d n))))
def bYes (d n : V) (r : Iv) : Prop := R (bG d n) ∧ 0 < (bG d n).lo ∧ R (bK d n r) ∧ 0 ≤ (bK d n r).lo ∧ RV (bO d n r)
def bNo (d n : V) (r : Iv) : Prop := R (bG d n) ∧ 0 < (bG d n).lo ∧ R (bK d n r) ∧ (bK d n r).hi < 0
theorem dot_no (d n : V) : (vecDot d n).no = !ivRight (vecDot d n) := add_no _ _
theorem bend_cases (d n : V) (r : Iv) : (bNo d n r ∧ snellBend d n r = (snellNones, 2)) ∨ (bYes d n r ∧ snellBend d n r = (bO d n r, 1)) ∨ (¬ bNo d n r ∧ ¬ bYes d n r ∧ snellBend d n r = (snellNones, 0)) := by
  have e : snellBend d n r = (bif (bG d n).no then (snellNones, 0) else bif decide ((bG d n).lo ≤ 0) then (snellNones, 0) else bif (bK d n r).no then (snellNones, 0) else
      bif decide ((bK d n r).hi < 0) then (snellNones, 2) else bif decide ((bK d n r).lo < 0) then (snellNones, 0) else bif vecRight (bO d n r) then (bO d n r, 1) else (snellNones, 0)) := rfl
  have hg : (bG d n).no = !ivRight (bG d n) := dot_no _ _
  have hk : (bK d n r).no = !ivRight (bK d n r) := sub_no _ _
  rw [e, hg, hk]
  unfold bNo bYes
  generalize bG d n = G
  generalize bK d n r = K
  generalize bO d n r = O
  by_cases rG : R G
  · rw [ivRight_t rG]
    by_cases h0 : G.lo ≤ 0
    · right; right; rw [decide_eq_true h0]; exact ⟨fun k => by omega, fun k => by omega, rfl⟩
    · rw [decide_eq_false h0]
      by_cases rK : R K
      · have kb := rK.2
        rw [ivRight_t rK]
        by_cases h1 : K.hi < 0
        · left; rw [decide_eq_true h1]; exact ⟨⟨rG, by omega, rK, h1⟩, rfl⟩
        · rw [decide_eq_false h1]
          by_cases h2 : K.lo < 0
          · right; right; rw [decide_eq_true h2]; exact ⟨fun k => h1 k.2.2.2, fun k => by omega, rfl⟩
          · rw [decide_eq_false h2]
            by_cases rO : RV O
            · right; left; rw [(vecRight_iff O).2 rO]; exact ⟨⟨rG, by omega, rK, by omega, rO⟩, rfl⟩
            · right; right
              have : vecRight O = false := by
                cases q : vecRight O
                · rfl
                · exact absurd ((vecRight_iff O).1 q) rO
              rw [this]; exact ⟨fun k => h1 k.2.2.2, fun k => rO k.2.2.2.2, rfl⟩
      · right; right; rw [ivRight_f rK]; exact ⟨fun k => rK k.2.2.1, fun k => rK k.2.2.1, rfl⟩
  · right; right; rw [ivRight_f rG]; exact ⟨fun k => rG k.1, fun k => rG k.1, rfl⟩
theorem bend_012 (d n : V) (r : Iv) : (snellBend d n r).2 = 0 ∨ (snellBend d n r).2 = 1 ∨ (snellBend d n r).2 = 2 := by
  rcases bend_cases d n r with ⟨_, e⟩ | ⟨_, e⟩ | ⟨_, _, e⟩ <;> rw [e] <;> simp
theorem bend_yes {d n : V} {r : Iv} (h : (snellBend d n r).2 = 1) : bYes d n r ∧ (snellBend d n r).1 = bO d n r := by
  rcases bend_cases d n r with ⟨_, e⟩ | ⟨k, e⟩ | ⟨_, _, e⟩ <;> rw [e] at h ⊢
  · exact absurd h (by decide)
  · exact ⟨k, rfl⟩
  · exact absurd h (by decide)
theorem bend_no {d n : V} {r : Iv} (h : (snellBend d n r).2 = 2) : bNo d n r := by
  rcases bend_cases d n r with ⟨k, e⟩ | ⟨_, e⟩ | ⟨_, _, e⟩ <;> rw [e] at h
  · exact k
  · exact absurd (show (1 : Int) = 2 from h) (by decide)
  · exact absurd h (by decide)
theorem le_bG {d n d' n' : V} (h1 : LeV d' d) (h2 : LeV n' n) : Le (bG d' n') (bG d n) := le_dot h1 h2
theorem le_bK {d n d' n' : V} {r r' : Iv} (h1 : LeV d' d) (h2 : LeV n' n) (h3 : Le r' r) : Le (bK d' n' r') (bK d n r) :=
  le_sub (Le.rfl' _) (le_mul (le_sqr h3) (le_sub (Le.rfl' _) (le_sqr (le_bG h1 h2))))
theorem le_bO {d n d' n' : V} {r r' : Iv} (h1 : LeV d' d) (h2 : LeV n' n) (h3 : Le r' r) : LeV (bO d' n' r') (bO d n r) :=
  leV_add (leV_scale h1 h3) (leV_scale h2 (le_sub (le_root (le_bK h1 h2 h3)) (le_mul h3 (le_bG h1 h2))))
theorem inside_of {a b : V} (h : LeV a b) (rb : RV b) : RV a ∧ vecInside a b = true := by
  obtain ⟨x1, x2⟩ := h.1 rb.1
  obtain ⟨y1, y2⟩ := h.2.1 rb.2.1
  obtain ⟨z1, z2⟩ := h.2.2 rb.2.2
  refine ⟨⟨x1, y1, z1⟩, ?_⟩
  unfold vecInside
  rw [(ivInside_iff _ _).2 ⟨x1, rb.1, x2⟩, (ivInside_iff _ _).2 ⟨y1, rb.2.1, y2⟩, (ivInside_iff _ _).2 ⟨z1, rb.2.2, z2⟩]; rfl
theorem bend_less {d n d' n' : V} {r r' : Iv} (h1 : LeV d' d) (h2 : LeV n' n) (h3 : Le r' r) :
    ((snellBend d n r).2 = 1 → (snellBend d' n' r').2 = 1 ∧ vecInside (snellBend d' n' r').1 (snellBend d n r).1 = true) ∧ ((snellBend d n r).2 = 2 → (snellBend d' n' r').2 = 2) := by
  have lG := le_bG h1 h2
  have lK := le_bK h1 h2 h3
  have lO := le_bO h1 h2 h3
  constructor
  · intro h
    obtain ⟨⟨rG, hG, rK, hK, rO⟩, e⟩ := bend_yes h
    have g := lG rG
    have k := lK rK
    have kb := k.1.2
    have o := inside_of lO rO
    rw [e]
    rcases bend_cases d' n' r' with ⟨c, e'⟩ | ⟨_, e'⟩ | ⟨_, c, e'⟩
    · have := c.2.2.2; omega
    · rw [e']; exact ⟨rfl, o.2⟩
    · exact absurd ⟨g.1, by omega, k.1, by omega, o.1⟩ c
  · intro h
    obtain ⟨rG, hG, rK, hK⟩ := bend_no h
    have g := lG rG
    have k := lK rK
    have kb := k.1.2
    rcases bend_cases d' n' r' with ⟨_, e'⟩ | ⟨c, e'⟩ | ⟨c, _, e'⟩
    · rw [e']
    · have := c.2.2.2.1; omega
    · exact absurd ⟨g.1, by omega, k.1, by omega⟩ c
/-! ### turned, mirrored -/
theorem scale_turn1 (a : V) (k : Iv) : vecScale (turn1 a) k = turn1 (vecScale a k) := by
  unfold vecScale vecOf turn1
  simp only [ivMul_negl]
theorem scale_mirror (a : V) (k : Iv) : vecScale (vecMirror a) k = vecMirror (vecScale a k) := by
  unfold vecScale vecOf vecMirror
  simp only [ivMul_negl]
theorem add_mirror (a b : V) : vecAdd (vecMirror a) (vecMirror b) = vecMirror (vecAdd a b) := by
  unfold vecAdd vecOf vecMirror
  simp only [ivNeg_add]
theorem RV_turn1 {a : V} : RV (turn1 a) ↔ RV a := by
  unfold RV turn1
  simp only [R_neg]
  exact ⟨fun k => ⟨k.2.1, k.1, k.2.2⟩, fun k => ⟨k.2.1, k.1, k.2.2⟩⟩
theorem RV_mirror {a : V} : RV (vecMirror a) ↔ RV a := by
  unfold RV vecMirror
  simp only [R_neg]
/-- What turns a way, and hangs on nothing else. -/
structure Turns (f : V → V) : Prop where
  dot : ∀ a b, vecDot (f a) (f b) = vecDot a b
  scale : ∀ a k, vecScale (f a) k = f (vecScale a k)
  add : ∀ a b, vecAdd (f a) (f b) = f (vecAdd a b)
  right : ∀ a, RV (f a) ↔ RV a
theorem turns_turn1 : Turns turn1 := ⟨dot_turn1, scale_turn1, fun a b => (add_turn1 a b).symm, fun _ => RV_turn1⟩
theorem turns_mirror : Turns vecMirror := ⟨dot_mirror, scale_mirror, add_mirror, fun _ => RV_mirror⟩
theorem bend_turns {f : V → V} (hf : Turns f) (d n : V) (r : Iv) : (snellBend (f d) (f n) r).2 = (snellBend d n r).2 ∧ ((snellBend d n r).2 = 1 → (snellBend (f d) (f n) r).1 = f (snellBend d n r).1) := by
  have eG : bG (f d) (f n) = bG d n := hf.dot d n
  have eK : bK (f d) (f n) r = bK d n r := by unfold bK; rw [eG]
  have eO : bO (f d) (f n) r = f (bO d n r) := by
    unfold bO
    rw [eG, eK, hf.scale, hf.scale, hf.add]
  have y : bYes (f d) (f n) r ↔ bYes d n r := by unfold bYes; rw [eG, eK, eO, hf.right]
  have no : bNo (f d) (f n) r ↔ bNo d n r := by unfold bNo; rw [eG, eK]
  rcases bend_cases d n r with ⟨k, e⟩ | ⟨k, e⟩ | ⟨k1, k2, e⟩ <;> rcases bend_cases (f d) (f n) r with ⟨k', e'⟩ | ⟨k', e'⟩ | ⟨k1', k2', e'⟩ <;> rw [e, e']
  · exact ⟨rfl, fun h => absurd h (by decide)⟩
  · have a := k.2.2.2
    have b := (y.1 k').2.2.2.1
    have c := k.2.2.1.2
    omega
  · exact absurd (no.2 k) k1'
  · have a := (no.1 k').2.2.2
    have b := k.2.2.2.1
    have c := k.2.2.1.2
    omega
  · exact ⟨rfl, fun _ => eO⟩
  · exact absurd (y.2 k) k2'
  · exact absurd (no.1 k') k1
  · exact absurd (y.1 k') k2
  · exact ⟨rfl, fun h => absurd h (by decide)⟩
/-! ### fractions, bent across the axis -/
theorem axis_x : axis17.x = ⟨0, 0, false⟩ := by decide +kernel
theorem axis_y : axis17.y = ⟨0, 0, false⟩ := by decide +kernel
theorem axis_z : axis17.z = ⟨65536, 65536, false⟩ := by decide +kernel
theorem mem_zero : Mem 0 ⟨0, 0, false⟩ := by
  refine ⟨R_mk (by omega) (by omega) (by omega), ?_, ?_⟩ <;> (show _ ≤ _; simp only [Rat.mul_zero]; exact Rat.le_refl)
theorem mem_one : Mem 1 ⟨65536, 65536, false⟩ := by
  refine ⟨R_mk (by omega) (by omega) (by omega), ?_, ?_⟩ <;> (simp only [Rat.mul_one]; exact Rat.le_refl)
theorem point_one : ivPoint 65536 = ⟨65536, 65536, false⟩ := by decide +kernel
theorem R_dot {d n : V} (h : R (vecDot d n)) : R (ivAdd (ivMul d.x n.x) (ivMul d.y n.y)) ∧ R (ivMul d.x n.x) ∧ R (ivMul d.y n.y) ∧ R (ivMul d.z n.z) ∧ RV d ∧ RV n := by
  unfold vecDot vecDot_e0 at h
  obtain ⟨h1, hz⟩ := R_args2 ivAdd_out h
  obtain ⟨hx, hy⟩ := R_args2 ivAdd_out h1
  obtain ⟨a1, b1⟩ := R_args2 ivMul_out hx
  obtain ⟨a2, b2⟩ := R_args2 ivMul_out hy
  obtain ⟨a3, b3⟩ := R_args2 ivMul_out hz
  exact ⟨h1, hx, hy, hz, ⟨a1, a2, a3⟩, b1, b2, b3⟩
theorem mem_dot {d n : V} {a b c x y z : Rat} (h : R (vecDot d n)) (m1 : Mem a d.x) (m2 : Mem b d.y) (m3 : Mem c d.z) (k1 : Mem x n.x) (k2 : Mem y n.y) (k3 : Mem z n.z) : Mem (a * x + b * y + c * z) (vecDot d n) := by
  obtain ⟨h1, hx, hy, hz, _⟩ := R_dot h
  exact mem_add (mem_add (mem_mul m1 k1 hx) (mem_mul m2 k2 hy) h1) (mem_mul m3 k3 hz) h
theorem mem_bG {d : V} {a b c : Rat} (h : R (bG d axis17)) (m1 : Mem a d.x) (m2 : Mem b d.y) (m3 : Mem c d.z) : Mem c (bG d axis17) := by
  have := mem_dot (d := d) (n := axis17) h m1 m2 m3 (axis_x ▸ mem_zero) (axis_y ▸ mem_zero) (axis_z ▸ mem_one)
  have e : a * 0 + b * 0 + c * 1 = c := by grind
  rw [e] at this
  exact this
theorem mem_bK {d n : V} {r : Iv} {g q : Rat} (h : R (bK d n r)) (mg : Mem g (bG d n)) (mq : Mem q r) : Mem (1 - q * q * (1 - g * g)) (bK d n r) := by
  have h' := h
  unfold bK at h' ⊢
  rw [point_one] at h' ⊢
  unfold ivSub at h'
  obtain ⟨_, hn⟩ := R_args2 ivAdd_out h'
  have hm := R_neg.1 hn
  obtain ⟨hs, hi⟩ := R_args2 ivMul_out hm
  have hi' := hi
  obtain ⟨_, hn2⟩ := R_args2 ivAdd_out hi'
  have hs2 := R_neg.1 hn2
  exact mem_sub mem_one (mem_mul (mem_sqr mq hs) (mem_sub mem_one (mem_sqr mg hs2) hi) hm) h'
theorem mem_bO {d : V} {r : Iv} {a b c q s : Rat} (h : bYes d axis17 r) (m1 : Mem a d.x) (m2 : Mem b d.y) (m3 : Mem c d.z) (mq : Mem q r) (ms : Mem s (ivRoot (bK d axis17 r))) :
    Mem (a * q) (bO d axis17 r).x ∧ Mem (b * q) (bO d axis17 r).y ∧ Mem s (bO d axis17 r).z := by
  obtain ⟨rG, _, rK, _, ⟨ox, oy, oz⟩⟩ := h
  have mg := mem_bG rG m1 m2 m3
  have ox' : R (ivAdd (ivMul d.x r) (ivMul axis17.x (ivSub (ivRoot (bK d axis17 r)) (ivMul r (bG d axis17))))) := ox
  have oy' : R (ivAdd (ivMul d.y r) (ivMul axis17.y (ivSub (ivRoot (bK d axis17 r)) (ivMul r (bG d axis17))))) := oy
  have oz' : R (ivAdd (ivMul d.z r) (ivMul axis17.z (ivSub (ivRoot (bK d axis17 r)) (ivMul r (bG d axis17))))) := oz
  obtain ⟨x1, x2⟩ := R_args2 ivAdd_out ox'
  obtain ⟨y1, y2⟩ := R_args2 ivAdd_out oy'
  obtain ⟨z1, z2⟩ := R_args2 ivAdd_out oz'
  obtain ⟨_, hs⟩ := R_args2 ivMul_out x2
  have hs' := hs
  unfold ivSub at hs'
  obtain ⟨_, hn⟩ := R_args2 ivAdd_out hs'
  have hm := R_neg.1 hn
  have mt := mem_sub ms (mem_mul mq mg hm) hs
  refine ⟨?_, ?_, ?_⟩
  · have := mem_add (mem_mul m1 mq x1) (mem_mul (axis_x ▸ mem_zero : Mem 0 axis17.x) mt x2) ox'
    have e : a * q + 0 * (s - q * c) = a * q := by grind
    rw [e] at this
    exact this
  · have := mem_add (mem_mul m2 mq y1) (mem_mul (axis_y ▸ mem_zero : Mem 0 axis17.y) mt y2) oy'
    have e : b * q + 0 * (s - q * c) = b * q := by grind
    rw [e] at this
    exact this
  · have := mem_add (mem_mul m3 mq z1) (mem_mul (axis_z ▸ mem_one : Mem 1 axis17.z) mt z2) oz'
    have e : c * q + 1 * (s - q * c) = s := by grind
    rw [e] at this
    exact this
theorem R_rootK {d n : V} {r : Iv} (h : bYes d n r) : R (ivRoot (bK d n r)) := R_root.2 ⟨h.2.2.1, h.2.2.2.1⟩
/-- A way's own parts, by a length between. -/
theorem unit_pts {v : V} (h : RV (vecUnit v)) : ∃ a b c l1 l2 : Rat, Mem l1 (ivRoot (vecLen2 v)) ∧ Mem l2 (ivRoot (vecLen2 v)) ∧ 0 < l1 ∧ l1 ≤ l2 ∧ l1 * l1 ≤ a * a + b * b + c * c ∧ a * a + b * b + c * c ≤ l2 * l2 ∧
    ∀ l, Mem l (ivRoot (vecLen2 v)) → l ≠ 0 ∧ Mem (a / l) (vecUnit v).x ∧ Mem (b / l) (vecUnit v).y ∧ Mem (c / l) (vecUnit v).z := by
  have ux : R (ivDiv v.x (ivRoot (vecLen2 v))) := h.1
  have uy : R (ivDiv v.y (ivRoot (vecLen2 v))) := h.2.1
  have uz : R (ivDiv v.z (ivRoot (vecLen2 v))) := h.2.2
  obtain ⟨rx, rg, _⟩ := R_div ux
  obtain ⟨ry, _, _⟩ := R_div uy
  obtain ⟨rz, _, _⟩ := R_div uz
  obtain ⟨rl, l0⟩ := R_root.1 rg
  have rl' := rl
  unfold vecLen2 at rl'
  obtain ⟨h1, hz⟩ := R_args2 ivAdd_out rl'
  obtain ⟨hx, hy⟩ := R_args2 ivAdd_out h1
  have ma := mem_lo rx
  have mb := mem_lo ry
  have mc := mem_lo rz
  have mN : Mem ((v.x.lo : Rat) / 65536 * ((v.x.lo : Rat) / 65536) + (v.y.lo : Rat) / 65536 * ((v.y.lo : Rat) / 65536) + (v.z.lo : Rat) / 65536 * ((v.z.lo : Rat) / 65536)) (vecLen2 v) :=
    mem_add (mem_add (mem_sqr ma hx) (mem_sqr mb hy) h1) (mem_sqr mc hz) rl
  obtain ⟨e0, e1, e2, e3⟩ := root_ends mN rg
  have k1 := mem_div ma (mem_lo rg) ux
  refine ⟨_, _, _, _, _, mem_lo rg, mem_hi rg, ?_, ?_, e2, e3, fun l ml => ?_⟩
  · have := k1.1
    grind
  · grind
  · obtain ⟨n0, m1⟩ := mem_div ma ml ux
    exact ⟨n0, m1, (mem_div mb ml uy).2, (mem_div mc ml uz).2⟩
theorem mem_convex {x y z : Rat} {a : Iv} (hx : Mem x a) (hz : Mem z a) (h1 : x ≤ y) (h2 : y ≤ z) : Mem y a := by
  refine ⟨hx.1, ?_, ?_⟩
  · have := hx.2.1; grind
  · have := hz.2.2; grind
theorem sq_le_of {x y : Rat} (hx : 0 ≤ x) (hy : 0 ≤ y) (h : x * x ≤ y * y) : x ≤ y := by
  refine Rat.not_lt.1 fun hn => ?_
  have := Rat.mul_pos (show 0 < x - y by grind) (show 0 < x + y by grind)
  grind
/-- A root of what lies in an interval lies in the interval's root. -/
theorem mem_root {x s : Rat} {a : Iv} (hx : Mem x a) (h : R (ivRoot a)) (hs : 0 ≤ s) (e : s * s = x) : Mem s (ivRoot a) := by
  obtain ⟨e0, e1, e2, e3⟩ := root_ends hx h
  rw [← e] at e2 e3
  have k1 := sq_le_of (by grind) hs e2
  have k2 := sq_le_of hs (by grind) e3
  refine ⟨h, ?_, ?_⟩ <;> grind
end Go.Proofs.Ytbaihncnbejjbaa
