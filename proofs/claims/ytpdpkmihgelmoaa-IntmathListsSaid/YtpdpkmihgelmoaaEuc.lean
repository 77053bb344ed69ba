/-
  The plain arithmetic of the extended Euclidean algorithm. No program in sight.
-/
import Derived.Below
namespace Go.Proofs.Ytpdpkmihgelmoaa

/-- One sign of the extended Euclidean rows: the signs of the coefficients, and the two products that stay. -/
def EuS (A B r0 r1 x0 x1 y0 y1 : Int) : Prop := 0 ≤ x0 ∧ x1 ≤ 0 ∧ y0 ≤ 0 ∧ 0 ≤ y1 ∧ x0 * r1 - x1 * r0 = B ∧ y1 * r0 - y0 * r1 = A
/-- The rows: r = A x + B y. -/
def Eu (A B r0 r1 x0 x1 y0 y1 : Int) : Prop :=
  r0 = A * x0 + B * y0 ∧ r1 = A * x1 + B * y1 ∧ (EuS A B r0 r1 x0 x1 y0 y1 ∨ EuS A B r0 r1 (-x0) (-x1) (-y0) (-y1))

theorem Eu_start (A B : Int) : Eu A B A B 1 0 0 1 := by
  refine ⟨by omega, by omega, .inl ⟨by omega, by omega, by omega, by omega, by omega, by omega⟩⟩

theorem le_mul_pos {x r : Int} (hx : 0 ≤ x) (hr : 1 ≤ r) : x ≤ x * r := by
  have := Int.mul_le_mul_of_nonneg_left hr hx
  omega

/-- One step at one sign. -/
theorem EuS_step {A B r0 r1 x0 x1 y0 y1 q : Int} (h : EuS A B r0 r1 x0 x1 y0 y1) (hq : 0 ≤ q) : EuS A B r1 (r0 - q * r1) (-x1) (-(x0 - q * x1)) (-y1) (-(y0 - q * y1)) := by
  obtain ⟨h1, h2, h3, h4, h5, h6⟩ := h
  have p1 : 0 ≤ q * (-x1) := Int.mul_nonneg hq (by omega)
  have p2 : 0 ≤ q * y1 := Int.mul_nonneg hq h4
  rw [Int.mul_neg] at p1
  refine ⟨by omega, by omega, by omega, by omega, ?_, ?_⟩
  · have e1 : -x1 * (r0 - q * r1) = -(x1 * r0) + x1 * (q * r1) := by rw [Int.neg_mul, Int.mul_sub]; omega
    have e2 : -(x0 - q * x1) * r1 = -(x0 * r1) + (q * x1) * r1 := by rw [Int.neg_mul, Int.sub_mul]; omega
    have e3 : (q * x1) * r1 = x1 * (q * r1) := by rw [Int.mul_comm q x1, Int.mul_assoc]
    rw [e1, e2, e3]
    omega
  · have e1 : -y1 * (r0 - q * r1) = -(y1 * r0) + y1 * (q * r1) := by rw [Int.neg_mul, Int.mul_sub]; omega
    have e2 : -(y0 - q * y1) * r1 = -(y0 * r1) + (q * y1) * r1 := by rw [Int.neg_mul, Int.sub_mul]; omega
    have e3 : (q * y1) * r1 = y1 * (q * r1) := by rw [Int.mul_comm q y1, Int.mul_assoc]
    rw [e1, e2, e3]
    omega

theorem neg_step (x q y : Int) : -(-x - q * -y) = x - q * y := by rw [Int.mul_neg]; omega
theorem neg_step' (x q y : Int) : -x - q * -y = -(x - q * y) := by rw [Int.mul_neg]; omega

theorem Eu_step {A B r0 r1 x0 x1 y0 y1 q : Int} (h : Eu A B r0 r1 x0 x1 y0 y1) (hq : 0 ≤ q) : Eu A B r1 (r0 - q * r1) x1 (x0 - q * x1) y1 (y0 - q * y1) := by
  obtain ⟨e0, e1, hs⟩ := h
  refine ⟨e1, ?_, ?_⟩
  · have a1 : A * (x0 - q * x1) = A * x0 - q * (A * x1) := by rw [Int.mul_sub, Int.mul_left_comm]
    have a2 : B * (y0 - q * y1) = B * y0 - q * (B * y1) := by rw [Int.mul_sub, Int.mul_left_comm]
    rw [a1, a2, e1, e0, Int.mul_add]
    omega
  · rcases hs with hs | hs
    · exact .inr (EuS_step hs hq)
    · have := EuS_step hs hq
      rw [Int.neg_neg, Int.neg_neg, neg_step, neg_step] at this
      exact .inl this

/-- The new coefficients behind a step whose divisor is positive are at most B and A. -/
theorem EuS_bound {A B r0 r1 x0 x1 y0 y1 : Int} (h : EuS A B r0 r1 x0 x1 y0 y1) (h0 : 1 ≤ r0) (h1 : 0 ≤ r1) : -B ≤ x1 ∧ x1 ≤ 0 ∧ 0 ≤ y1 ∧ y1 ≤ A := by
  obtain ⟨p1, p2, p3, p4, p5, p6⟩ := h
  have q1 : -x1 ≤ (-x1) * r0 := le_mul_pos (by omega) h0
  have q2 : y1 ≤ y1 * r0 := le_mul_pos p4 h0
  have q3 : 0 ≤ x0 * r1 := Int.mul_nonneg p1 h1
  have q4 : 0 ≤ (-y0) * r1 := Int.mul_nonneg (by omega) h1
  rw [Int.neg_mul] at q1 q4
  omega
theorem Eu_bound {A B r0 r1 x0 x1 y0 y1 : Int} (h : Eu A B r0 r1 x0 x1 y0 y1) (h0 : 1 ≤ r0) (h1 : 0 ≤ r1) : (-B ≤ x1 ∧ x1 ≤ B) ∧ (-A ≤ y1 ∧ y1 ≤ A) := by
  obtain ⟨-, -, hs⟩ := h
  rcases hs with hs | hs
  · have := EuS_bound hs h0 h1; omega
  · have := EuS_bound hs h0 h1; omega
/-- The rows' own coefficients (not the new ones) are small as well. -/
theorem EuS_old {A B r0 r1 x0 x1 y0 y1 : Int} (h : EuS A B r0 r1 x0 x1 y0 y1) (h0 : 0 ≤ r0) (h1 : 1 ≤ r1) : 0 ≤ x0 ∧ x0 ≤ B ∧ -A ≤ y0 ∧ y0 ≤ 0 := by
  obtain ⟨p1, p2, p3, p4, p5, p6⟩ := h
  have q1 : x0 ≤ x0 * r1 := le_mul_pos p1 h1
  have q2 : -y0 ≤ (-y0) * r1 := le_mul_pos (by omega) h1
  have q3 : 0 ≤ (-x1) * r0 := Int.mul_nonneg (by omega) h0
  have q4 : 0 ≤ y1 * r0 := Int.mul_nonneg p4 h0
  rw [Int.neg_mul] at q2 q3
  omega
theorem Eu_old {A B r0 r1 x0 x1 y0 y1 : Int} (h : Eu A B r0 r1 x0 x1 y0 y1) (h0 : 0 ≤ r0) (h1 : 1 ≤ r1) : (-B ≤ x0 ∧ x0 ≤ B) ∧ (-A ≤ y0 ∧ y0 ≤ A) := by
  obtain ⟨-, -, hs⟩ := h
  rcases hs with hs | hs
  · have := EuS_old hs h0 h1; omega
  · have := EuS_old hs h0 h1; omega

/-- The product in a step does not pass the new coefficient. -/
theorem EuS_prod {A B r0 r1 x0 x1 y0 y1 q : Int} (h : EuS A B r0 r1 x0 x1 y0 y1) (hq : 0 ≤ q) : -(x0 - q * x1) ≤ q * x1 ∧ q * x1 ≤ 0 ∧ 0 ≤ q * y1 ∧ q * y1 ≤ -(y0 - q * y1) := by
  obtain ⟨p1, p2, p3, p4, p5, p6⟩ := h
  have q1 : 0 ≤ q * (-x1) := Int.mul_nonneg hq (by omega)
  have q2 : 0 ≤ q * y1 := Int.mul_nonneg hq p4
  rw [Int.mul_neg] at q1
  omega
theorem Eu_prod {A B r0 r1 x0 x1 y0 y1 q : Int} (h : Eu A B r0 r1 x0 x1 y0 y1) (hq : 0 ≤ q) :
    (q * x1).natAbs ≤ (x0 - q * x1).natAbs ∧ (q * y1).natAbs ≤ (y0 - q * y1).natAbs := by
  obtain ⟨-, -, hs⟩ := h
  rcases hs with hs | hs
  · have := EuS_prod hs hq; omega
  · have := EuS_prod hs hq
    rw [Int.mul_neg, Int.mul_neg] at this
    omega

/-- All that one round of the loop needs: the bounds of each product and each new number. -/
theorem Eu_round {A B r0 r1 x0 x1 y0 y1 : Int} (h : Eu A B r0 r1 x0 x1 y0 y1) (h0 : 0 ≤ r0) (h1 : 1 ≤ r1) :
    0 ≤ r0 / r1 ∧ r0 / r1 ≤ r0 ∧ 0 ≤ r0 / r1 * r1 ∧ r0 / r1 * r1 ≤ r0 ∧ r0 - r0 / r1 * r1 = r0 % r1 ∧
    (r0 / r1 * x1).natAbs ≤ B.natAbs ∧ (r0 / r1 * y1).natAbs ≤ A.natAbs ∧ (x0 - r0 / r1 * x1).natAbs ≤ B.natAbs ∧ (y0 - r0 / r1 * y1).natAbs ≤ A.natAbs := by
  have q0 : 0 ≤ r0 / r1 := Int.ediv_nonneg h0 (by omega)
  have q1 : r0 / r1 ≤ r0 := by
    have := Int.ediv_le_self r1 h0
    exact this
  have e := Int.mul_ediv_add_emod r0 r1
  have m0 := Int.emod_nonneg r0 (show r1 ≠ 0 by omega)
  rw [Int.mul_comm] at e
  have q2 : 0 ≤ r0 / r1 * r1 := Int.mul_nonneg q0 (by omega)
  have hs := Eu_step (q := r0 / r1) h q0
  have hb := Eu_bound hs h1 (by omega)
  have hp := Eu_prod (q := r0 / r1) h q0
  generalize r0 / r1 * x1 = X at *
  generalize r0 / r1 * y1 = Y at *
  generalize r0 / r1 * r1 = R at *
  omega

/-- Behind the loop: the last row's coefficients are the others' quotients. -/
theorem Eu_end {A B g x0 x1 y0 y1 : Int} (h : Eu A B g 0 x0 x1 y0 y1) : g = A * x0 + B * y0 := h.1


/-- The pair that Bezout returns for b ≠ 0. -/
def BezOK (a b g x y : Int) : Prop := a * x + b * y = g ∧ 0 ≤ x ∧ x < ((b.natAbs : Int) / g)

theorem bez_signs {a b g x0 y0 : Int} (h : g = (a.natAbs : Int) * x0 + (b.natAbs : Int) * y0) : a * (x0 * a.sign) + b * (y0 * b.sign) = g := by
  have h1 : a * (x0 * a.sign) = (a.natAbs : Int) * x0 := by rw [Int.mul_left_comm, Int.mul_sign_self, Int.mul_comm]
  have h2 : b * (y0 * b.sign) = (b.natAbs : Int) * y0 := by rw [Int.mul_left_comm, Int.mul_sign_self, Int.mul_comm]
  rw [h1, h2, h]
theorem sign_mul_le (x s : Int) (hs : s = 1 ∨ s = -1 ∨ s = 0) : (x * s).natAbs ≤ x.natAbs := by
  rcases hs with rfl | rfl | rfl <;> omega
theorem sign_cases (a : Int) : a.sign = 1 ∨ a.sign = -1 ∨ a.sign = 0 := by
  rcases Int.lt_trichotomy a 0 with h | h | h
  · exact .inr (.inl (Int.sign_eq_neg_one_of_neg h))
  · exact .inr (.inr (by rw [h]; rfl))
  · exact .inl (Int.sign_eq_one_of_pos h)

/-- One turn by the steps keeps the sum. -/
theorem bez_turn {a b g : Int} (hg : g ∣ a) (hb : g ∣ b) (h1 : 1 ≤ g) : a * ((b.natAbs : Int) / g) = b * (a / g * b.sign) := by
  obtain ⟨k, rfl⟩ := hg
  obtain ⟨l, rfl⟩ := hb
  have hg0 : g ≠ 0 := by omega
  rw [Int.mul_ediv_cancel_left _ hg0]
  have e : ((g * l).natAbs : Int) = g * (l.natAbs : Int) := by rw [Int.natAbs_mul, Int.natCast_mul, Int.natAbs_of_nonneg (by omega)]
  rw [e, Int.mul_ediv_cancel_left _ hg0, Int.sign_mul, Int.sign_eq_one_of_pos (by omega), Int.one_mul]
  have e2 : g * l * (k * l.sign) = g * k * (l * l.sign) := by
    simp only [Int.mul_assoc, Int.mul_left_comm]
  rw [e2, Int.mul_sign_self]
/-- y is bounded, since b y is. -/
theorem bez_y {a b g x y : Int} (h : a * x + b * y = g) (hx : x.natAbs ≤ b.natAbs) (h0 : 0 ≤ g) (hg : g.natAbs ≤ b.natAbs) (hb : b ≠ 0) : y.natAbs ≤ a.natAbs + 1 := by
  have h1 : b * y = g - a * x := by omega
  have h2 : (b * y).natAbs ≤ b.natAbs * (a.natAbs + 1) := by
    rw [h1]
    have h3 : (a * x).natAbs ≤ b.natAbs * a.natAbs := by
      rw [Int.natAbs_mul, Nat.mul_comm]
      exact Nat.mul_le_mul_right _ hx
    rw [Nat.mul_add]
    omega
  rw [Int.natAbs_mul] at h2
  exact Nat.le_of_mul_le_mul_left h2 (by omega)
/-- There is one such pair alone. -/
theorem bez_one {a b g x y u v : Int} (hb : b ≠ 0) (hga : g ∣ a) (hgb : g ∣ b) (hg : g = (Int.gcd a b : Int)) (h : BezOK a b g x y) (k : BezOK a b g u v) : x = u ∧ y = v := by
  obtain ⟨h1, h2, h3⟩ := h
  obtain ⟨k1, k2, k3⟩ := k
  have hg1 : 1 ≤ g := by
    have := Int.gcd_pos_iff.2 (Or.inr hb : a ≠ 0 ∨ b ≠ 0)
    omega
  have hxu : x = u := by
    have e : a * (x - u) = b * (v - y) := by rw [Int.mul_sub, Int.mul_sub]; omega
    obtain ⟨l, hl⟩ := hgb
    obtain ⟨m, hm⟩ := hga
    have hg0 : g ≠ 0 := by omega
    have e2 : m * (x - u) = l * (v - y) := by
      have : g * (m * (x - u)) = g * (l * (v - y)) := by rw [← Int.mul_assoc, ← Int.mul_assoc, ← hm, ← hl]; exact e
      exact Int.eq_of_mul_eq_mul_left hg0 this
    have hco : Int.gcd l m = 1 := by
      have e3 : Int.gcd a b = g.natAbs * Int.gcd m l := by rw [hm, hl, Int.gcd_mul_left]
      have e4 : g.natAbs = Int.gcd a b := by omega
      rw [Int.gcd_comm]
      have : g.natAbs * Int.gcd m l = g.natAbs * 1 := by omega
      exact Nat.eq_of_mul_eq_mul_left (by omega) this
    have hd : l ∣ x - u := by
      have : l ∣ m * (x - u) := ⟨v - y, e2⟩
      have h5 : l.natAbs ∣ m.natAbs * (x - u).natAbs := by
        rw [← Int.natAbs_mul]
        exact Int.natAbs_dvd_natAbs.2 this
      have h6 : Nat.Coprime l.natAbs m.natAbs := hco
      exact Int.natAbs_dvd_natAbs.1 (h6.dvd_of_dvd_mul_left h5)
    have hbl : (b.natAbs : Int) / g = (l.natAbs : Int) := by
      rw [hl, Int.natAbs_mul, Int.natCast_mul, Int.natAbs_of_nonneg (a := g) (by omega), Int.mul_ediv_cancel_left _ hg0]
    rw [hbl] at h3 k3
    obtain ⟨t, ht⟩ := hd
    have hle : (x - u).natAbs < l.natAbs := by omega
    rw [ht, Int.natAbs_mul] at hle
    have ht0 : t.natAbs = 0 := by
      refine Classical.byContradiction fun hne => ?_
      have := Nat.le_mul_of_pos_right l.natAbs (show 0 < t.natAbs by omega)
      omega
    have : t = 0 := by omega
    subst this
    omega
  subst hxu
  refine ⟨rfl, ?_⟩
  have : b * y = b * v := by omega
  exact Int.eq_of_mul_eq_mul_left hb this
end Go.Proofs.Ytpdpkmihgelmoaa
