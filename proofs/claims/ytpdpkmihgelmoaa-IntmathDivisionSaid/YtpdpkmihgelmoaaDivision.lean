/-
  The walk of IntmathDivision: for all numbers the law returns true.
-/
import Derived.Test.YtpdpkmihgelmoaaLaw3
namespace Go.Proofs.Ytpdpkmihgelmoaa
open Go.RowKit

theorem awake3_hid : Hid (∀ w : World, Calls Try.prog 15 #[] w fun e w' => e = .returned (.bool true) ∧ Below w.heap.size w w') := Lib.hid awake3

theorem div_sum (a b : Int) (ha : -4611686018427387904 ≤ a ∧ a ≤ 4611686018427387904) (hb : -4611686018427387904 ≤ b ∧ b ≤ 4611686018427387904) (h0 : ¬ b = 0) :
    a.fdiv b * b + a.fmod b = a ∧ -9223372036854775807 ≤ a.fdiv b * b ∧ a.fdiv b * b ≤ 9223372036854775807 := by
  obtain ⟨e, p1, p2⟩ := fdiv_facts a b h0
  rw [Int.mul_comm] at e
  refine ⟨e, ?_⟩
  rcases Int.lt_or_lt_of_ne h0 with h | h
  · have := p2 h; omega
  · have := p1 h; omega

set_option maxRecDepth 20000 in
set_option maxHeartbeats 2000000 in
theorem division_walk (a b : Int) (_wa : (Lit.int .i64 a).wf = true) (_wb : (Lit.int .i64 b).wf = true) (w : World) :
    Calls Try.prog 3 #[.int .i64 a, .int .i64 b] w fun e w' => e = .returned (.bool true) ∧ Below w.heap.size w w' := by
  have HW := awake3_hid
  clear _wa _wb
  cases hra : rng a
  · go_enter Try.func3, Try.ntmps3
    go_wp2_with (first
      | (go_at_call 15; refine (HW.out _).mono ?_; rintro e w1 ⟨rfl, hb1⟩)
      | (go_at_call 16; refine (In_any _ _).mono ?_; rintro e w2 ⟨rfl, rfl⟩))
    go_ret
    exact ⟨rfl, hb1⟩
  · cases hrb : rng b
    · go_enter Try.func3, Try.ntmps3
      go_wp2_with (first
        | (go_at_call 15; refine (HW.out _).mono ?_; rintro e w1 ⟨rfl, hb1⟩)
        | (go_at_call 16; refine (In_any _ _).mono ?_; rintro e w2 ⟨rfl, rfl⟩))
      go_ret
      exact ⟨rfl, hb1⟩
    · by_cases h0 : b = 0
      · subst h0
        go_enter Try.func3, Try.ntmps3
        go_wp2_with (first
          | (go_at_call 15; refine (HW.out _).mono ?_; rintro e w1 ⟨rfl, hb1⟩)
          | (go_at_call 16; refine (In_any _ _).mono ?_; rintro e w2 ⟨rfl, rfl⟩))
        go_ret
        exact ⟨rfl, hb1⟩
      · have h0' : (b == 0) = false := beq_eq_false_iff_ne.2 h0
        have ha := rng_yes hra
        have hb := rng_yes hrb
        have hna : rng (-a) = true := by rw [rng_neg]; exact hra
        have c1 := fun w => Div_any a b w
        have e1 : vDiv Int.fdiv a b = a.fdiv b := by simp [vDiv, hra, hrb, h0']
        have e2 : eDiv a b = 0 := by simp [eDiv, hra, hrb, h0']
        rw [e1, e2] at c1
        have c2 := fun w => Mod_any a b w
        have e3 : vDiv Int.fmod a b = a.fmod b := by simp [vDiv, hra, hrb, h0']
        rw [e3, e2] at c2
        have c3 := fun w => Ceil_any a b w
        have e4 : vDiv cdiv a b = -((-a).fdiv b) := by simp [vDiv, hra, hrb, h0', cdiv]
        rw [e4, e2] at c3
        have c4 := fun w => Div_any (-a) b w
        have e5 : vDiv Int.fdiv (-a) b = (-a).fdiv b := by simp [vDiv, hna, hrb, h0']
        have e6 : eDiv (-a) b = 0 := by simp [eDiv, hna, hrb, h0']
        rw [e5, e6] at c4
        obtain ⟨s1, s2, s3⟩ := div_sum a b ha hb h0
        obtain ⟨-, f1, f2⟩ := fdiv_facts a b h0
        have g1 := fdiv_in a b ha h0
        have g2 := fdiv_in (-a) b (by omega) h0
        have k1 := cdiv_zero a b h0
        have k2 := cdiv_more a b h0
        unfold cdiv at k1 k2
        generalize a.fdiv b = q at *
        generalize a.fmod b = m at *
        generalize (-a).fdiv b = d at *
        have C1 := Lib.hid c1
        have C2 := Lib.hid c2
        have C3 := Lib.hid c3
        have C4 := Lib.hid c4
        have s4 : -4611686018427387904 ≤ q * b + m ∧ q * b + m ≤ 4611686018427387904 := by omega
        have t1 : (q * b + m == a) = true := by simpa using s1
        have t2 : (q * b + m != a) = false := by simpa using s1
        have hfin : Hid (((-d == q) == (m == 0)) = true) := Lib.hid (by
          have : (-d == q) = (m == 0) := by
            rw [Bool.eq_iff_iff, beq_iff_eq, beq_iff_eq]
            by_cases hm : m = 0
            · have := k1 hm; omega
            · have := k2 hm; omega
          rw [this]
          exact beq_self_eq_true _)
        clear c1 c2 c3 c4 e1 e2 e3 e4 e5 e6 k1 k2 s1 hna
        by_cases hpos : 0 < b
        · obtain ⟨n1, n2⟩ := f1 hpos
          clear f1 f2
          go_enter Try.func3, Try.ntmps3
          go_wp2_with (first
            | (go_at_call 15; refine (HW.out _).mono ?_; rintro e w1 ⟨rfl, hb1⟩)
            | (go_at_call 16; refine (In_any _ _).mono ?_; rintro e w2 ⟨rfl, rfl⟩)
            | (go_at_call 17; ((with_reducible refine (C1.out _).mono ?_); rintro e w3 ⟨rfl, hb3⟩))
            | (go_at_call 18; refine (C2.out _).mono ?_; rintro e w4 ⟨rfl, hb4⟩)
            | (go_at_call 19; refine (C3.out _).mono ?_; rintro e w5 ⟨rfl, hb5⟩)
            | (go_at_call 17; ((with_reducible refine (C4.out _).mono ?_); rintro e w6 ⟨rfl, hb6⟩)))
          go_ret
          exact ⟨ret_bool (by first | exact hfin.out | simpa using hfin.out), below_then (below_then (below_then (below_then hb1 hb3) hb4) hb5) hb6⟩
        · obtain ⟨n1, n2⟩ := f2 (by omega)
          clear f1 f2
          go_enter Try.func3, Try.ntmps3
          go_wp2_with (first
            | (go_at_call 15; refine (HW.out _).mono ?_; rintro e w1 ⟨rfl, hb1⟩)
            | (go_at_call 16; refine (In_any _ _).mono ?_; rintro e w2 ⟨rfl, rfl⟩)
            | (go_at_call 17; ((with_reducible refine (C1.out _).mono ?_); rintro e w3 ⟨rfl, hb3⟩))
            | (go_at_call 18; refine (C2.out _).mono ?_; rintro e w4 ⟨rfl, hb4⟩)
            | (go_at_call 19; refine (C3.out _).mono ?_; rintro e w5 ⟨rfl, hb5⟩)
            | (go_at_call 17; ((with_reducible refine (C4.out _).mono ?_); rintro e w6 ⟨rfl, hb6⟩)))
          go_ret
          exact ⟨ret_bool (by first | exact hfin.out | simpa using hfin.out), below_then (below_then (below_then (below_then hb1 hb3) hb4) hb5) hb6⟩
end Go.Proofs.Ytpdpkmihgelmoaa
