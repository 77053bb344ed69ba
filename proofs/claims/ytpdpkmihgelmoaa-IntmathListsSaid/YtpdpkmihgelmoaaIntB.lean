/-
  The walks of abs, sign, divide, divisible, Div, Mod, Ceil of intmath, and of the reference's.
-/
import Derived.Test.YtpdpkmihgelmoaaIntA
namespace Go.Proofs.Ytpdpkmihgelmoaa
open Go.RowKit

set_option maxHeartbeats 400000 in
theorem abs_any (n : Int) (w : World) (h : -4611686018427387904 ≤ n ∧ n ≤ 4611686018427387904) :
    Calls Try.prog 85 #[.int .i64 n] w fun e w' => e = .returned (.int .i64 (n.natAbs : Int)) ∧ w = w' := by
  obtain ⟨h1, h2⟩ := h
  by_cases h0 : n < 0
  · go_enter Try.func85, Try.ntmps85
    go_wp2
    go_ret
    exact ⟨ret_int (by omega), rfl⟩
  · go_enter Try.func85, Try.ntmps85
    go_wp2
    go_ret
    exact ⟨ret_int (by omega), rfl⟩

set_option maxHeartbeats 400000 in
theorem rabs_any (n : Int) (w : World) (h : -4611686018427387904 ≤ n ∧ n ≤ 4611686018427387904) :
    Calls Try.prog 93 #[.int .i64 n] w fun e w' => e = .returned (.int .i64 (n.natAbs : Int)) ∧ w = w' := by
  obtain ⟨h1, h2⟩ := h
  by_cases h0 : n < 0
  · go_enter Try.func93, Try.ntmps93
    go_wp2
    go_ret
    exact ⟨ret_int (by omega), rfl⟩
  · go_enter Try.func93, Try.ntmps93
    go_wp2
    go_ret
    exact ⟨ret_int (by omega), rfl⟩

set_option maxHeartbeats 400000 in
theorem sign_any (n : Int) (w : World) :
    Calls Try.prog 86 #[.int .i64 n] w fun e w' => e = .returned (.int .i64 n.sign) ∧ w = w' := by
  by_cases h0 : 0 < n
  · have hs := Lib.hid (Int.sign_eq_one_of_pos h0)
    go_enter Try.func86, Try.ntmps86
    go_wp2
    go_ret
    exact ⟨ret_int (by rw [hs.out]), rfl⟩
  · by_cases h1 : n < 0
    · have hs := Lib.hid (Int.sign_eq_neg_one_of_neg h1)
      go_enter Try.func86, Try.ntmps86
      go_wp2
      go_ret
      exact ⟨ret_int (by rw [hs.out]), rfl⟩
    · obtain rfl : n = 0 := by omega
      go_enter Try.func86, Try.ntmps86
      go_wp2
      go_ret
      exact ⟨rfl, rfl⟩

theorem tdiv_in (a b : Int) (ha : -4611686018427387904 ≤ a ∧ a ≤ 4611686018427387904) (_hb : b ≠ 0) : -4611686018427387904 ≤ a.tdiv b ∧ a.tdiv b ≤ 4611686018427387904 := by
  have h1 : (a.tdiv b).natAbs = a.natAbs / b.natAbs := Int.natAbs_tdiv a b
  have h2 := Nat.div_le_self a.natAbs b.natAbs
  generalize a.natAbs / b.natAbs = q at *
  omega
theorem tmod_in (a b : Int) (hb : b ≠ 0) : -(b.natAbs : Int) < a.tmod b ∧ a.tmod b < (b.natAbs : Int) := by
  have h1 : (a.tmod b).natAbs = a.natAbs % b.natAbs := Int.natAbs_tmod a b
  have h2 := Nat.mod_lt a.natAbs (show 0 < b.natAbs by omega)
  omega

theorem quot_uniq (b q1 q2 r1 r2 : Int) (h : b * q1 + r1 = b * q2 + r2) (h1 : 0 < b → 0 ≤ r1 ∧ r1 < b ∧ 0 ≤ r2 ∧ r2 < b) (h2 : b < 0 → r1 ≤ 0 ∧ b < r1 ∧ r2 ≤ 0 ∧ b < r2) (h0 : ¬ b = 0) : q1 = q2 ∧ r1 = r2 := by
  have e : b * (q1 - q2) = r2 - r1 := by rw [Int.mul_sub]; omega
  have hq : q1 - q2 = 0 := by
    refine Classical.byContradiction fun hne => ?_
    have h3 : b.natAbs ≤ (b * (q1 - q2)).natAbs := by
      rw [Int.natAbs_mul]
      exact Nat.le_mul_of_pos_right _ (by omega)
    rw [e] at h3
    omega
  rw [hq] at e
  omega
theorem fdiv_facts (a b : Int) (_h0 : ¬ b = 0) : b * a.fdiv b + a.fmod b = a ∧ (0 < b → 0 ≤ a.fmod b ∧ a.fmod b < b) ∧ (b < 0 → a.fmod b ≤ 0 ∧ b < a.fmod b) := by
  refine ⟨Int.mul_fdiv_add_fmod a b, fun h => ⟨Int.fmod_nonneg_of_pos a h, Int.fmod_lt_of_pos a h⟩, fun h => ?_⟩
  have e : a.fmod b = -((-a).fmod (-b)) := by rw [Int.neg_fmod_neg, Int.neg_neg]
  have h1 := Int.fmod_nonneg_of_pos (-a) (show 0 < -b by omega)
  have h2 := Int.fmod_lt_of_pos (-a) (show 0 < -b by omega)
  omega
theorem tdiv_facts (a b : Int) (h0 : ¬ b = 0) : b * a.tdiv b + a.tmod b = a ∧ -(b.natAbs : Int) < a.tmod b ∧ a.tmod b < (b.natAbs : Int) :=
  ⟨Int.mul_tdiv_add_tmod a b, tmod_in a b h0⟩
theorem fd_adj (a b : Int) (h0 : ¬ b = 0) (h : (a.tmod b == 0) = false) (h2 : (!decide (a.tmod b < 0) == decide (b < 0)) = true) : a.tdiv b - 1 = a.fdiv b ∧ a.tmod b + b = a.fmod b := by
  obtain ⟨e1, p1, p2⟩ := fdiv_facts a b h0
  obtain ⟨e2, p3, p4⟩ := tdiv_facts a b h0
  have h' : ¬ a.tmod b = 0 := by simpa using h
  have h2' : ¬ (a.tmod b < 0 ↔ b < 0) := by
    intro hi
    by_cases hb : b < 0 <;> simp [hb, hi] at h2
  have e3 : b * (a.tdiv b - 1) + (a.tmod b + b) = b * a.fdiv b + a.fmod b := by rw [Int.mul_sub]; omega
  exact quot_uniq b _ _ _ _ e3 (fun hb => by have := p1 hb; omega) (fun hb => by have := p2 hb; omega) h0
theorem fd_same (a b : Int) (h0 : ¬ b = 0) (h : (a.tmod b == 0) = false) (h2 : (!decide (a.tmod b < 0) == decide (b < 0)) = false) : a.tdiv b = a.fdiv b ∧ a.tmod b = a.fmod b := by
  obtain ⟨e1, p1, p2⟩ := fdiv_facts a b h0
  obtain ⟨e2, p3, p4⟩ := tdiv_facts a b h0
  have h' : ¬ a.tmod b = 0 := by simpa using h
  have h2' : (a.tmod b < 0 ↔ b < 0) := by
    by_cases hb : b < 0 <;> simp [hb] at h2 <;> simp [hb, h2] <;> omega
  exact quot_uniq b _ _ _ _ (e2.trans e1.symm) (fun hb => by have := p1 hb; omega) (fun hb => by have := p2 hb; omega) h0
theorem fd_zero (a b : Int) (h0 : ¬ b = 0) (h : (a.tmod b == 0) = true) : a.tdiv b = a.fdiv b ∧ a.tmod b = a.fmod b := by
  obtain ⟨e1, p1, p2⟩ := fdiv_facts a b h0
  obtain ⟨e2, p3, p4⟩ := tdiv_facts a b h0
  have h' : a.tmod b = 0 := by simpa using h
  exact quot_uniq b _ _ _ _ (e2.trans e1.symm) (fun hb => by have := p1 hb; omega) (fun hb => by have := p2 hb; omega) h0
theorem ret_two {k l : IntKind} {a b c d : Int} (h : a = c ∧ b = d) : Ending.returned (.tuple #[.int k a, .int l b]) = .returned (.tuple #[.int k c, .int l d]) := by rw [h.1, h.2]

set_option maxHeartbeats 400000 in
theorem divide_any (a b : Int) (w : World) (ha : -4611686018427387904 ≤ a ∧ a ≤ 4611686018427387904) (hb : -4611686018427387904 ≤ b ∧ b ≤ 4611686018427387904) (h0 : ¬ b = 0) :
    Calls Try.prog 72 #[.int .i64 a, .int .i64 b] w fun e w' => e = .returned (.tuple #[.int .i64 (a.fdiv b), .int .i64 (a.fmod b)]) ∧ ∃ n, w' = w.drewN n := by
  have hq := tdiv_in a b ha h0
  have hr := tmod_in a b h0
  obtain ⟨ha1, ha2⟩ := ha
  obtain ⟨hb1, hb2⟩ := hb
  have h0' : (b == 0) = false := beq_eq_false_iff_ne.2 h0
  go_enter Try.func72, Try.ntmps72
  go_wp2
  go_quiet (fail)
  go_wp2
  all_goals go_ret2
  · exact ⟨ret_two (fd_zero a b h0 ‹_›), _, rfl⟩
  · exact ⟨ret_two (fd_adj a b h0 ‹_› ‹_›), _, rfl⟩
  · exact ⟨ret_two (fd_same a b h0 ‹_› ‹_›), _, rfl⟩
end Go.Proofs.Ytpdpkmihgelmoaa
