/-
  The walks of total.add and total.value of intmath: sums of positive and of negative parts in three words each.
-/
import Derived.Test.YtpdpkmihgelmoaaIntG
namespace Go.Proofs.Ytpdpkmihgelmoaa
open Go.RowKit

/-- The three words of a number. -/
def wd0 (n : Nat) : Nat := n % 18446744073709551616
def wd1 (n : Nat) : Nat := n / 18446744073709551616 % 18446744073709551616
def wd2 (n : Nat) : Nat := n / 340282366920938463463374607431768211456
def trip (P N : Nat) : Array Value := #[.int .u64 (wd0 P : Int), .int .u64 (wd1 P : Int), .int .u64 (wd2 P : Int), .int .u64 (wd0 N : Int), .int .u64 (wd1 N : Int), .int .u64 (wd2 N : Int)]

/-- The carry chain over three words, each step by a call of Add64 under a name. -/
theorem chain_add (P x : Nat) (hx : x < 340282366920938463463374607431768211456) (h : P + x < 6277101735386680763835789423207666416102355444464034512896) :
    ∃ c0 c1 c2 : Nat,
      (∀ w, (callFunc 91 #[.int .u64 (wd0 P : Int), .int .u64 ((x % 18446744073709551616 : Nat) : Int), .int .u64 0]).run Try.prog w = .ok (.value (.tuple #[.int .u64 (wd0 (P + x) : Int), .int .u64 (c0 : Int)])) w) ∧
      (∀ w, (callFunc 91 #[.int .u64 (wd1 P : Int), .int .u64 ((x / 18446744073709551616 : Nat) : Int), .int .u64 (c0 : Int)]).run Try.prog w = .ok (.value (.tuple #[.int .u64 (wd1 (P + x) : Int), .int .u64 (c1 : Int)])) w) ∧
      (∀ w, (callFunc 91 #[.int .u64 (wd2 P : Int), .int .u64 0, .int .u64 (c1 : Int)]).run Try.prog w = .ok (.value (.tuple #[.int .u64 (wd2 (P + x) : Int), .int .u64 (c2 : Int)])) w) := by
  have e1 := fun c (hc : c ≤ 1) w => bAdd64 (wd0 P) (x % 18446744073709551616) c hc w
  have e2 := fun c (hc : c ≤ 1) w => bAdd64 (wd1 P) (x / 18446744073709551616) c hc w
  have e3 := fun c (hc : c ≤ 1) w => bAdd64 (wd2 P) 0 c hc w
  refine ⟨(wd0 P + x % 18446744073709551616 + 0) / 18446744073709551616, (wd1 P + x / 18446744073709551616 + (wd0 P + x % 18446744073709551616 + 0) / 18446744073709551616) / 18446744073709551616,
    (wd2 P + 0 + (wd1 P + x / 18446744073709551616 + (wd0 P + x % 18446744073709551616 + 0) / 18446744073709551616) / 18446744073709551616) / 18446744073709551616, fun w => ?_, fun w => ?_, fun w => ?_⟩
  · refine (e1 0 (by omega) w).trans ?_
    congr 7
    unfold wd0; omega
  · refine (e2 _ (by unfold wd0; omega) w).trans ?_
    congr 7
    unfold wd0 wd1; omega
  · refine (e3 _ (by unfold wd0 wd1; omega) w).trans ?_
    congr 7
    unfold wd0 wd1 wd2; omega

/-- Mul64 of two absolute values, then the carry chain: all under names. -/
theorem add_runs (P : Nat) (a b : Int) (ha : -4611686018427387904 ≤ a ∧ a ≤ 4611686018427387904) (hb : -4611686018427387904 ≤ b ∧ b ≤ 4611686018427387904)
    (h : P + a.natAbs * b.natAbs < 6277101735386680763835789423207666416102355444464034512896) :
    ∃ lo hi c0 c1 c2 : Nat,
      (∀ w, Calls Try.prog 92 #[.int .u64 (a.natAbs : Int), .int .u64 (b.natAbs : Int)] w fun e w' => e = .returned (.tuple #[.int .u64 (hi : Int), .int .u64 (lo : Int)]) ∧ w = w') ∧
      (∀ w, (callFunc 91 #[.int .u64 (wd0 P : Int), .int .u64 (lo : Int), .int .u64 0]).run Try.prog w = .ok (.value (.tuple #[.int .u64 (wd0 (P + a.natAbs * b.natAbs) : Int), .int .u64 (c0 : Int)])) w) ∧
      (∀ w, (callFunc 91 #[.int .u64 (wd1 P : Int), .int .u64 (hi : Int), .int .u64 (c0 : Int)]).run Try.prog w = .ok (.value (.tuple #[.int .u64 (wd1 (P + a.natAbs * b.natAbs) : Int), .int .u64 (c1 : Int)])) w) ∧
      (∀ w, (callFunc 91 #[.int .u64 (wd2 P : Int), .int .u64 0, .int .u64 (c1 : Int)]).run Try.prog w = .ok (.value (.tuple #[.int .u64 (wd2 (P + a.natAbs * b.natAbs) : Int), .int .u64 (c2 : Int)])) w) := by
  have hm := fun w => bMul64 a.natAbs b.natAbs (by omega) (by omega) w
  have hx : a.natAbs * b.natAbs < 340282366920938463463374607431768211456 := by
    have := Nat.mul_le_mul (show a.natAbs ≤ 4611686018427387904 by omega) (show b.natAbs ≤ 4611686018427387904 by omega)
    omega
  generalize a.natAbs * b.natAbs = x at *
  obtain ⟨c0, c1, c2, h0, h1, h2⟩ := chain_add P x hx h
  exact ⟨_, _, c0, c1, c2, fun w => (hm w).mono fun e w' ⟨he, hw⟩ => ⟨he, hw.symm⟩, h0, h1, h2⟩

theorem trip_pos (P N Q : Nat) : (((trip P N).setIfInBounds 0 (.int .u64 (wd0 Q : Int))).setIfInBounds 1 (.int .u64 (wd1 Q : Int))).setIfInBounds 2 (.int .u64 (wd2 Q : Int)) = trip Q N := by simp [trip]
theorem trip_neg (P N Q : Nat) : (((trip P N).setIfInBounds 3 (.int .u64 (wd0 Q : Int))).setIfInBounds 4 (.int .u64 (wd1 Q : Int))).setIfInBounds 5 (.int .u64 (wd2 Q : Int)) = trip P Q := by simp [trip]
theorem idx3_0 (x0 x1 x2 : Value) (w : World) : (Instr.index 95 (.agg #[x0, x1, x2]) (.int .i64 0)).run Try.prog w = .ok x0 w := by kernel_rfl
theorem idx3_1 (x0 x1 x2 : Value) (w : World) : (Instr.index 95 (.agg #[x0, x1, x2]) (.int .i64 1)).run Try.prog w = .ok x1 w := by kernel_rfl
theorem idx3_2 (x0 x1 x2 : Value) (w : World) : (Instr.index 95 (.agg #[x0, x1, x2]) (.int .i64 2)).run Try.prog w = .ok x2 w := by kernel_rfl

set_option maxRecDepth 20000 in
set_option maxHeartbeats 1000000 in
theorem tadd_same (g P N : Nat) (a b : Int) (w : World) (ha : -4611686018427387904 ≤ a ∧ a ≤ 4611686018427387904) (hb : -4611686018427387904 ≤ b ∧ b ≤ 4611686018427387904)
    (h : P + a.natAbs * b.natAbs < 6277101735386680763835789423207666416102355444464034512896) (hs : (!decide (a < 0) == decide (b < 0)) = false) (hw : Blk w g 97 (trip P N)) :
    Calls Try.prog 94 #[.pointer (some ⟨g, 0, none⟩), .int .i64 a, .int .i64 b] w fun e w' => e = .returned (.tuple #[]) ∧ Blk w' g 97 (trip (P + a.natAbs * b.natAbs) N) ∧ w.grownBy w' (some g) := by
  obtain ⟨lo, hi, c0, c1, c2, hm, r0, r1, r2⟩ := add_runs P a b ha hb h
  generalize P + a.natAbs * b.natAbs = Q at *
  have HM := Lib.hid hm
  have HA := Lib.hid ha
  have HB := Lib.hid hb
  have hna : (a.natAbs : Int) ≤ 4611686018427387904 := by omega
  have hnb : (b.natAbs : Int) ≤ 4611686018427387904 := by omega
  have k0 : w.cell? ⟨g, 0, none⟩ = some (.int .u64 (wd0 P : Int)) := hw.cell 0
  have k1 : w.cell? ⟨g, 1, none⟩ = some (.int .u64 (wd1 P : Int)) := hw.cell 1
  have k2 : w.cell? ⟨g, 2, none⟩ = some (.int .u64 (wd2 P : Int)) := hw.cell 2
  have f0 := hw.frozen 0
  have f1 := hw.frozen 1
  have f2 := hw.frozen 2
  have HW := Lib.hid hw
  clear hm ha hb h hw
  go_enter Try.func94, Try.ntmps94
  go_wp2_with (first
    | (go_at_call 85; refine (abs_any _ _ (by first | exact HA.out | exact HB.out)).mono ?_; rintro e w' ⟨rfl, rfl⟩)
    | (go_at_call 92; refine (HM.out _).mono ?_; rintro e w' ⟨rfl, rfl⟩))
  have i0 := idx3_0
  have i1 := idx3_1
  have i2 := idx3_2
  refine wp_loop_rounds 4 ?_
  rw [rounds_succ]
  go_wp2
  go_region
  all_goals go_wp2
  all_goals rw [rounds_succ]
  all_goals go_wp2
  all_goals go_region
  all_goals go_wp2
  all_goals rw [rounds_succ]
  all_goals go_wp2
  all_goals go_region
  all_goals go_wp2
  all_goals rw [rounds_succ]
  all_goals go_wp2
  go_end0
  refine ⟨rfl, ?_, ?_⟩
  · have h := ((HW.out.set_ 0 (.int .u64 (wd0 Q : Int))).set_ 1 (.int .u64 (wd1 Q : Int))).set_ 2 (.int .u64 (wd2 Q : Int))
    rw [trip_pos] at h
    exact h.drew.drew.drew
  · exact only_drew (only_drew (only_drew (only_setCell (p := ⟨g, 2, none⟩) (only_setCell (p := ⟨g, 1, none⟩) (only_setCell (p := ⟨g, 0, none⟩) (only_refl w (some g)) (.inl rfl) _) (.inl rfl) _) (.inl rfl) _)))

set_option maxRecDepth 20000 in
set_option maxHeartbeats 1000000 in
theorem tadd_diff (g P N : Nat) (a b : Int) (w : World) (ha : -4611686018427387904 ≤ a ∧ a ≤ 4611686018427387904) (hb : -4611686018427387904 ≤ b ∧ b ≤ 4611686018427387904)
    (h : N + a.natAbs * b.natAbs < 6277101735386680763835789423207666416102355444464034512896) (hs : (!decide (a < 0) == decide (b < 0)) = true) (hw : Blk w g 97 (trip P N)) :
    Calls Try.prog 94 #[.pointer (some ⟨g, 0, none⟩), .int .i64 a, .int .i64 b] w fun e w' => e = .returned (.tuple #[]) ∧ Blk w' g 97 (trip P (N + a.natAbs * b.natAbs)) ∧ w.grownBy w' (some g) := by
  obtain ⟨lo, hi, c0, c1, c2, hm, r0, r1, r2⟩ := add_runs N a b ha hb h
  generalize N + a.natAbs * b.natAbs = Q at *
  have HM := Lib.hid hm
  have HA := Lib.hid ha
  have HB := Lib.hid hb
  have hna : (a.natAbs : Int) ≤ 4611686018427387904 := by omega
  have hnb : (b.natAbs : Int) ≤ 4611686018427387904 := by omega
  have k0 : w.cell? ⟨g, 3, none⟩ = some (.int .u64 (wd0 N : Int)) := hw.cell 3
  have k1 : w.cell? ⟨g, 4, none⟩ = some (.int .u64 (wd1 N : Int)) := hw.cell 4
  have k2 : w.cell? ⟨g, 5, none⟩ = some (.int .u64 (wd2 N : Int)) := hw.cell 5
  have f0 := hw.frozen 3
  have f1 := hw.frozen 4
  have f2 := hw.frozen 5
  have HW := Lib.hid hw
  clear hm ha hb h hw
  go_enter Try.func94, Try.ntmps94
  go_wp2_with (first
    | (go_at_call 85; refine (abs_any _ _ (by first | exact HA.out | exact HB.out)).mono ?_; rintro e w' ⟨rfl, rfl⟩)
    | (go_at_call 92; refine (HM.out _).mono ?_; rintro e w' ⟨rfl, rfl⟩))
  have i0 := idx3_0
  have i1 := idx3_1
  have i2 := idx3_2
  refine wp_loop_rounds 4 ?_
  rw [rounds_succ]
  go_wp2
  go_region
  all_goals go_wp2
  all_goals rw [rounds_succ]
  all_goals go_wp2
  all_goals go_region
  all_goals go_wp2
  all_goals rw [rounds_succ]
  all_goals go_wp2
  all_goals go_region
  all_goals go_wp2
  all_goals rw [rounds_succ]
  all_goals go_wp2
  go_end0
  refine ⟨rfl, ?_, ?_⟩
  · have h := ((HW.out.set_ 3 (.int .u64 (wd0 Q : Int))).set_ 4 (.int .u64 (wd1 Q : Int))).set_ 5 (.int .u64 (wd2 Q : Int))
    rw [trip_neg] at h
    exact h.drew.drew.drew
  · exact only_drew (only_drew (only_drew (only_setCell (p := ⟨g, 5, none⟩) (only_setCell (p := ⟨g, 4, none⟩) (only_setCell (p := ⟨g, 3, none⟩) (only_refl w (some g)) (.inl rfl) _) (.inl rfl) _) (.inl rfl) _)))
end Go.Proofs.Ytpdpkmihgelmoaa
