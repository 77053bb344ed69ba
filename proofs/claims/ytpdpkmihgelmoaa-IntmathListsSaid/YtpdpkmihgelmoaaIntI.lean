/-
  The walks of total.value of intmath and of its function literal: the difference of two sums of three words each.
-/
import Derived.Test.YtpdpkmihgelmoaaIntH
import Derived.Deep.DeepCutAuto
import Derived.Deep.RegionHeld3
namespace Go.Proofs.Ytpdpkmihgelmoaa
open Go.RowKit

/-- The model's entry for math/bits.Sub64. -/
def subEntry : Array Value → Sem Value := fun args => do
  let (x, y, b) ← Extern.MathBitsCarry.three "Sub64" args
  pure (Extern.MathBitsCarry.pair ((x + Extern.MathBitsCarry.m64 - y - b) % Extern.MathBitsCarry.m64) (if x < y + b then 1 else 0))
theorem run_subEntry {P : Program} (x y b : Nat) (hb : b ≤ 1) (w : World) :
    (subEntry #[.int .u64 x, .int .u64 y, .int .u64 b]).run P w =
      .ok (.tuple #[.int .u64 (((x + 18446744073709551616 - y - b) % 18446744073709551616 : Nat) : Int), .int .u64 ((if x < y + b then 1 else 0 : Nat) : Int)]) w := by
  have : b = 0 ∨ b = 1 := by omega
  rcases this with rfl | rfl <;> rfl
theorem bSub64 (x y b : Nat) (hb : b ≤ 1) (w : World) :
    (callFunc 112 #[.int .u64 x, .int .u64 y, .int .u64 b]).run Try.prog w =
      .ok (.value (.tuple #[.int .u64 (((x + 18446744073709551616 - y - b) % 18446744073709551616 : Nat) : Int), .int .u64 ((if x < y + b then 1 else 0 : Nat) : Int)])) w := by
  rw [run_callFunc_extern Try.func112 (by kernel_rfl) (by kernel_rfl) (by kernel_rfl) (e := subEntry) (by kernel_rfl), run_subEntry x y b hb]
  rfl

theorem chain_sub (A B : Nat) (hA : A < 6277101735386680763835789423207666416102355444464034512896) (hB : B < 6277101735386680763835789423207666416102355444464034512896) :
    ∃ d0 d1 d2 c0 c1 c2 : Nat,
      (∀ w, (callFunc 112 #[.int .u64 (wd0 A : Int), .int .u64 (wd0 B : Int), .int .u64 0]).run Try.prog w = .ok (.value (.tuple #[.int .u64 (d0 : Int), .int .u64 (c0 : Int)])) w) ∧
      (∀ w, (callFunc 112 #[.int .u64 (wd1 A : Int), .int .u64 (wd1 B : Int), .int .u64 (c0 : Int)]).run Try.prog w = .ok (.value (.tuple #[.int .u64 (d1 : Int), .int .u64 (c1 : Int)])) w) ∧
      (∀ w, (callFunc 112 #[.int .u64 (wd2 A : Int), .int .u64 (wd2 B : Int), .int .u64 (c1 : Int)]).run Try.prog w = .ok (.value (.tuple #[.int .u64 (d2 : Int), .int .u64 (c2 : Int)])) w) ∧
      ((B ≤ A ∧ c2 = 0 ∧ d0 = wd0 (A - B) ∧ d1 = wd1 (A - B) ∧ d2 = wd2 (A - B)) ∨ (A < B ∧ c2 = 1)) := by
  have e1 := fun c (hc : c ≤ 1) w => bSub64 (wd0 A) (wd0 B) c hc w
  have e2 := fun c (hc : c ≤ 1) w => bSub64 (wd1 A) (wd1 B) c hc w
  have e3 := fun c (hc : c ≤ 1) w => bSub64 (wd2 A) (wd2 B) c hc w
  have q0 : (if wd0 A < wd0 B + 0 then 1 else 0) ≤ 1 := by split <;> omega
  generalize h0 : (if wd0 A < wd0 B + 0 then 1 else 0) = c0 at q0
  have q1 : (if wd1 A < wd1 B + c0 then 1 else 0) ≤ 1 := by split <;> omega
  generalize h1 : (if wd1 A < wd1 B + c0 then 1 else 0) = c1 at q1
  generalize h2 : (if wd2 A < wd2 B + c1 then 1 else 0) = c2
  refine ⟨(wd0 A + 18446744073709551616 - wd0 B - 0) % 18446744073709551616, (wd1 A + 18446744073709551616 - wd1 B - c0) % 18446744073709551616, (wd2 A + 18446744073709551616 - wd2 B - c1) % 18446744073709551616, c0, c1, c2, fun w => ?_, fun w => ?_, fun w => ?_, ?_⟩
  · rw [← h0]; exact e1 0 (by omega) w
  · rw [← h1]; exact e2 c0 q0 w
  · rw [← h2]; exact e3 c1 q1 w
  · clear e1 e2 e3
    unfold wd0 at h0
    unfold wd1 at h1
    unfold wd2 at h2
    by_cases hle : B ≤ A
    · refine .inl ⟨hle, ?_⟩
      unfold wd0 wd1 wd2
      split at h0 <;> split at h1 <;> split at h2 <;> omega
    · refine .inr ⟨by omega, ?_⟩
      split at h0 <;> split at h1 <;> split at h2 <;> omega

set_option maxRecDepth 20000 in
set_option maxHeartbeats 1000000 in
theorem less_walk (A B : Nat) (d0 d1 d2 c0 c1 c2 : Nat) (w : World)
    (r0 : ∀ w, (callFunc 112 #[.int .u64 (wd0 A : Int), .int .u64 (wd0 B : Int), .int .u64 0]).run Try.prog w = .ok (.value (.tuple #[.int .u64 (d0 : Int), .int .u64 (c0 : Int)])) w)
    (r1 : ∀ w, (callFunc 112 #[.int .u64 (wd1 A : Int), .int .u64 (wd1 B : Int), .int .u64 (c0 : Int)]).run Try.prog w = .ok (.value (.tuple #[.int .u64 (d1 : Int), .int .u64 (c1 : Int)])) w)
    (r2 : ∀ w, (callFunc 112 #[.int .u64 (wd2 A : Int), .int .u64 (wd2 B : Int), .int .u64 (c1 : Int)]).run Try.prog w = .ok (.value (.tuple #[.int .u64 (d2 : Int), .int .u64 (c2 : Int)])) w) :
    Calls Try.prog 111 #[.agg #[.int .u64 (wd0 A : Int), .int .u64 (wd1 A : Int), .int .u64 (wd2 A : Int)], .agg #[.int .u64 (wd0 B : Int), .int .u64 (wd1 B : Int), .int .u64 (wd2 B : Int)]] w fun e w' => e = .returned (.tuple #[.agg #[.int .u64 (d0 : Int), .int .u64 (d1 : Int), .int .u64 (d2 : Int)], .bool ((c2 : Int) == 0)]) ∧ Below w.heap.size w w' := by
  go_enter Try.func111, Try.ntmps111
  go_wp2
  refine wp_loop_rounds 4 ?_
  rw [rounds_succ]
  go_wp2
  go_region
  all_goals go_wp2
  all_goals rw [rounds_succ]
  all_goals go_wp2
  all_goals go_region
  all_goals go_wp2
  all_goals rw [rounds_succ]
  all_goals go_wp2
  all_goals go_region
  all_goals go_wp2
  all_goals rw [rounds_succ]
  all_goals go_wp2
  all_goals exact bodyPost_ret (v := .tuple #[.agg #[.int .u64 (d0 : Int), .int .u64 (d1 : Int), .int .u64 (d2 : Int)], .bool ((c2 : Int) == 0)]) (by simp [results, Try.results111, go_sem]) rfl ⟨rfl, (((((Below.refl _ _).alloc (Nat.le_refl _) _).alloc (by simp) _).alloc (by simp; omega) _).alloc (by simp; omega) _).drew.drew.drew⟩

theorem less_ge (A B : Nat) (hA : A < 6277101735386680763835789423207666416102355444464034512896) (hB : B < 6277101735386680763835789423207666416102355444464034512896) (h : B ≤ A) (w : World) :
    Calls Try.prog 111 #[.agg #[.int .u64 (wd0 A : Int), .int .u64 (wd1 A : Int), .int .u64 (wd2 A : Int)], .agg #[.int .u64 (wd0 B : Int), .int .u64 (wd1 B : Int), .int .u64 (wd2 B : Int)]] w fun e w' => e = .returned (.tuple #[.agg #[.int .u64 (wd0 (A - B) : Int), .int .u64 (wd1 (A - B) : Int), .int .u64 (wd2 (A - B) : Int)], .bool true]) ∧ Below w.heap.size w w' := by
  obtain ⟨d0, d1, d2, c0, c1, c2, r0, r1, r2, hc⟩ := chain_sub A B hA hB
  rcases hc with ⟨-, rfl, rfl, rfl, rfl⟩ | ⟨h1, -⟩
  · exact less_walk A B _ _ _ _ _ _ w r0 r1 r2
  · omega
theorem less_lt (A B : Nat) (hA : A < 6277101735386680763835789423207666416102355444464034512896) (hB : B < 6277101735386680763835789423207666416102355444464034512896) (h : A < B) (w : World) :
    ∃ d0 d1 d2 : Nat, Calls Try.prog 111 #[.agg #[.int .u64 (wd0 A : Int), .int .u64 (wd1 A : Int), .int .u64 (wd2 A : Int)], .agg #[.int .u64 (wd0 B : Int), .int .u64 (wd1 B : Int), .int .u64 (wd2 B : Int)]] w fun e w' => e = .returned (.tuple #[.agg #[.int .u64 (d0 : Int), .int .u64 (d1 : Int), .int .u64 (d2 : Int)], .bool false]) ∧ Below w.heap.size w w' := by
  obtain ⟨d0, d1, d2, c0, c1, c2, r0, r1, r2, hc⟩ := chain_sub A B hA hB
  rcases hc with ⟨h1, -⟩ | ⟨-, rfl⟩
  · omega
  · exact ⟨d0, d1, d2, less_walk A B _ _ _ _ _ _ w r0 r1 r2⟩

theorem idx2_0 (x0 x1 : Value) (w : World) : (Instr.index 108 (.agg #[x0, x1]) (.int .i64 0)).run Try.prog w = .ok x0 w := by kernel_rfl
theorem idx2_1 (x0 x1 : Value) (w : World) : (Instr.index 108 (.agg #[x0, x1]) (.int .i64 1)).run Try.prog w = .ok x1 w := by kernel_rfl

theorem word_cases (d : Nat) (hd : d < 6277101735386680763835789423207666416102355444464034512896) :
    (d ≤ 4611686018427387904 ∧ wd1 d = 0 ∧ wd2 d = 0 ∧ wd0 d ≤ 4611686018427387904 ∧ wd0 d = d) ∨
    (4611686018427387904 < d ∧ 0 < wd1 d) ∨
    (4611686018427387904 < d ∧ wd1 d = 0 ∧ 0 < wd2 d) ∨
    (4611686018427387904 < d ∧ wd1 d = 0 ∧ wd2 d = 0 ∧ 4611686018427387904 < wd0 d) := by
  by_cases h1 : 0 < wd1 d
  · by_cases hle : d ≤ 4611686018427387904
    · exfalso; unfold wd1 at h1; omega
    · exact .inr (.inl ⟨by omega, h1⟩)
  · have e1 : wd1 d = 0 := by omega
    by_cases h2 : 0 < wd2 d
    · by_cases hle : d ≤ 4611686018427387904
      · exfalso; unfold wd2 at h2; omega
      · exact .inr (.inr (.inl ⟨by omega, e1, h2⟩))
    · have e2 : wd2 d = 0 := by omega
      by_cases h0 : 4611686018427387904 < wd0 d
      · refine .inr (.inr (.inr ⟨?_, e1, e2, h0⟩))
        unfold wd0 at h0; omega
      · refine .inl ⟨?_, e1, e2, by omega, ?_⟩ <;> (unfold wd0 at *; unfold wd1 at h1; unfold wd2 at h2; omega)

theorem vR_out (n : Int) (h : rng n = false) : vR n = 0 ∧ eR n = 2 := by simp [vR, eR, h]

/-- What the statement 'd, ok := less(..)' leaves: a new variable with three words, and the answer. -/
def CutD (w : World) (x y z : Value) (q : Bool) (s7 s8 : Value) (wx : World) : Prop :=
  ∃ b : Nat, s7 = .pointer (some ⟨b, 0, none⟩) ∧ s8 = .bool q ∧ wx.cell? ⟨b, 0, none⟩ = some x ∧ wx.cell? ⟨b, 1, none⟩ = some y ∧ wx.cell? ⟨b, 2, none⟩ = some z ∧ Below w.heap.size w wx
theorem cutD_behind {w w1 : World} (t : TypeId) (x y z : Value) (q : Bool) (hb : Below w.drew.heap.size w.drew w1) :
    CutD w x y z q (.pointer (some ⟨w1.heap.size, 0, none⟩)) (.bool q) (w1.alloc (.cells #[x, y, z] t)) :=
  ⟨_, rfl, rfl, (Blk.new _ _ _).cell 0, (Blk.new _ _ _).cell 1, (Blk.new _ _ _).cell 2, (((Below.refl w.heap.size w).drew).trans hb).alloc hb.size _⟩
theorem cutD_ahead {w w1 : World} (t : TypeId) (x y z a b c : Value) (q : Bool) (hb : Below (w.alloc (.cells #[a, b, c] t)).drew.heap.size (w.alloc (.cells #[a, b, c] t)).drew w1) :
    CutD w x y z q (.pointer (some ⟨w.heap.size, 0, none⟩)) (.bool q) (((w1.setCell ⟨w.heap.size, 0, none⟩ x).setCell ⟨w.heap.size, 1, none⟩ y).setCell ⟨w.heap.size, 2, none⟩ z) := by
  have hs : (w.alloc (.cells #[a, b, c] t)).drew.heap.size = w.heap.size + 1 := World.size_alloc w _
  have h := (((((Blk.new w t #[a, b, c]).drew).below hb (by rw [hs]; omega)).set_ 0 x).set_ 1 y).set_ 2 z
  refine ⟨_, rfl, rfl, (h.cell 0).trans (by simp), (h.cell 1).trans (by simp), (h.cell 2).trans (by simp), ?_⟩
  exact ((((((Below.refl w.heap.size w).alloc (Nat.le_refl _) _).drew).trans (hb.mono (by rw [hs]; omega))).setCell (p := ⟨w.heap.size, 0, none⟩) (Nat.le_refl _) x).setCell (p := ⟨w.heap.size, 1, none⟩) (Nat.le_refl _) y).setCell (p := ⟨w.heap.size, 2, none⟩) (Nat.le_refl _) z

set_option maxRecDepth 20000 in
set_option maxHeartbeats 2000000 in
theorem tval_pos (g P N d : Nat) (w : World) (hw : Blk w g 97 (trip P N)) (hd : d < 6277101735386680763835789423207666416102355444464034512896)
    (hH : ∀ w, Calls Try.prog 111 #[.agg #[.int .u64 (wd0 P : Int), .int .u64 (wd1 P : Int), .int .u64 (wd2 P : Int)], .agg #[.int .u64 (wd0 N : Int), .int .u64 (wd1 N : Int), .int .u64 (wd2 N : Int)]] w fun e w' => e = .returned (.tuple #[.agg #[.int .u64 (wd0 d : Int), .int .u64 (wd1 d : Int), .int .u64 (wd2 d : Int)], .bool true]) ∧ Below w.heap.size w w') :
    Calls Try.prog 95 #[.pointer (some ⟨g, 0, none⟩)] w fun e w' => e = .returned (.tuple #[.int .i64 (vR d), .int .i64 (eR d)]) ∧ Below w.heap.size w w' := by
  have k0 : w.cell? ⟨g, 0, none⟩ = some (.int .u64 (wd0 P : Int)) := hw.cell 0
  have k1 : w.cell? ⟨g, 1, none⟩ = some (.int .u64 (wd1 P : Int)) := hw.cell 1
  have k2 : w.cell? ⟨g, 2, none⟩ = some (.int .u64 (wd2 P : Int)) := hw.cell 2
  have k3 : w.cell? ⟨g, 3, none⟩ = some (.int .u64 (wd0 N : Int)) := hw.cell 3
  have k4 : w.cell? ⟨g, 4, none⟩ = some (.int .u64 (wd1 N : Int)) := hw.cell 4
  have k5 : w.cell? ⟨g, 5, none⟩ = some (.int .u64 (wd2 N : Int)) := hw.cell 5
  have hlt := hw.lt
  have i0 := idx2_0
  have n0 := World.new_ne w _ k0
  have hwr : IntKind.i64.wrap 1 = 1 := IntWalk.i64_in _ (by omega)
  have H := Lib.hid hH
  have HC := Lib.hid (word_cases d hd)
  clear hw hH hd
  go_enter Try.func95, Try.ntmps95
  go_wp2
  refine wp_loop_rounds 3 ?_
  rw [rounds_succ]
  go_upto_region 5 with fail
  go_cut [7, 8] (fun s7 s8 wx => CutD w (.int .u64 (wd0 d : Int)) (.int .u64 (wd1 d : Int)) (.int .u64 (wd2 d : Int)) true s7 s8 wx)
  case first =>
    go_region_held3 (fun w' => w'.cell? ⟨g, 0, none⟩ = some (.int .u64 (wd0 P : Int)) ∧ w'.cell? ⟨g, 1, none⟩ = some (.int .u64 (wd1 P : Int)) ∧ w'.cell? ⟨g, 2, none⟩ = some (.int .u64 (wd2 P : Int)) ∧ w'.cell? ⟨g, 3, none⟩ = some (.int .u64 (wd0 N : Int)) ∧ w'.cell? ⟨g, 4, none⟩ = some (.int .u64 (wd1 N : Int)) ∧ w'.cell? ⟨g, 5, none⟩ = some (.int .u64 (wd2 N : Int)))
      (first | go_keep | (refine ⟨?_, ?_, ?_, ?_, ?_, ?_⟩ <;> (refine (hb.cell (by simp; omega)).trans ?_; simp [*])) | (refine ⟨?_, ?_, ?_, ?_, ?_, ?_⟩ <;> (refine (World.cell?_alloc_lt _ _ _ (Nat.lt_of_lt_of_le hlt hb.size)).trans ?_; refine (hb.cell (by simp; omega)).trans ?_; simp [*])))
      (first | (go_at_call 111; refine (H.out _).mono ?_; rintro e w1 ⟨rfl, hb⟩; obtain ⟨hc, hf⟩ := bcell hb; have hz := hb.size; (try simp only [World.size_alloc] at hz)))
    all_goals go_wp2_with fail
    all_goals go_meet
    all_goals first | exact cutD_behind _ _ _ _ _ hb | exact cutD_ahead _ _ _ _ _ _ _ _ hb
  case rest =>
    obtain ⟨b, rfl, rfl, h0, h1, h2, hbl⟩ := hcut
    rcases HC.out with ⟨hin, t1, t2, t3, hd0⟩ | ⟨hout, t1⟩ | ⟨hout, t1, t2⟩ | ⟨hout, t1, t2, t3⟩
    · have HR := Lib.hid hd0
      have hb1 : (wd0 d : Int) ≤ 4611686018427387904 := by omega
      clear hin hd0 HC
      go_wp2_with (go_at_call 113; refine (checked_any _ _).mono ?_; rintro e w2 ⟨rfl, hb2⟩)
      go_ret2
      exact ⟨ret_two' (by rw [HR.out]) (by rw [HR.out]), hbl.trans (hb2.mono hbl.size)⟩
    · have HR := Lib.hid (vR_out d (rng_not (by omega)))
      clear hout HC
      go_wp2
      all_goals go_ret2
      all_goals exact ⟨ret_two' HR.out.1.symm HR.out.2.symm, hbl⟩
    · have HR := Lib.hid (vR_out d (rng_not (by omega)))
      clear hout HC
      go_wp2
      all_goals go_ret2
      all_goals exact ⟨ret_two' HR.out.1.symm HR.out.2.symm, hbl⟩
    · have HR := Lib.hid (vR_out d (rng_not (by omega)))
      clear hout HC
      go_wp2
      all_goals go_ret2
      all_goals exact ⟨ret_two' HR.out.1.symm HR.out.2.symm, hbl⟩
end Go.Proofs.Ytpdpkmihgelmoaa
