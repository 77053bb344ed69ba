/-
  The walk of total.value of intmath where the sum is negative; the contract of total.value.
-/
import Derived.Test.YtpdpkmihgelmoaaIntI
namespace Go.Proofs.Ytpdpkmihgelmoaa
open Go.RowKit

set_option maxRecDepth 20000 in
set_option maxHeartbeats 2000000 in
theorem tval_neg (g P N d : Nat) (w : World) (hw : Blk w g 97 (trip P N)) (hd : d < 6277101735386680763835789423207666416102355444464034512896)
    (d0 d1 d2 : Nat)
    (hF : ∀ w, Calls Try.prog 111 #[.agg #[.int .u64 (wd0 P : Int), .int .u64 (wd1 P : Int), .int .u64 (wd2 P : Int)], .agg #[.int .u64 (wd0 N : Int), .int .u64 (wd1 N : Int), .int .u64 (wd2 N : Int)]] w fun e w' => e = .returned (.tuple #[.agg #[.int .u64 (d0 : Int), .int .u64 (d1 : Int), .int .u64 (d2 : Int)], .bool false]) ∧ Below w.heap.size w w')
    (hH : ∀ w, Calls Try.prog 111 #[.agg #[.int .u64 (wd0 N : Int), .int .u64 (wd1 N : Int), .int .u64 (wd2 N : Int)], .agg #[.int .u64 (wd0 P : Int), .int .u64 (wd1 P : Int), .int .u64 (wd2 P : Int)]] w fun e w' => e = .returned (.tuple #[.agg #[.int .u64 (wd0 d : Int), .int .u64 (wd1 d : Int), .int .u64 (wd2 d : Int)], .bool true]) ∧ Below w.heap.size w w') :
    Calls Try.prog 95 #[.pointer (some ⟨g, 0, none⟩)] w fun e w' => e = .returned (.tuple #[.int .i64 (vR (-d)), .int .i64 (eR (-d))]) ∧ Below w.heap.size w w' := by
  have k0 : w.cell? ⟨g, 0, none⟩ = some (.int .u64 (wd0 P : Int)) := hw.cell 0
  have k1 : w.cell? ⟨g, 1, none⟩ = some (.int .u64 (wd1 P : Int)) := hw.cell 1
  have k2 : w.cell? ⟨g, 2, none⟩ = some (.int .u64 (wd2 P : Int)) := hw.cell 2
  have k3 : w.cell? ⟨g, 3, none⟩ = some (.int .u64 (wd0 N : Int)) := hw.cell 3
  have k4 : w.cell? ⟨g, 4, none⟩ = some (.int .u64 (wd1 N : Int)) := hw.cell 4
  have k5 : w.cell? ⟨g, 5, none⟩ = some (.int .u64 (wd2 N : Int)) := hw.cell 5
  have hlt := hw.lt
  have i0 := idx2_0
  have i1 := idx2_1
  have n0 := World.new_ne w _ k0
  have hwr : IntKind.i64.wrap 1 = 1 := IntWalk.i64_in _ (by omega)
  have hwr0 : IntKind.i64.wrap 0 = 0 := IntWalk.i64_in _ (by omega)
  have H := Lib.hid hH
  have F := Lib.hid hF
  have HC := Lib.hid (word_cases d hd)
  clear hw hH hF hd
  go_enter Try.func95, Try.ntmps95
  go_wp2
  refine wp_loop_rounds 3 ?_
  rw [rounds_succ]
  go_upto_region 5 with fail
  go_cut [7, 8] (fun s7 s8 wx => CutD w (.int .u64 (d0 : Int)) (.int .u64 (d1 : Int)) (.int .u64 (d2 : Int)) false s7 s8 wx)
  case first =>
    go_region_held3 (fun w' => w'.cell? ⟨g, 0, none⟩ = some (.int .u64 (wd0 P : Int)) ∧ w'.cell? ⟨g, 1, none⟩ = some (.int .u64 (wd1 P : Int)) ∧ w'.cell? ⟨g, 2, none⟩ = some (.int .u64 (wd2 P : Int)) ∧ w'.cell? ⟨g, 3, none⟩ = some (.int .u64 (wd0 N : Int)) ∧ w'.cell? ⟨g, 4, none⟩ = some (.int .u64 (wd1 N : Int)) ∧ w'.cell? ⟨g, 5, none⟩ = some (.int .u64 (wd2 N : Int)))
      (first | go_keep | (refine ⟨?_, ?_, ?_, ?_, ?_, ?_⟩ <;> (refine (hb.cell (by simp; omega)).trans ?_; simp [*])) | (refine ⟨?_, ?_, ?_, ?_, ?_, ?_⟩ <;> (refine (World.cell?_alloc_lt _ _ _ (Nat.lt_of_lt_of_le hlt hb.size)).trans ?_; refine (hb.cell (by simp; omega)).trans ?_; simp [*])))
      (first | (go_at_call 111; refine (F.out _).mono ?_; rintro e w1 ⟨rfl, hb⟩; obtain ⟨hc, hf⟩ := bcell hb; have hz := hb.size; (try simp only [World.size_alloc] at hz)))
    all_goals go_wp2_with fail
    all_goals go_meet
    all_goals first | exact cutD_behind _ _ _ _ _ hb | exact cutD_ahead _ _ _ _ _ _ _ _ hb
  case rest =>
    obtain ⟨b, rfl, rfl, -, -, -, hbl⟩ := hcut
    obtain ⟨wq, rfl⟩ : ∃ wq : World, wq = wc := ⟨_, rfl⟩
    have hlq : g < wq.heap.size := Nat.lt_of_lt_of_le hlt hbl.size
    have q0 := (hbl.cell (p := ⟨g, 0, none⟩) hlt).trans k0
    have q1 := (hbl.cell (p := ⟨g, 1, none⟩) hlt).trans k1
    have q2 := (hbl.cell (p := ⟨g, 2, none⟩) hlt).trans k2
    have q3 := (hbl.cell (p := ⟨g, 3, none⟩) hlt).trans k3
    have q4 := (hbl.cell (p := ⟨g, 4, none⟩) hlt).trans k4
    have q5 := (hbl.cell (p := ⟨g, 5, none⟩) hlt).trans k5
    have n1 := World.new_ne wq _ q0
    have HBL := Lib.hid hbl
    clear k0 k1 k2 k3 k4 k5 hlt n0 F hbl
    go_wp2
    rw [rounds_succ]
    go_upto_region 5 with fail
    go_cut [7, 8] (fun s7 s8 wx => CutD wq (.int .u64 (wd0 d : Int)) (.int .u64 (wd1 d : Int)) (.int .u64 (wd2 d : Int)) true s7 s8 wx)
    case first =>
      go_region_held3 (fun w' => w'.cell? ⟨g, 0, none⟩ = some (.int .u64 (wd0 P : Int)) ∧ w'.cell? ⟨g, 1, none⟩ = some (.int .u64 (wd1 P : Int)) ∧ w'.cell? ⟨g, 2, none⟩ = some (.int .u64 (wd2 P : Int)) ∧ w'.cell? ⟨g, 3, none⟩ = some (.int .u64 (wd0 N : Int)) ∧ w'.cell? ⟨g, 4, none⟩ = some (.int .u64 (wd1 N : Int)) ∧ w'.cell? ⟨g, 5, none⟩ = some (.int .u64 (wd2 N : Int)))
        (first | go_keep | (refine ⟨?_, ?_, ?_, ?_, ?_, ?_⟩ <;> (refine (hb.cell (by simp; omega)).trans ?_; simp [*])) | (refine ⟨?_, ?_, ?_, ?_, ?_, ?_⟩ <;> (refine (World.cell?_alloc_lt _ _ _ (Nat.lt_of_lt_of_le hlq hb.size)).trans ?_; refine (hb.cell (by simp; omega)).trans ?_; simp [*])))
        (first | (go_at_call 111; refine (H.out _).mono ?_; rintro e w1 ⟨rfl, hb⟩; obtain ⟨hc, hf⟩ := bcell hb; have hz := hb.size; (try simp only [World.size_alloc] at hz)))
      all_goals go_wp2_with fail
      all_goals go_meet
      all_goals first | exact cutD_behind _ _ _ _ _ hb | exact cutD_ahead _ _ _ _ _ _ _ _ hb
    case rest =>
      obtain ⟨b, rfl, rfl, h0, h1, h2, hb2l⟩ := hcut
      have hbl := HBL.out.trans (hb2l.mono HBL.out.size)
      rcases HC.out with ⟨hin, t1, t2, t3, hd0⟩ | ⟨hout, t1⟩ | ⟨hout, t1, t2⟩ | ⟨hout, t1, t2, t3⟩
      · have HR := Lib.hid (show ((wd0 d : Nat) : Int) = d by rw [hd0])
        have hb1 : (wd0 d : Int) ≤ 4611686018427387904 := by omega
        clear hin hd0 HC
        go_wp2_with (go_at_call 113; refine (checked_any _ _).mono ?_; rintro e w2 ⟨rfl, hb2⟩)
        go_ret2
        exact ⟨ret_two' (by first | rw [HR.out] | (rw [← HR.out]; simp)) (by first | rw [HR.out] | (rw [← HR.out]; simp)), hbl.trans (hb2.mono hbl.size)⟩
      · have HR := Lib.hid (vR_out (-d) (rng_not (by omega)))
        clear hout HC
        go_wp2
        all_goals go_ret2
        all_goals exact ⟨ret_two' HR.out.1.symm HR.out.2.symm, hbl⟩
      · have HR := Lib.hid (vR_out (-d) (rng_not (by omega)))
        clear hout HC
        go_wp2
        all_goals go_ret2
        all_goals exact ⟨ret_two' HR.out.1.symm HR.out.2.symm, hbl⟩
      · have HR := Lib.hid (vR_out (-d) (rng_not (by omega)))
        clear hout HC
        go_wp2
        all_goals go_ret2
        all_goals exact ⟨ret_two' HR.out.1.symm HR.out.2.symm, hbl⟩

theorem tvalue_any (g P N : Nat) (w : World) (hP : P < 6277101735386680763835789423207666416102355444464034512896) (hN : N < 6277101735386680763835789423207666416102355444464034512896)
    (hw : Blk w g 97 (trip P N)) :
    Calls Try.prog 95 #[.pointer (some ⟨g, 0, none⟩)] w fun e w' => e = .returned (.tuple #[.int .i64 (vR ((P : Int) - N)), .int .i64 (eR ((P : Int) - N))]) ∧ Below w.heap.size w w' := by
  by_cases h : N ≤ P
  · have e : (P : Int) - N = ((P - N : Nat) : Int) := by omega
    rw [e]
    exact tval_pos g P N (P - N) w hw (by omega) (fun w => less_ge P N hP hN h w)
  · have e : (P : Int) - N = -((N - P : Nat) : Int) := by omega
    rw [e]
    obtain ⟨d0, d1, d2, r0⟩ : ∃ d0 d1 d2 : Nat, ∀ w, Calls Try.prog 111 #[.agg #[.int .u64 (wd0 P : Int), .int .u64 (wd1 P : Int), .int .u64 (wd2 P : Int)], .agg #[.int .u64 (wd0 N : Int), .int .u64 (wd1 N : Int), .int .u64 (wd2 N : Int)]] w fun e w' => e = .returned (.tuple #[.agg #[.int .u64 (d0 : Int), .int .u64 (d1 : Int), .int .u64 (d2 : Int)], .bool false]) ∧ Below w.heap.size w w' := by
      obtain ⟨d0, d1, d2, c0, c1, c2, r0, r1, r2, hc⟩ := chain_sub P N hP hN
      rcases hc with ⟨h1, -⟩ | ⟨-, rfl⟩
      · omega
      · exact ⟨d0, d1, d2, fun w => less_walk P N _ _ _ _ _ _ w r0 r1 r2⟩
    exact tval_neg g P N (N - P) w hw (by omega) d0 d1 d2 r0 (fun w => less_ge N P hN hP (by omega) w)
end Go.Proofs.Ytpdpkmihgelmoaa
