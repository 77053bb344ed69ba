/-
  The walks of Add, Sub and Mul of intmath, and of the reference's.
-/
import Derived.Test.YtpdpkmihgelmoaaIntC
namespace Go.Proofs.Ytpdpkmihgelmoaa
open Go.RowKit

theorem bAdd64 (x y c : Nat) (hc : c ≤ 1) (w : World) :
    (callFunc 91 #[.int .u64 x, .int .u64 y, .int .u64 c]).run Try.prog w =
      .ok (.value (.tuple #[.int .u64 (((x + y + c) % 18446744073709551616 : Nat) : Int), .int .u64 (((x + y + c) / 18446744073709551616 : Nat) : Int)])) w := by
  rw [run_callFunc_extern Try.func91 (by kernel_rfl) (by kernel_rfl) (by kernel_rfl) (e := add64Entry) (by kernel_rfl), run_add64 x y c (by omega) (by omega) (by omega) (by omega)]
  simp only [Result.andThen]
  congr 5 <;> omega

theorem add_split (a b : Int) (ha : -4611686018427387904 ≤ a ∧ a ≤ 4611686018427387904) (hb : -4611686018427387904 ≤ b ∧ b ≤ 4611686018427387904) (w : World) :
    IntKind.u64.wrap (IntKind.u64.wrap a + 9223372036854775808) = ((a + 9223372036854775808).toNat : Int) ∧
    ∃ s c : Nat, (callFunc 91 #[.int .u64 ((a + 9223372036854775808).toNat : Int), .int .u64 ((b + 9223372036854775808).toNat : Int), .int .u64 0]).run Try.prog w = .ok (.value (.tuple #[.int .u64 (s : Int), .int .u64 (c : Int)])) w ∧
      ((c = 0 ∧ (s : Int) = a + b + 18446744073709551616 ∧ a + b < 0) ∨ (c = 1 ∧ (s : Int) = a + b ∧ 0 ≤ a + b)) := by
  refine ⟨by rw [IntKind.wrap_u64, IntKind.wrap_u64]; omega, _, _, bAdd64 _ _ 0 (by omega) w, ?_⟩
  omega

set_option maxRecDepth 20000 in
set_option maxHeartbeats 400000 in
theorem Add_any (a b : Int) (w : World) :
    Calls Try.prog 38 #[.int .i64 a, .int .i64 b] w fun e w' => e = .returned (.tuple #[.int .i64 (vAdd a b), .int .i64 (eAdd a b)]) ∧ Below w.heap.size w w' := by
  cases hr : (rng a && rng b)
  · have he : eAdd a b = 2 := by simp [eAdd, hr]
    have hv : vAdd a b = 0 := by simp [vAdd, hr]
    rw [he, hv]
    clear he hv
    go_enter Try.func38, Try.ntmps38
    go_wp2_with (go_at_call 83; refine (in_two _ _ _).mono ?_; rintro e w' ⟨rfl, rfl⟩)
    go_ret2
    exact ⟨rfl, (Below.refl _ _).alloc (Nat.le_refl _) _⟩
  · obtain ⟨ha, hb⟩ := rng_two hr
    obtain ⟨ea, s, c, hrun, hcs⟩ := add_split a b ha hb (w.alloc (.cells #[.int .i64 a, .int .i64 b] 3))
    obtain ⟨eb, -⟩ := add_split b a hb ha w
    have EA := Lib.hid ea
    have EB := Lib.hid eb
    have HR := Lib.hid hrun
    clear ea eb hrun
    have hspec : (rng (a + b) = true → vAdd a b = a + b ∧ eAdd a b = 0) ∧ (rng (a + b) = false → vAdd a b = 0 ∧ eAdd a b = 2) := by
      constructor <;> intro h <;> simp [vAdd, eAdd, hr, h]
    have HS := Lib.hid hspec
    clear hspec
    rcases hcs with ⟨rfl, hs, hneg⟩ | ⟨rfl, hs, hpos⟩
    · have HSS := Lib.hid hs
      by_cases hin : -4611686018427387904 ≤ a + b
      · have h1 : 13835058055282163712 ≤ (s : Int) := by omega
        have h1b : decide ((s : Int) < 13835058055282163712) = false := by simp; omega
        have hw := Lib.hid (show wrap64 (s : Int) = a + b by unfold wrap64; omega)
        have HIN := Lib.hid hin
        have HNEG := Lib.hid hneg
        clear hs ha hb h1 hneg hin
        go_enter Try.func38, Try.ntmps38
        go_wp2_with (go_at_call 83; refine (in_two _ _ _).mono ?_; rintro e w' ⟨rfl, rfl⟩)
        rw [EA.out, EB.out, HR.out]
        go_wp2
        go_ret2
        obtain ⟨e1, e2⟩ := HS.out.1 (rng_of ⟨HIN.out, by have := HNEG.out; omega⟩)
        exact ⟨by rw [e1, e2]; exact ret_two ⟨hw.out, rfl⟩, (Below.refl _ _).alloc (Nat.le_refl _) _⟩
      · have h1 : (s : Int) < 13835058055282163712 := by omega
        clear hs ha hb
        go_enter Try.func38, Try.ntmps38
        go_wp2_with (go_at_call 83; refine (in_two _ _ _).mono ?_; rintro e w' ⟨rfl, rfl⟩)
        rw [EA.out, EB.out, HR.out]
        go_wp2
        go_ret2
        obtain ⟨e1, e2⟩ := HS.out.2 (rng_not (by omega))
        exact ⟨by rw [e1, e2]; exact ret_two ⟨rfl, rfl⟩, (Below.refl _ _).alloc (Nat.le_refl _) _⟩
    · have HSS := Lib.hid hs
      by_cases hin : a + b ≤ 4611686018427387904
      · have h1 : (s : Int) ≤ 4611686018427387904 := by omega
        have hw := Lib.hid (show (s : Int) = a + b from hs)
        clear hs ha hb
        go_enter Try.func38, Try.ntmps38
        go_wp2_with (go_at_call 83; refine (in_two _ _ _).mono ?_; rintro e w' ⟨rfl, rfl⟩)
        rw [EA.out, EB.out, HR.out]
        go_wp2
        go_ret2
        obtain ⟨e1, e2⟩ := HS.out.1 (rng_of ⟨by omega, hin⟩)
        exact ⟨by rw [e1, e2]; exact ret_two ⟨hw.out, rfl⟩, (Below.refl _ _).alloc (Nat.le_refl _) _⟩
      · have h1 : 4611686018427387904 < (s : Int) := by omega
        clear hs ha hb
        go_enter Try.func38, Try.ntmps38
        go_wp2_with (go_at_call 83; refine (in_two _ _ _).mono ?_; rintro e w' ⟨rfl, rfl⟩)
        rw [EA.out, EB.out, HR.out]
        go_wp2
        go_ret2
        obtain ⟨e1, e2⟩ := HS.out.2 (rng_not (by omega))
        exact ⟨by rw [e1, e2]; exact ret_two ⟨rfl, rfl⟩, (Below.refl _ _).alloc (Nat.le_refl _) _⟩
end Go.Proofs.Ytpdpkmihgelmoaa
