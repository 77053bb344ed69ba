/-
  The walks of the smallest functions of intmath and of its reference: in, In, checked, abs, sign.
-/
import Derived.Test.YtpdpkmihgelmoaaChecked
import Derived.Test.YtpdpkmihgelmoaaBase
import Derived.WalkSpells
import Derived.WalkLawsBesides
import Derived.Deep.QuietTactic
import Derived.BigQuiet
import Derived.IntWalk
import Derived.Outline
namespace Go.Proofs.Ytpdpkmihgelmoaa
open Go.RowKit

/-- A number in range. -/
def rng (n : Int) : Bool := decide (-4611686018427387904 ≤ n ∧ n ≤ 4611686018427387904)
theorem rng_yes {n : Int} (h : rng n = true) : -4611686018427387904 ≤ n ∧ n ≤ 4611686018427387904 := by simpa [rng] using h
theorem rng_no {n : Int} (h : rng n = false) : ¬ (-4611686018427387904 ≤ n ∧ n ≤ 4611686018427387904) := by simpa [rng] using h
theorem rng_of {n : Int} (h : -4611686018427387904 ≤ n ∧ n ≤ 4611686018427387904) : rng n = true := by simpa [rng] using h
theorem rng_not {n : Int} (h : ¬ (-4611686018427387904 ≤ n ∧ n ≤ 4611686018427387904)) : rng n = false := by simpa [rng] using h

/-- A number and its error code, if it is in range. -/
def vR (n : Int) : Int := bif rng n then n else 0
def eR (n : Int) : Int := bif rng n then 0 else 2

set_option maxHeartbeats 400000 in
theorem In_any (n : Int) (w : World) :
    Calls Try.prog 16 #[.int .i64 n] w fun e w' => e = .returned (.bool (rng n)) ∧ w = w' := by
  by_cases h1 : -4611686018427387904 ≤ n
  · by_cases h2 : n ≤ 4611686018427387904
    · rw [rng_of ⟨h1, h2⟩]
      go_enter Try.func16, Try.ntmps16
      go_wp2
      go_ret
      exact ⟨rfl, rfl⟩
    · rw [rng_not (fun h => h2 h.2)]
      go_enter Try.func16, Try.ntmps16
      go_wp2
      go_ret
      exact ⟨rfl, rfl⟩
  · rw [rng_not (fun h => h1 h.1)]
    go_enter Try.func16, Try.ntmps16
    go_wp2
    go_ret
    exact ⟨rfl, rfl⟩

theorem all_snoc (zs : List Int) (k : Nat) (x : Int) (hx : zs[k]? = some x) : (zs.take (k + 1)).all rng = ((zs.take k).all rng && rng x) := by
  have hk : k < zs.length := (List.getElem?_eq_some_iff.1 hx).1
  rw [List.take_succ_eq_append_getElem hk]
  have : zs[k] = x := by rw [List.getElem?_eq_getElem hk] at hx; exact Option.some.inj hx
  simp [this]
theorem all_bad (zs : List Int) (k : Nat) (x : Int) (hx : zs[k]? = some x) (hr : rng x = false) : zs.all rng = false := by
  have hk : k < zs.length := (List.getElem?_eq_some_iff.1 hx).1
  rw [List.all_eq_false]
  refine ⟨x, List.mem_of_getElem? hx, by simp [hr]⟩

set_option maxHeartbeats 400000 in
theorem in_any (A : Option Addr) (n c : Nat) (zs : List Int) (w : World) (B : Nat) (hr : Reads w B 1 A n (zs.map (Value.int .i64))) (hn : n ≤ 9223372036854775807) :
    Calls Try.prog 83 #[.slice A n c] w fun e w' => e = .returned (.bool (zs.all rng)) ∧ w = w' := by
  have hlen := Lib.hid (show zs.length = n by have := hr.1; simpa using this)
  go_enter Try.func83, Try.ntmps83
  go_wp2
  go_loop [7] (fun i => ∃ k : Nat, k ≤ n ∧ i = .int .i64 k ∧ Hid ((zs.take k).all rng = true)) (fun i => n - (intOf i).toNat)
  case atStart => exact ⟨0, Nat.zero_le _, rfl, Lib.hid (by simp)⟩
  case round =>
    obtain ⟨k, hk, rfl, ha⟩ := hrel
    by_cases hlt : k < n
    · obtain ⟨ad, u, rfl, _, hu, hc⟩ := hr.at_ hlt
      rw [List.getElem?_map] at hu
      obtain ⟨x, hx, rfl⟩ := Option.map_eq_some_iff.1 hu
      have HX := Lib.hid hx
      clear hx hu
      by_cases h1 : -4611686018427387904 ≤ x
      · by_cases h2 : x ≤ 4611686018427387904
        · have HA : Hid ((zs.take (k + 1)).all rng = true) := Lib.hid (by rw [all_snoc zs k x HX.out, ha.out, rng_of ⟨h1, h2⟩]; rfl)
          go_wp2
          go_round
          case rel => exact ⟨k + 1, by omega, by go_num, HA⟩
          case measure => simp [intOf]; omega
        · go_wp2
          go_ret
          exact ⟨ret_bool (by rw [all_bad zs k x HX.out (rng_not (by omega))]), rfl⟩
      · go_wp2
        go_ret
        exact ⟨ret_bool (by rw [all_bad zs k x HX.out (rng_not (by omega))]), rfl⟩
    · go_wp2
      go_ret
      exact ⟨ret_bool (by have := ha.out; rw [List.take_of_length_le (by rw [hlen.out]; omega)] at this; rw [this]), rfl⟩

set_option maxHeartbeats 400000 in
theorem checked_any (n : Int) (w : World) :
    Calls Try.prog 113 #[.int .i64 n] w fun e w' => e = .returned (.tuple #[.int .i64 (vR n), .int .i64 (eR n)]) ∧ Below w.heap.size w w' := by
  have H1 := fun c => in_any (some ⟨w.heap.size, 0, none⟩) 1 c [n] (w.alloc (.cells #[.int .i64 n] 3)) (w.heap.size + 1) (Reads.of_new w 3 #[.int .i64 n]) (by omega)
  cases hr : rng n
  all_goals
    simp only [List.all_cons, List.all_nil, hr, Bool.and_true] at H1
    have H2 := Lib.hid H1
    clear H1
    go_enter Try.func113, Try.ntmps113
    go_wp2_with (go_at_call 83; refine (H2.out _).mono ?_; rintro e w' ⟨rfl, rfl⟩)
    go_ret2
    exact ⟨by simp [vR, eR, hr], (Below.refl _ _).alloc (Nat.le_refl _) _⟩
end Go.Proofs.Ytpdpkmihgelmoaa
