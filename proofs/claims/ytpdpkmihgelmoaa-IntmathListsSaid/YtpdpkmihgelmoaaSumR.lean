/-
  Sum of the reference: the list of ones, then Dot.
-/
import Derived.Test.YtpdpkmihgelmoaaLists
namespace Go.Proofs.Ytpdpkmihgelmoaa
open Go.RowKit

theorem info_int : (Try.prog.info? 3).map (fun i => (i.zero, i.size, i.bytes)) = some (some (.int .i64 0), 1, 8) := by kernel_rfl
theorem under_ints : Try.prog.underlying 28 = some (.slice 3) := by kernel_rfl

theorem own_shape {w : World} {base e size n : Nat} {v : Value} {xs : List Value} (h : w.ownsRow base e size v n xs) : ∃ A c, v = .slice A n c := by
  rcases h.2 with ⟨rfl, rfl⟩ | ⟨g, cap, cur, rfl, _⟩
  · exact ⟨none, 0, rfl⟩
  · exact ⟨_, _, rfl⟩
theorem vDot_ones (zs : List Int) (n : Nat) (h : zs.length = n) : vDot zs (List.replicate n 1) = vSum zs ∧ eDot zs (List.replicate n 1) = eSum zs := by
  have h1 : (List.replicate n (1 : Int)).all rng = true := by
    rw [List.all_eq_true]
    intro x hx
    have := List.eq_of_mem_replicate hx
    subst this
    exact rng_of (by omega)
  have h2 := dot_ones zs n (by omega)
  constructor
  · simp [vDot, vSum, h1, h2, h]
  · simp [eDot, eSum, h1, h2, h]

set_option maxHeartbeats 1000000 in
theorem rSum_any (A : Option Addr) (n c : Nat) (zs : List Int) (w : World) (hr : Reads w w.heap.size 1 A n (zs.map (Value.int .i64))) (hn : n ≤ 60) :
    Calls Try.prog 50 #[.slice A n c] w fun e w' => e = .returned (.tuple #[.int .i64 (vSum zs), .int .i64 (eSum zs)]) ∧ Below w.heap.size w w' := by
  have hlen := Lib.hid (show zs.length = n by have := hr.1; simpa using this)
  obtain ⟨i0, hi, hz0, hz1, hz2⟩ := info_parts info_int
  have HI := Lib.hid hi
  have HZ0 := Lib.hid hz0
  have HZ1 := Lib.hid hz1
  have HZ2 := Lib.hid hz2
  clear hi hz0 hz1 hz2
  go_enter Try.func50, Try.ntmps50
  go_wp2
  go_loopw [4, 5] (fun v i wr => ∃ k : Nat, k ≤ n ∧ i = .int .i64 k ∧ wr.ownsRow w.heap.size 3 1 v k (List.replicate k (.int .i64 1)) ∧ Below w.heap.size w wr) (fun _ i _ => n - (intOf i).toNat)
  case atStart => exact ⟨0, Nat.zero_le _, rfl, World.ownsRow_nil _ _ _ _, Below.refl _ _⟩
  case round =>
    obtain ⟨k, hk, rfl, hown, hbl⟩ := hrel
    by_cases hlt : k < n
    · go_wp2_with (first
        | (at_builtin; refine wpList_append_own _ rfl _ _ 28 rfl w.heap.size 3 i0 (.int .i64 0) 1 8 under_ints HI.out HZ0.out HZ1.out HZ2.out rfl (by decide) _ _ _ rfl (hown.alloc _) ⟨wr.heap.size, 0, none⟩ 1 1 [.int .i64 1] rfl rfl ?c1 ?c2 ?c3 ?c4 ?c5 ?_)
        | fail)
      case c1 =>
        intro j u hj
        match j, hj with
        | 0, hj => simp at hj; subst hj; simp [Addr.add]
      case c2 => intro u hu; simp at hu; subst hu; rfl
      case c3 => unfold maxLen; omega
      case c4 => omega
      case c5 => have := hbl.size; simp; omega
      · intro v' w1 hown' hgrow _
        have hbl' : Below w.heap.size w w1 := (hbl.alloc hbl.size _).grown hgrow (by have := hbl.size; simp; omega) (fun g hg => (hown.lt g hg).1)
        rw [← List.replicate_succ'] at hown'
        clear hown hgrow hbl
        go_wp2
        go_roundw
        case rel => exact ⟨k + 1, by omega, by go_num, hown', hbl'⟩
        case measure => simp [intOf]; omega
    · obtain rfl : n = k := by omega
      obtain ⟨B, d, rfl⟩ := own_shape hown
      have HD := Lib.hid (rDot_any A B n n c d zs (List.replicate n 1) wr ((hr.below hbl).more hbl.size) (by have := Reads.of_own hown; rw [List.map_replicate]; exact this) hn hn)
      rw [(vDot_ones zs n hlen.out).1, (vDot_ones zs n hlen.out).2] at HD
      clear hown
      go_wp2_with (go_at_call 52; refine HD.out.mono ?_; rintro e w' ⟨rfl, hb⟩)
      go_ret2
      exact ⟨rfl, hbl.trans (hb.mono hbl.size)⟩
end Go.Proofs.Ytpdpkmihgelmoaa
