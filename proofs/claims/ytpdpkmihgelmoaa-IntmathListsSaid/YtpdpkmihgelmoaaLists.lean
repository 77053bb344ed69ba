/-
  Gcds of both sides; Dot of the reference at any lists.
-/
import Derived.Test.YtpdpkmihgelmoaaDotA
namespace Go.Proofs.Ytpdpkmihgelmoaa
open Go.RowKit

theorem in_one (a : Int) (w : World) :
    Calls Try.prog 83 #[.slice (some ⟨w.heap.size, 0, none⟩) 1 1] (w.alloc (.cells #[.int .i64 a] 3)) fun e w' => e = .returned (.bool (rng a)) ∧ w.alloc (.cells #[.int .i64 a] 3) = w' := by
  have h := in_any (some ⟨w.heap.size, 0, none⟩) 1 1 [a] (w.alloc (.cells #[.int .i64 a] 3)) (w.heap.size + 1) (Reads.of_new w 3 #[.int .i64 a]) (by omega)
  simpa using h

/-- The greatest common divisor of the first numbers of a list. -/
def gl (zs : List Int) : Int := zs.foldl (fun g n => (Int.gcd g n : Int)) 0
theorem gl_snoc (zs : List Int) (k : Nat) (x : Int) (hx : zs[k]? = some x) : gl (zs.take (k + 1)) = (Int.gcd (gl (zs.take k)) x : Int) := by
  have hk : k < zs.length := (List.getElem?_eq_some_iff.1 hx).1
  have e : zs[k] = x := by rw [List.getElem?_eq_getElem hk] at hx; exact Option.some.inj hx
  rw [List.take_succ_eq_append_getElem hk, e]
  simp [gl, List.foldl_append]
theorem all_more (zs : List Int) (k : Nat) (x : Int) (hx : zs[k]? = some x) (h : (zs.take k).all rng = true) (hr : rng x = true) : (zs.take (k + 1)).all rng = true := by
  have hk : k < zs.length := (List.getElem?_eq_some_iff.1 hx).1
  have e : zs[k] = x := by rw [List.getElem?_eq_getElem hk] at hx; exact Option.some.inj hx
  rw [List.take_succ_eq_append_getElem hk, e, List.all_append, h]
  simp [hr]
theorem all_not (zs : List Int) (k : Nat) (x : Int) (hx : zs[k]? = some x) (hr : rng x = false) : zs.all rng = false := by
  rw [List.all_eq_false]
  exact ⟨x, List.mem_of_getElem? hx, by simp [hr]⟩
theorem gcd_in {a b : Int} (ha : 0 ≤ a ∧ a ≤ 4611686018427387904) (hb : rng b = true) : 0 ≤ (Int.gcd a b : Int) ∧ (Int.gcd a b : Int) ≤ 4611686018427387904 := by
  have hb := rng_yes hb
  refine ⟨by omega, ?_⟩
  by_cases h0 : a = 0
  · subst h0
    simp only [Int.gcd_zero_left]
    omega
  · have : Int.gcd a b ≤ a.natAbs := Nat.le_of_dvd (by omega) (Int.gcd_dvd_natAbs_left a b)
    omega
def vGcds (zs : List Int) : Int := bif zs.all rng then gl zs else 0
def eGcds (zs : List Int) : Int := bif zs.all rng then 0 else 2

set_option maxHeartbeats 1000000 in
theorem Gcds_any (A : Option Addr) (n c : Nat) (zs : List Int) (w : World) (hr : Reads w w.heap.size 1 A n (zs.map (Value.int .i64))) (hn : n ≤ 10000) :
    Calls Try.prog 47 #[.slice A n c] w fun e w' => e = .returned (.tuple #[.int .i64 (vGcds zs), .int .i64 (eGcds zs)]) ∧ Below w.heap.size w w' := by
  have hlen := Lib.hid (show zs.length = n by have := hr.1; simpa using this)
  go_enter Try.func47, Try.ntmps47
  go_wp2
  go_loopw [4, 9] (fun s4 s9 wr => ∃ (k : Nat) (g : Int), k ≤ n ∧ s4 = .int .i64 g ∧ s9 = .int .i64 k ∧ (0 ≤ g ∧ g ≤ 4611686018427387904) ∧ Hid (g = gl (zs.take k)) ∧ Hid ((zs.take k).all rng = true) ∧ Below w.heap.size w wr) (fun _ s9 _ => n - (intOf s9).toNat)
  case atStart => exact ⟨0, 0, Nat.zero_le _, rfl, rfl, by omega, Lib.hid rfl, Lib.hid rfl, Below.refl _ _⟩
  case round =>
    obtain ⟨k, g, hk, rfl, rfl, hg, hgl, hal, hbl⟩ := hrel
    by_cases hlt : k < n
    · obtain ⟨ad, u, rfl, hB, hu, hc⟩ := (hr.below hbl).at_ hlt
      rw [List.getElem?_map] at hu
      obtain ⟨x, hx, rfl⟩ := Option.map_eq_some_iff.1 hu
      have HX := Lib.hid hx
      clear hx hu
      cases hrx : rng x with
      | false =>
        have hv : vGcds zs = 0 := by simp [vGcds, all_not zs k x HX.out hrx]
        have he : eGcds zs = 2 := by simp [eGcds, all_not zs k x HX.out hrx]
        have hv := Lib.hid hv
        have he := Lib.hid he
        go_wp2_with (go_at_call 83; refine (in_one _ _).mono ?_; rintro e w' ⟨rfl, rfl⟩)
        go_ret2
        exact ⟨ret_two' hv.out.symm he.out.symm, hbl.alloc hbl.size _⟩
      | true =>
        have HG := Lib.hid (fun W => gcd_any g x W (by omega) (rng_yes hrx))
        have hgi := Lib.hid (gcd_in hg hrx)
        have hal2 := Lib.hid (all_more zs k x HX.out hal.out hrx)
        have hgl2 : Hid ((Int.gcd g x : Int) = gl (zs.take (k + 1))) := Lib.hid (by rw [gl_snoc zs k x HX.out, ← hgl.out])
        generalize (Int.gcd g x : Int) = g2 at *
        go_wp2_with (first
          | (go_at_call 83; refine (in_one _ _).mono ?_; rintro e w' ⟨rfl, rfl⟩)
          | (go_at_call 84; refine (HG.out _).mono ?_; rintro e w' ⟨rfl, m, rfl⟩))
        go_roundw
        case rel => exact ⟨k + 1, g2, by omega, rfl, rfl, hgi.out, hgl2, hal2, below_drewN (hbl.alloc hbl.size _) _⟩
        case measure => simp [intOf]; omega
    · obtain rfl : n = k := by omega
      have hal := hal.out
      have hgl := hgl.out
      rw [List.take_of_length_le (by rw [hlen.out]; omega)] at hal hgl
      have hv : vGcds zs = g := by simp [vGcds, hal, hgl]
      have he : eGcds zs = 0 := by simp [eGcds, hal]
      have hv := Lib.hid hv
      have he := Lib.hid he
      clear hal hgl
      go_wp2
      go_ret2
      exact ⟨ret_two' hv.out.symm he.out.symm, hbl⟩

set_option maxHeartbeats 1000000 in
theorem rGcds_any (A : Option Addr) (n c : Nat) (zs : List Int) (w : World) (hr : Reads w w.heap.size 1 A n (zs.map (Value.int .i64))) (hn : n ≤ 10000) :
    Calls Try.prog 48 #[.slice A n c] w fun e w' => e = .returned (.tuple #[.int .i64 (vGcds zs), .int .i64 (eGcds zs)]) ∧ Below w.heap.size w w' := by
  have hlen := Lib.hid (show zs.length = n by have := hr.1; simpa using this)
  go_enter Try.func48, Try.ntmps48
  go_wp2
  go_loopw [4, 5] (fun s4 s9 wr => ∃ (k : Nat) (g : Int), k ≤ n ∧ s4 = .int .i64 g ∧ s9 = .int .i64 k ∧ (0 ≤ g ∧ g ≤ 4611686018427387904) ∧ Hid (g = gl (zs.take k)) ∧ Hid ((zs.take k).all rng = true) ∧ Below w.heap.size w wr) (fun _ s9 _ => n - (intOf s9).toNat)
  case atStart => exact ⟨0, 0, Nat.zero_le _, rfl, rfl, by omega, Lib.hid rfl, Lib.hid rfl, Below.refl _ _⟩
  case round =>
    obtain ⟨k, g, hk, rfl, rfl, hg, hgl, hal, hbl⟩ := hrel
    by_cases hlt : k < n
    · obtain ⟨ad, u, rfl, hB, hu, hc⟩ := (hr.below hbl).at_ hlt
      rw [List.getElem?_map] at hu
      obtain ⟨x, hx, rfl⟩ := Option.map_eq_some_iff.1 hu
      have HX := Lib.hid hx
      clear hx hu
      have HG := Lib.hid (fun W => rGcd_any g x W)
      have hrg : rng g = true := rng_of (by omega)
      cases hrx : rng x with
      | false =>
        have hv : vGcds zs = 0 := by simp [vGcds, all_not zs k x HX.out hrx]
        have he : eGcds zs = 2 := by simp [eGcds, all_not zs k x HX.out hrx]
        have hv := Lib.hid hv
        have he := Lib.hid he
        have f1 : vGcd g x = 0 := by simp [vGcd, hrx]
        have f2 : eIn g x = 2 := by simp [eIn, hrx]
        rw [f1, f2] at HG
        clear f1 f2
        go_wp2_with (go_at_call 54; refine (HG.out _).mono ?_; rintro e w' ⟨rfl, m, rfl⟩)
        go_ret2
        exact ⟨ret_two' hv.out.symm he.out.symm, below_drewN hbl _⟩
      | true =>
        have f1 : vGcd g x = (Int.gcd g x : Int) := by simp [vGcd, hrx, hrg]
        have f2 : eIn g x = 0 := by simp [eIn, hrx, hrg]
        rw [f1, f2] at HG
        clear f1 f2
        have hgi := Lib.hid (gcd_in hg hrx)
        have hal2 := Lib.hid (all_more zs k x HX.out hal.out hrx)
        have hgl2 : Hid ((Int.gcd g x : Int) = gl (zs.take (k + 1))) := Lib.hid (by rw [gl_snoc zs k x HX.out, ← hgl.out])
        generalize (Int.gcd g x : Int) = g2 at *
        go_wp2_with (go_at_call 54; refine (HG.out _).mono ?_; rintro e w' ⟨rfl, m, rfl⟩)
        go_roundw
        case rel => exact ⟨k + 1, g2, by omega, rfl, rfl, hgi.out, hgl2, hal2, below_drewN hbl _⟩
        case measure => simp [intOf]; omega
    · obtain rfl : n = k := by omega
      have hal := hal.out
      have hgl := hgl.out
      rw [List.take_of_length_le (by rw [hlen.out]; omega)] at hal hgl
      have hv : vGcds zs = g := by simp [vGcds, hal, hgl]
      have he : eGcds zs = 0 := by simp [eGcds, hal]
      have hv := Lib.hid hv
      have he := Lib.hid he
      clear hal hgl
      go_wp2
      go_ret2
      exact ⟨ret_two' hv.out.symm he.out.symm, hbl⟩

set_option maxRecDepth 20000 in
set_option maxHeartbeats 1000000 in
theorem rDot_any (A B : Option Addr) (n m c d : Nat) (xs ys : List Int) (w : World) (hr : Reads w w.heap.size 1 A n (xs.map (Value.int .i64))) (hq : Reads w w.heap.size 1 B m (ys.map (Value.int .i64))) (hn : n ≤ 60) (hm : m ≤ 60) :
    Calls Try.prog 52 #[.slice A n c, .slice B m d] w fun e w' => e = .returned (.tuple #[.int .i64 (vDot xs ys), .int .i64 (eDot xs ys)]) ∧ Below w.heap.size w w' := by
  have hl1 := Lib.hid (show xs.length = n by have := hr.1; simpa using this)
  have hl2 := Lib.hid (show ys.length = m by have := hq.1; simpa using this)
  by_cases hnm : n = m
  · subst hnm
    cases ha : (xs.all rng && ys.all rng)
    · have he : eDot xs ys = 2 := by simp [eDot, hl1.out, hl2.out, ha]
      have hv : vDot xs ys = 0 := by simp [vDot, hl1.out, hl2.out, ha]
      rw [he, hv]
      have HA := Lib.hid ha
      have hnn : ((n : Int) == n) = true := by simp
      have hnn' : ((n : Int) != n) = false := by simp
      clear he hv ha
      go_enter Try.func52, Try.ntmps52
      go_wp2
      go_loop [6] (fun i => ∃ k : Nat, k ≤ n ∧ i = .int .i64 k ∧ Hid ((xs.take k).all rng = true ∧ (ys.take k).all rng = true)) (fun i => n - (intOf i).toNat)
      case atStart => exact ⟨0, Nat.zero_le _, rfl, Lib.hid ⟨rfl, rfl⟩⟩
      case round =>
        obtain ⟨k, hk, rfl, hal⟩ := hrel
        by_cases hlt : k < n
        · obtain ⟨ad, u, rfl, hB, hu, hc⟩ := hr.at_ hlt
          rw [List.getElem?_map] at hu
          obtain ⟨x, hx, rfl⟩ := Option.map_eq_some_iff.1 hu
          obtain ⟨ae, v, rfl, hB', hv, hc'⟩ := hq.at_ hlt
          rw [List.getElem?_map] at hv
          obtain ⟨y, hy, rfl⟩ := Option.map_eq_some_iff.1 hv
          have HX := Lib.hid hx
          have HY := Lib.hid hy
          clear hx hu hy hv
          cases hrx : rng x with
          | false =>
            go_wp2_with (go_at_call 16; refine (In_any _ _).mono ?_; rintro e w' ⟨rfl, rfl⟩)
            go_ret2
            exact ⟨rfl, Below.refl _ _⟩
          | true =>
            cases hry : rng y with
            | false =>
              go_wp2_with (go_at_call 16; refine (In_any _ _).mono ?_; rintro e w' ⟨rfl, rfl⟩)
              go_ret2
              exact ⟨rfl, Below.refl _ _⟩
            | true =>
              have hal2 := Lib.hid (And.intro (all_more xs k x HX.out hal.out.1 hrx) (all_more ys k y HY.out hal.out.2 hry))
              go_wp2_with (go_at_call 16; refine (In_any _ _).mono ?_; rintro e w' ⟨rfl, rfl⟩)
              go_round
              case rel => exact ⟨k + 1, by omega, by go_num, hal2⟩
              case measure => simp [intOf]; omega
        · exfalso
          obtain rfl : n = k := by omega
          have h1 := hal.out.1
          have h2 := hal.out.2
          rw [List.take_of_length_le (by rw [hl1.out]; omega)] at h1
          rw [List.take_of_length_le (by rw [hl2.out]; omega)] at h2
          have h3 := HA.out
          rw [h1, h2] at h3
          cases h3
    · have he : eDot xs ys = eR (dot xs ys) := by simp [eDot, hl1.out, hl2.out, ha]
      have hv : vDot xs ys = vR (dot xs ys) := by simp only [vDot, hl1.out, hl2.out, Bool.and_assoc, ha]; simp
      rw [he, hv]
      have := Bool.and_eq_true_iff.1 ha
      exact rDot_in A B n c d xs ys w hr hq hn this.1 this.2
  · have hb : (n == m) = false := by simpa using hnm
    have he : eDot xs ys = 1 := by simp [eDot, hl1.out, hl2.out, hb]
    have hv : vDot xs ys = 0 := by simp [vDot, hl1.out, hl2.out, hb]
    rw [he, hv]
    have hnn : ((n : Int) == m) = false := by simp; omega
    have hnn' : ((n : Int) != m) = true := by simp; omega
    clear he hv hnm
    go_enter Try.func52, Try.ntmps52
    go_wp2
    go_ret2
    exact ⟨rfl, Below.refl _ _⟩
end Go.Proofs.Ytpdpkmihgelmoaa
