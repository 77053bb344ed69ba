/-
  The walks of Sum and Dot of intmath.
-/
import Derived.Test.YtpdpkmihgelmoaaIntJ
namespace Go.Proofs.Ytpdpkmihgelmoaa
open Go.RowKit

theorem tadd_any (g P N : Nat) (a b : Int) (w : World) (ha : -4611686018427387904 ≤ a ∧ a ≤ 4611686018427387904) (hb : -4611686018427387904 ≤ b ∧ b ≤ 4611686018427387904)
    (h : P + N + a.natAbs * b.natAbs < 6277101735386680763835789423207666416102355444464034512896) (hw : Blk w g 97 (trip P N)) :
    Calls Try.prog 94 #[.pointer (some ⟨g, 0, none⟩), .int .i64 a, .int .i64 b] w fun e w' => e = .returned (.tuple #[]) ∧
      ∃ P' N' : Nat, Blk w' g 97 (trip P' N') ∧ Hid ((P' : Int) - N' = (P : Int) - N + a * b) ∧ Hid (P' + N' = P + N + a.natAbs * b.natAbs) ∧ w.grownBy w' (some g) := by
  cases hs : (!decide (a < 0) == decide (b < 0))
  · refine (tadd_same g P N a b w ha hb (by omega) hs hw).mono ?_
    rintro e w' ⟨rfl, h1, h2⟩
    refine ⟨rfl, _, _, h1, Lib.hid ?_, Lib.hid (by omega), h2⟩
    rw [mul_sign_same a b hs]
    omega
  · refine (tadd_diff g P N a b w ha hb (by omega) hs hw).mono ?_
    rintro e w' ⟨rfl, h1, h2⟩
    refine ⟨rfl, _, _, h1, Lib.hid ?_, Lib.hid (by omega), h2⟩
    rw [mul_sign_diff a b hs]
    omega

/-- The sum of the products of two lists. -/
def dot : List Int → List Int → Int
  | a :: l, b :: m => a * b + dot l m
  | _, _ => 0
theorem dot_snoc (k : Nat) (xs ys : List Int) (x y : Int) (hx : xs[k]? = some x) (hy : ys[k]? = some y) : dot (xs.take (k + 1)) (ys.take (k + 1)) = dot (xs.take k) (ys.take k) + x * y := by
  induction k generalizing xs ys with
  | zero =>
    cases xs <;> cases ys <;> simp_all [dot]
  | succ k ih =>
    cases xs with
    | nil => simp at hx
    | cons a l =>
      cases ys with
      | nil => simp at hy
      | cons b m =>
        have := ih l m (by simpa using hx) (by simpa using hy)
        simp only [List.take_succ_cons, dot] at this ⊢
        rw [this]
        omega
theorem dot_ones (zs : List Int) : ∀ m, zs.length ≤ m → dot zs (List.replicate m 1) = zs.sum := by
  induction zs with
  | nil => intro m _; cases m <;> simp [dot]
  | cons a l ih =>
    intro m hm
    cases m with
    | zero => simp at hm
    | succ m =>
      have := ih m (by simpa using hm)
      simp [List.replicate_succ, dot, this]
theorem sum_snoc (k : Nat) (zs : List Int) (x : Int) (hx : zs[k]? = some x) : (zs.take (k + 1)).sum = (zs.take k).sum + x := by
  have hk : k < zs.length := (List.getElem?_eq_some_iff.1 hx).1
  have e : zs[k] = x := by rw [List.getElem?_eq_getElem hk] at hx; exact Option.some.inj hx
  rw [List.take_succ_eq_append_getElem hk, List.sum_append, e]
  simp

def vSum (zs : List Int) : Int := bif zs.all rng then vR zs.sum else 0
def eSum (zs : List Int) : Int := bif zs.all rng then eR zs.sum else 2
theorem all_at {zs : List Int} (h : zs.all rng = true) {k : Nat} {x : Int} (hx : zs[k]? = some x) : -4611686018427387904 ≤ x ∧ x ≤ 4611686018427387904 :=
  rng_yes (List.all_eq_true.1 h x (List.mem_of_getElem? hx))
theorem prod_le {a b : Int} (ha : -4611686018427387904 ≤ a ∧ a ≤ 4611686018427387904) (hb : -4611686018427387904 ≤ b ∧ b ≤ 4611686018427387904) : a.natAbs * b.natAbs ≤ 21267647932558653966460912964485513216 := by
  have := Nat.mul_le_mul (show a.natAbs ≤ 4611686018427387904 by omega) (show b.natAbs ≤ 4611686018427387904 by omega)
  omega

set_option maxRecDepth 20000 in
set_option maxHeartbeats 1000000 in
theorem Sum_any (A : Option Addr) (n c : Nat) (zs : List Int) (w : World) (hr : Reads w w.heap.size 1 A n (zs.map (Value.int .i64))) (hn : n ≤ 10000) :
    Calls Try.prog 49 #[.slice A n c] w fun e w' => e = .returned (.tuple #[.int .i64 (vSum zs), .int .i64 (eSum zs)]) ∧ Below w.heap.size w w' := by
  have H1 := Lib.hid (in_any A n c zs w w.heap.size hr (by omega))
  have hlen := Lib.hid (show zs.length = n by have := hr.1; simpa using this)
  cases ha : zs.all rng
  · have he : eSum zs = 2 := by simp only [eSum, ha, cond_false]
    have hv : vSum zs = 0 := by simp only [vSum, ha, cond_false]
    rw [ha] at H1
    rw [he, hv]
    clear he hv ha
    go_enter Try.func49, Try.ntmps49
    go_wp2_with (go_at_call 83; refine H1.out.mono ?_; rintro e w' ⟨rfl, rfl⟩)
    go_ret2
    exact ⟨rfl, Below.refl _ _⟩
  · have he : eSum zs = eR zs.sum := by simp only [eSum, ha, cond_true]
    have hv : vSum zs = vR zs.sum := by simp only [vSum, ha, cond_true]
    rw [ha] at H1
    rw [he, hv]
    have HA := Lib.hid ha
    clear he hv ha
    go_enter Try.func49, Try.ntmps49
    go_wp2_with (go_at_call 83; refine H1.out.mono ?_; rintro e w' ⟨rfl, rfl⟩)
    go_loopw [15] (fun i wr => ∃ k P N : Nat, k ≤ n ∧ i = .int .i64 k ∧ Blk wr w.heap.size 97 (trip P N) ∧ Hid ((P : Int) - N = (zs.take k).sum) ∧ Hid (P + N ≤ k * 21267647932558653966460912964485513216) ∧ Below w.heap.size w wr) (fun i _ => n - (intOf i).toNat)
    case atStart => exact ⟨0, 0, 0, Nat.zero_le _, rfl, Blk.new _ _ _, Lib.hid (by simp), Lib.hid (by omega), (Below.refl _ _).alloc (Nat.le_refl _) _⟩
    case round =>
      obtain ⟨k, P, N, hk, rfl, hblk, hs, hbd, hbl⟩ := hrel
      by_cases hlt : k < n
      · obtain ⟨ad, u, rfl, hB, hu, hc⟩ := (hr.below hbl).at_ hlt
        rw [List.getElem?_map] at hu
        obtain ⟨x, hx, rfl⟩ := Option.map_eq_some_iff.1 hu
        have hxr := all_at HA.out hx
        have HC := Lib.hid (tadd_any w.heap.size P N x 1 wr hxr (by omega) (by have := hbd.out; have h2 := prod_le hxr (b := 1) (by omega); omega) hblk)
        have HX := Lib.hid hx
        have HP := Lib.hid (prod_le hxr (b := 1) (by omega))
        clear hx hu hxr hblk
        go_wp2_with (go_at_call 94; refine HC.out.mono ?_; rintro e w' ⟨rfl, P', N', hblk', hs', hbd', hg⟩)
        go_roundw
        case rel => exact ⟨k + 1, P', N', by omega, by go_num, hblk', Lib.hid (by have h1 := hs'.out; have h2 := hs.out; rw [sum_snoc k zs x HX.out]; omega), Lib.hid (by have h1 := hbd'.out; have h2 := hbd.out; have h3 := HP.out; omega), hbl.grown hg hbl.size (by rintro _ ⟨⟩; exact Nat.le_refl _)⟩
        case measure => simp [intOf]; omega
      · have hkn : k = n := by omega
        subst hkn
        have HT := Lib.hid (tvalue_any w.heap.size P N wr (by have := hbd.out; omega) (by have := hbd.out; omega) hblk)
        have HZ : Hid ((P : Int) - N = zs.sum) := Lib.hid (by have := hs.out; rw [List.take_of_length_le (by rw [hlen.out]; omega)] at this; exact this)
        clear hblk
        go_wp2_with (go_at_call 95; refine HT.out.mono ?_; rintro e w' ⟨rfl, hb⟩)
        go_ret2
        exact ⟨ret_two' (by rw [HZ.out]) (by rw [HZ.out]), hbl.trans (hb.mono hbl.size)⟩

def vDot (xs ys : List Int) : Int := bif xs.length == ys.length && xs.all rng && ys.all rng then vR (dot xs ys) else 0
def eDot (xs ys : List Int) : Int := bif xs.length == ys.length then (bif xs.all rng && ys.all rng then eR (dot xs ys) else 2) else 1

set_option maxRecDepth 20000 in
set_option maxHeartbeats 1000000 in
theorem Dot_any (A B : Option Addr) (n m c d : Nat) (xs ys : List Int) (w : World) (hr : Reads w w.heap.size 1 A n (xs.map (Value.int .i64))) (hq : Reads w w.heap.size 1 B m (ys.map (Value.int .i64))) (hn : n ≤ 10000) (hm : m ≤ 10000) :
    Calls Try.prog 51 #[.slice A n c, .slice B m d] w fun e w' => e = .returned (.tuple #[.int .i64 (vDot xs ys), .int .i64 (eDot xs ys)]) ∧ Below w.heap.size w w' := by
  have H1 := Lib.hid (in_any A n c xs w w.heap.size hr (by omega))
  have H2 := Lib.hid (in_any B m d ys w w.heap.size hq (by omega))
  have hl1 := Lib.hid (show xs.length = n by have := hr.1; simpa using this)
  have hl2 := Lib.hid (show ys.length = m by have := hq.1; simpa using this)
  by_cases hnm : n = m
  · subst hnm
    have hll : (xs.length == ys.length) = true := by rw [hl1.out, hl2.out]; simp
    have hnn : ((n : Int) == n) = true := by simp
    have hnn' : ((n : Int) != n) = false := by simp
    cases ha : xs.all rng
    · have he : eDot xs ys = 2 := by simp only [eDot, hll, ha, cond_true, Bool.false_and, cond_false]
      have hv : vDot xs ys = 0 := by simp only [vDot, hll, ha, Bool.and_false, Bool.false_and, cond_false]
      rw [ha] at H1
      rw [he, hv]
      clear he hv ha hll H2
      go_enter Try.func51, Try.ntmps51
      go_wp2_with (go_at_call 83; refine H1.out.mono ?_; rintro e w' ⟨rfl, rfl⟩)
      go_ret2
      exact ⟨rfl, Below.refl _ _⟩
    · cases hb : ys.all rng
      · have he : eDot xs ys = 2 := by simp only [eDot, hll, ha, hb, cond_true, Bool.and_false, cond_false]
        have hv : vDot xs ys = 0 := by simp only [vDot, hll, ha, hb, Bool.and_false, cond_false]
        rw [ha] at H1
        rw [hb] at H2
        rw [he, hv]
        clear he hv ha hb hll
        go_enter Try.func51, Try.ntmps51
        go_wp2_with fail
        refine H1.out.mono ?_
        rintro e w' ⟨rfl, rfl⟩
        go_wp2_with fail
        refine H2.out.mono ?_
        rintro e w' ⟨rfl, rfl⟩
        go_wp2
        go_ret2
        exact ⟨rfl, Below.refl _ _⟩
      · have he : eDot xs ys = eR (dot xs ys) := by simp only [eDot, hll, ha, hb, cond_true, Bool.and_self]
        have hv : vDot xs ys = vR (dot xs ys) := by simp only [vDot, hll, ha, hb, cond_true, Bool.and_self]
        rw [ha] at H1
        rw [hb] at H2
        rw [he, hv]
        have HA := Lib.hid ha
        have HB := Lib.hid hb
        clear he hv ha hb hll
        go_enter Try.func51, Try.ntmps51
        go_wp2_with fail
        refine H1.out.mono ?_
        rintro e w' ⟨rfl, rfl⟩
        go_wp2_with fail
        refine H2.out.mono ?_
        rintro e w' ⟨rfl, rfl⟩
        go_wp2
        go_loopw [30] (fun i wr => ∃ k P N : Nat, k ≤ n ∧ i = .int .i64 k ∧ Blk wr w.heap.size 97 (trip P N) ∧ Hid ((P : Int) - N = dot (xs.take k) (ys.take k)) ∧ Hid (P + N ≤ k * 21267647932558653966460912964485513216) ∧ Below w.heap.size w wr) (fun i _ => n - (intOf i).toNat)
        case atStart => exact ⟨0, 0, 0, Nat.zero_le _, rfl, Blk.new _ _ _, Lib.hid (by simp [dot]), Lib.hid (by omega), (Below.refl _ _).alloc (Nat.le_refl _) _⟩
        case round =>
          obtain ⟨k, P, N, hk, rfl, hblk, hs, hbd, hbl⟩ := hrel
          by_cases hlt : k < n
          · obtain ⟨ad, u, rfl, hB, hu, hc⟩ := (hr.below hbl).at_ hlt
            rw [List.getElem?_map] at hu
            obtain ⟨x, hx, rfl⟩ := Option.map_eq_some_iff.1 hu
            obtain ⟨ae, v, rfl, hB', hv, hc'⟩ := (hq.below hbl).at_ hlt
            rw [List.getElem?_map] at hv
            obtain ⟨y, hy, rfl⟩ := Option.map_eq_some_iff.1 hv
            have hxr := all_at HA.out hx
            have hyr := all_at HB.out hy
            have HC := Lib.hid (tadd_any w.heap.size P N x y wr hxr hyr (by have := hbd.out; have h2 := prod_le hxr hyr; omega) hblk)
            have HX := Lib.hid hx
            have HY := Lib.hid hy
            have HP := Lib.hid (prod_le hxr hyr)
            clear hx hu hxr hy hv hyr hblk
            go_wp2_with (go_at_call 94; refine HC.out.mono ?_; rintro e w' ⟨rfl, P', N', hblk', hs', hbd', hg⟩)
            go_roundw
            case rel => exact ⟨k + 1, P', N', by omega, by go_num, hblk', Lib.hid (by have h1 := hs'.out; have h2 := hs.out; rw [dot_snoc k xs ys x y HX.out HY.out]; omega), Lib.hid (by have h1 := hbd'.out; have h2 := hbd.out; have h3 := HP.out; omega), hbl.grown hg hbl.size (by rintro _ ⟨⟩; exact Nat.le_refl _)⟩
            case measure => simp [intOf]; omega
          · have hkn : k = n := by omega
            subst hkn
            have HT := Lib.hid (tvalue_any w.heap.size P N wr (by have := hbd.out; omega) (by have := hbd.out; omega) hblk)
            have HZ : Hid ((P : Int) - N = dot xs ys) := Lib.hid (by have := hs.out; rw [List.take_of_length_le (by rw [hl1.out]; omega), List.take_of_length_le (by rw [hl2.out]; omega)] at this; exact this)
            clear hblk
            go_wp2_with (go_at_call 95; refine HT.out.mono ?_; rintro e w' ⟨rfl, hb⟩)
            go_ret2
            exact ⟨ret_two' (by rw [HZ.out]) (by rw [HZ.out]), hbl.trans (hb.mono hbl.size)⟩
  · have hll : (xs.length == ys.length) = false := by rw [hl1.out, hl2.out]; simpa using hnm
    have he : eDot xs ys = 1 := by simp only [eDot, hll, cond_false]
    have hv : vDot xs ys = 0 := by simp only [vDot, hll, Bool.false_and, cond_false]
    have hnn : ((n : Int) == m) = false := by simpa using (show ¬ (n : Int) = m by omega)
    rw [he, hv]
    clear he hv hll
    go_enter Try.func51, Try.ntmps51
    go_wp2
    go_ret2
    exact ⟨rfl, Below.refl _ _⟩
end Go.Proofs.Ytpdpkmihgelmoaa
