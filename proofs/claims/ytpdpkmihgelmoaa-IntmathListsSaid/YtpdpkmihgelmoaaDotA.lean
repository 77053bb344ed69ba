/-
  The walk of Dot of the reference: long sums in the base 2^21.
-/
import Derived.Test.YtpdpkmihgelmoaaRefB
import Derived.Test.YtpdpkmihgelmoaaDig
import Derived.Deep.DeepCutAuto
import Derived.Deep.RegionHeld3
namespace Go.Proofs.Ytpdpkmihgelmoaa
open Go.RowKit

set_option maxHeartbeats 400000 in
theorem digits_any (n : Int) (w : World) (h : -4611686018427387904 ≤ n ∧ n ≤ 4611686018427387904) :
    Calls Try.prog 96 #[.int .i64 n] w fun e w' => e = .returned (.agg #[.int .i64 (n.tmod 2097152), .int .i64 ((n.tdiv 2097152).tmod 2097152), .int .i64 ((n.tdiv 2097152).tdiv 2097152)]) ∧ w.alloc (.cells #[.int .i64 (n.tmod 2097152), .int .i64 ((n.tdiv 2097152).tmod 2097152), .int .i64 ((n.tdiv 2097152).tdiv 2097152)] 31) = w' := by
  obtain ⟨h1, h2⟩ := h
  obtain ⟨-, b1, b2, b3⟩ := tdigits n ⟨h1, h2⟩
  have b4 : -4611686018427387904 ≤ n.tdiv 2097152 ∧ n.tdiv 2097152 ≤ 4611686018427387904 := tdiv_in n 2097152 ⟨h1, h2⟩ (by omega)
  go_enter Try.func96, Try.ntmps96
  go_wp2
  exact bodyPost_ret (v := .agg #[.int .i64 (n.tmod 2097152), .int .i64 ((n.tdiv 2097152).tmod 2097152), .int .i64 ((n.tdiv 2097152).tdiv 2097152)]) (by simp [results, Try.results96, go_sem]) rfl ⟨rfl, rfl⟩

theorem cell_far {wr W : World} {p : Addr} {v : Value} (hg : Below wr.heap.size wr W) (h : wr.cell? p = some v) (hp : p.block < wr.heap.size) : W.cell? p = some v := (hg.cell hp).trans h

/-- Each number of the list is at most b in absolute value. -/
def AllLe (L : List Int) (b : Nat) : Prop := ∀ (m : Nat) (c : Int), L[m]? = some c → c.natAbs ≤ b

def cellsOf (L : List Int) : Array Value := (L.map (Value.int .i64)).toArray

theorem Blk.new_at {w : World} {g : Nat} (t : TypeId) (cs : Array Value) (h : g = w.heap.size) : Blk (w.alloc (.cells cs t)) g t cs := by subst h; exact Blk.new w t cs
theorem cells_at {L : List Int} {m : Nat} {c : Int} (h : L[m]? = some c) : (cellsOf L)[m]? = some (.int .i64 c) := by
  unfold cellsOf
  simp [h]
theorem cells_set (L : List Int) (m : Nat) (c : Int) : (cellsOf L).setIfInBounds m (.int .i64 c) = cellsOf (L.set m c) := by
  unfold cellsOf
  simp [List.map_set]
theorem AllLe.set_ {L : List Int} {b b' : Nat} (h : AllLe L b) (hb : b ≤ b') (m : Nat) (c : Int) (hc : c.natAbs ≤ b') : AllLe (L.set m c) b' := by
  intro j d hj
  rcases Nat.lt_or_ge j L.length with hl | hl
  · by_cases e : m = j
    · subst e
      rw [List.getElem?_set_self hl] at hj
      cases hj
      exact hc
    · rw [List.getElem?_set_ne e] at hj
      exact Nat.le_trans (h j d hj) hb
  · rw [List.getElem?_eq_none (by simpa using hl)] at hj
    cases hj
theorem val_snoc (X : List Int) (j : Nat) (x : Int) (h : X[j]? = some x) : val (X.take (j + 1)) = val (X.take j) + x * 2097152 ^ j := by
  have hj : j < X.length := (List.getElem?_eq_some_iff.1 h).1
  have e : X[j] = x := by rw [List.getElem?_eq_getElem hj] at h; exact Option.some.inj h
  induction X generalizing j with
  | nil => simp at hj
  | cons d l ih =>
    cases j with
    | zero => simp at e; simp [val, e]
    | succ j =>
      have := ih j (by simpa using h) (by simpa using hj) (by simpa using e)
      simp only [List.take_succ_cons, val, this]
      rw [Int.mul_add, Int.pow_succ]
      have e2 : 2097152 * (x * 2097152 ^ j) = x * (2097152 ^ j * 2097152) := by rw [Int.mul_left_comm, Int.mul_comm 2097152 (2097152 ^ j)]
      omega

theorem AllLe.mono {L : List Int} {b b' : Nat} (h : AllLe L b) (hb : b = b') : AllLe L b' := hb ▸ h
@[irreducible] def bnd (k j m : Nat) : Nat := k * 39582418599936 + j * 13194139533312 + m * 4398046511104
theorem bnd_nil : bnd 0 0 0 = 0 := by simp [bnd]
theorem bnd3 (k j : Nat) : bnd k j 3 = bnd k (j + 1) 0 := by unfold bnd; omega
theorem bnd4 (k : Nat) : bnd k 3 0 = bnd (k + 1) 0 0 := by unfold bnd; omega
theorem bnd_le {k j m : Nat} (h : k < 60) (hj : j < 3) (hm : m < 3) : bnd k j m ≤ 2374945115996160 := by unfold bnd; omega
theorem bnd_le0 {k : Nat} (h : k ≤ 60) : bnd k 0 0 ≤ 2374945115996160 := by unfold bnd; omega
theorem bnd_mono (k j m : Nat) : bnd k j m ≤ bnd k j (m + 1) := by unfold bnd; omega
theorem bnd_step {k j m : Nat} {c p : Int} (hc : c.natAbs ≤ bnd k j m) (hp : p.natAbs ≤ 4398046511104) : (c + p).natAbs ≤ bnd k j (m + 1) := by unfold bnd at *; omega

/-- Behind k rounds: the first one. -/
def InM (w : World) (xs ys : List Int) (k : Nat) (L : List Int) (wr : World) : Prop :=
  L.length = 8 ∧ Blk wr w.heap.size 99 (cellsOf L) ∧ val L = dot (xs.take k) (ys.take k) ∧ AllLe L (bnd k 0 0) ∧ Below w.heap.size w wr
/-- Digits below i lie from 0 to the base less one. -/
def Dig (i : Nat) (L : List Int) : Prop := ∀ (j : Nat) (c : Int), L[j]? = some c → (j < i → 0 ≤ c ∧ c ≤ 2097151) ∧ (j = i → c.natAbs ≤ 9007199254740992) ∧ (i < j → c.natAbs ≤ 2374945115996160)
def InN (w : World) (D : Int) (i : Nat) (N : List Int) (wr : World) : Prop :=
  N.length = 8 ∧ Blk wr w.heap.size 99 (cellsOf N) ∧ val N = D ∧ Dig i N ∧ Below w.heap.size w wr
theorem Dig.zero {L : List Int} {b : Nat} (h : AllLe L b) (hb : b ≤ 2374945115996160) : Dig 0 L := by
  intro j c hc
  have := h j c hc
  refine ⟨fun h => absurd h (by omega), fun _ => by omega, fun _ => by omega⟩
theorem Dig.step {i : Nat} {L : List Int} (h : Dig i L) (hl : L.length = 8) {c d : Int} (hc : L[i]? = some c) (hd : L[i + 1]? = some d) : Dig (i + 1) ((L.set i (c - c / 2097152 * 2097152)).set (i + 1) (d + c / 2097152)) := by
  intro j z hz
  have h1 := (h i c hc).2.1 rfl
  have h2 := (h (i + 1) d hd).2.2 (by omega)
  have hi1 : i + 1 < L.length := (List.getElem?_eq_some_iff.1 hd).1
  by_cases ej : i + 1 = j
  · subst ej
    rw [List.getElem?_set_self (by simpa using hi1)] at hz
    cases hz
    refine ⟨fun h => absurd h (by omega), fun _ => by omega, fun h => absurd h (by omega)⟩
  · rw [List.getElem?_set_ne ej] at hz
    by_cases ei : i = j
    · subst ei
      rw [List.getElem?_set_self (by omega)] at hz
      cases hz
      refine ⟨fun _ => by omega, fun h => absurd h (by omega), fun h => absurd h (by omega)⟩
    · rw [List.getElem?_set_ne ei] at hz
      have := h j z hz
      refine ⟨fun _ => this.1 (by omega), fun h => absurd h (by omega), fun _ => this.2.2 (by omega)⟩
theorem fdiv_base (c : Int) (h : c.natAbs ≤ 9007199254740992) : vDiv Int.fdiv c 2097152 = c / 2097152 ∧ eDiv c 2097152 = 0 := by
  have h1 : rng c = true := rng_of (by omega)
  have h2 : rng 2097152 = true := rng_of (by omega)
  refine ⟨?_, by simp [eDiv, h1, h2]⟩
  rw [← Int.fdiv_eq_ediv_of_nonneg c (by omega : (0 : Int) ≤ 2097152)]
  simp [vDiv, h1, h2]
def InJ (w : World) (L X Y : List Int) (k p q j : Nat) (M : List Int) (wj : World) : Prop :=
  M.length = 8 ∧ Blk wj w.heap.size 99 (cellsOf M) ∧ Blk wj p 31 (cellsOf X) ∧ Blk wj q 31 (cellsOf Y) ∧ val M = val L + val (X.take j) * val Y ∧ AllLe M (bnd k j 0) ∧ Below w.heap.size w wj
def InK (w : World) (L X Y : List Int) (k p q j : Nat) (xj : Int) (m : Nat) (N : List Int) (wk : World) : Prop :=
  N.length = 8 ∧ Blk wk w.heap.size 99 (cellsOf N) ∧ Blk wk p 31 (cellsOf X) ∧ Blk wk q 31 (cellsOf Y) ∧ val N = val L + val (X.take j) * val Y + xj * 2097152 ^ j * val (Y.take m) ∧ AllLe N (bnd k j m) ∧ Below w.heap.size w wk

/-- What the two calls of digits leave: two new arrays. -/
def CutXY (wr : World) (X Y : List Int) (s9 s10 : Value) (wx : World) : Prop :=
  ∃ p q : Nat, s9 = .pointer (some ⟨p, 0, none⟩) ∧ s10 = .pointer (some ⟨q, 0, none⟩) ∧ Blk wx p 31 (cellsOf X) ∧ Blk wx q 31 (cellsOf Y) ∧ wr.heap.size ≤ p ∧ wr.heap.size ≤ q ∧ Below wr.heap.size wr wx

set_option maxRecDepth 20000 in
set_option maxHeartbeats 4000000 in
theorem rDot_in (A B : Option Addr) (n c d : Nat) (xs ys : List Int) (w : World) (hr : Reads w w.heap.size 1 A n (xs.map (Value.int .i64))) (hq : Reads w w.heap.size 1 B n (ys.map (Value.int .i64))) (hn : n ≤ 60)
    (hx : xs.all rng = true) (hy : ys.all rng = true) :
    Calls Try.prog 52 #[.slice A n c, .slice B n d] w fun e w' => e = .returned (.tuple #[.int .i64 (vR (dot xs ys)), .int .i64 (eR (dot xs ys))]) ∧ Below w.heap.size w w' := by
  have hl1 := Lib.hid (show xs.length = n by have := hr.1; simpa using this)
  have hl2 := Lib.hid (show ys.length = n by have := hq.1; simpa using this)
  have HX := Lib.hid hx
  have HY := Lib.hid hy
  have hnn : ((n : Int) == n) = true := by simp
  have hnn' : ((n : Int) != n) = false := by simp
  clear hx hy
  go_enter Try.func52, Try.ntmps52
  go_wp2
  go_loop [6] (fun i => ∃ k : Nat, k ≤ n ∧ i = .int .i64 k) (fun i => n - (intOf i).toNat)
  case atStart => exact ⟨0, Nat.zero_le _, rfl⟩
  case round =>
    obtain ⟨k, hk, rfl⟩ := hrel
    by_cases hlt : k < n
    · obtain ⟨ad, u, rfl, hB, hu, hc⟩ := hr.at_ hlt
      rw [List.getElem?_map] at hu
      obtain ⟨x, hx, rfl⟩ := Option.map_eq_some_iff.1 hu
      obtain ⟨ae, v, rfl, hB', hv, hc'⟩ := hq.at_ hlt
      rw [List.getElem?_map] at hv
      obtain ⟨y, hy, rfl⟩ := Option.map_eq_some_iff.1 hv
      have hrx : rng x = true := rng_of (all_at HX.out hx)
      have hry : rng y = true := rng_of (all_at HY.out hy)
      clear hx hu hy hv
      go_wp2_with (go_at_call 16; refine (In_any _ _).mono ?_; rintro e w' ⟨rfl, rfl⟩)
      go_round
      case rel => exact ⟨k + 1, by omega, by go_num⟩
      case measure => simp [intOf]; omega
    · obtain rfl : n = k := by omega
      clear hlt
      go_wp2
      go_loopw [8] (fun i wr => ∃ (k : Nat) (L : List Int), k ≤ n ∧ i = .int .i64 k ∧ InM w xs ys k L wr) (fun i _ => n - (intOf i).toNat)
      case atStart => exact ⟨0, [0, 0, 0, 0, 0, 0, 0, 0], Nat.zero_le _, rfl, rfl, Blk.new _ _ _, by simp [val, dot], (fun m c h => by have h1 : c ∈ [0, 0, 0, 0, 0, 0, 0, (0 : Int)] := List.mem_of_getElem? h; simp at h1; omega), (Below.refl _ _).alloc (Nat.le_refl _) _⟩
      case round =>
        obtain ⟨k, L, hk, rfl, hL, hblk, hv, hbd, hbl⟩ := hrel
        have hv := Lib.hid hv
        by_cases hlt : k < n
        · obtain ⟨ad, u, rfl, hB, hu, hc⟩ := (hr.below hbl).at_ hlt
          rw [List.getElem?_map] at hu
          obtain ⟨x, hx, rfl⟩ := Option.map_eq_some_iff.1 hu
          obtain ⟨ae, v, rfl, hB', hv, hc'⟩ := (hq.below hbl).at_ hlt
          rw [List.getElem?_map] at hv
          obtain ⟨y, hy, rfl⟩ := Option.map_eq_some_iff.1 hv
          have DX := Lib.hid (fun w => digits_any x w (all_at HX.out hx))
          have DY := Lib.hid (fun w => digits_any y w (all_at HY.out hy))
          obtain ⟨tx, tx0, tx1, tx2⟩ := tdigits x (all_at HX.out hx)
          obtain ⟨ty, ty0, ty1, ty2⟩ := tdigits y (all_at HY.out hy)
          have HXK := Lib.hid hx
          have HYK := Lib.hid hy
          clear hx hu hy hv
          generalize x.tmod 2097152 = x0 at *
          generalize (x.tdiv 2097152).tmod 2097152 = x1 at *
          generalize (x.tdiv 2097152).tdiv 2097152 = x2 at *
          generalize y.tmod 2097152 = y0 at *
          generalize (y.tdiv 2097152).tmod 2097152 = y1 at *
          generalize (y.tdiv 2097152).tdiv 2097152 = y2 at *
          have VX : Hid (val [x0, x1, x2] = x) := Lib.hid (by simp only [val]; omega)
          have VY : Hid (val [y0, y1, y2] = y) := Lib.hid (by simp only [val]; omega)
          have DXB : Hid (∀ (j : Nat) (z : Int), [x0, x1, x2][j]? = some z → z.natAbs ≤ 2097152) := Lib.hid (fun j z h => by have h1 : z ∈ [x0, x1, x2] := List.mem_of_getElem? h; simp at h1; omega)
          have DYB : Hid (∀ (j : Nat) (z : Int), [y0, y1, y2][j]? = some z → z.natAbs ≤ 2097152) := Lib.hid (fun j z h => by have h1 : z ∈ [y0, y1, y2] := List.mem_of_getElem? h; simp at h1; omega)
          clear tx ty tx0 tx1 tx2 ty0 ty1 ty2
          have l1 := World.block_lt_of_cell? wr _ hc
          have l2 := World.block_lt_of_cell? wr _ hc'
          go_upto_region 14 with fail
          go_cut [9, 10] (fun s9 s10 wx => CutXY wr [x0, x1, x2] [y0, y1, y2] s9 s10 wx)
          case first => as_aux_lemma =>
            go_region_held3 (fun w' => w'.cell? (ad.add k) = some (.int .i64 x) ∧ w'.cell? (ae.add k) = some (.int .i64 y))
              (first | (refine ⟨cell_far ?_ hc l1, cell_far ?_ hc' l2⟩ <;> (repeat (first | exact Below.refl _ _ | refine Below.drew ?_ | refine Below.alloc ?_ (by simp <;> omega) _ | refine Below.setCell ?_ (by simp <;> omega) _))))
              (first | (go_at_call 96; ((with_reducible refine (DX.out _).mono ?_); clear DX; rintro e w1 ⟨rfl, rfl⟩)) | (go_at_call 96; ((with_reducible refine (DY.out _).mono ?_); rintro e w1 ⟨rfl, rfl⟩)))
            all_goals go_wp2_with fail
            all_goals go_meet
            all_goals refine ⟨_, _, rfl, rfl, ?_, ?_, ?_, ?_, ?_⟩
            all_goals first
              | (refine Below.alloc (Below.alloc (Below.alloc (Below.alloc (Below.refl _ _) ?_ _) ?_ _) ?_ _) ?_ _ <;> (simp <;> omega))
              | (refine Below.drew (Below.alloc (Below.alloc (Below.alloc (Below.alloc (Below.refl _ _) ?_ _) ?_ _) ?_ _) ?_ _) <;> (simp <;> omega))
              | (refine Blk.new_at _ _ ?_; simp; done)
              | (refine Blk.alloc (Blk.new_at _ _ ?_) _; simp; done)
              | (refine Blk.alloc (Blk.alloc (Blk.new_at _ _ ?_) _) _; simp; done)
              | (refine Blk.alloc (Blk.alloc (Blk.alloc (Blk.new_at _ _ ?_) _) _) _; simp; done)
              | (simp; done)
              | (simp <;> omega)
              | (exact Nat.le_refl _)
              | omega
          case rest =>
            obtain ⟨p, q, rfl, rfl, hpX, hqY, hp, hq2, hbx⟩ := hcut
            have hgl := hblk.lt
            have hblkc := hblk.below hbx hgl
            have hblc := hbl.trans (hbx.mono hbl.size)
            have hpg : p ≠ w.heap.size := by omega
            have hqg : q ≠ w.heap.size := by omega
            obtain ⟨wo, rfl⟩ : ∃ wo : World, wo = wr := ⟨_, rfl⟩
            have VO := Lib.hid hv
            clear hc hc' l1 l2 DX DY hblk hbl hbx hp hq2 hv
            generalize hXL : [x0, x1, x2] = X at *
            generalize hYL : [y0, y1, y2] = Y at *
            have hXlen : X.length = 3 := by rw [← hXL]; rfl
            have hYlen : Y.length = 3 := by rw [← hYL]; rfl
            have HXlen := Lib.hid hXlen
            have HYlen := Lib.hid hYlen
            have HLlen := Lib.hid hL
            clear hXL hYL hXlen hYlen hL
            go_wp2
            go_loopw [11] (fun s11 wj => ∃ (j : Nat) (M : List Int), j ≤ 3 ∧ s11 = .int .i64 j ∧ InJ w L X Y k p q j M wj) (fun s11 _ => 3 - (intOf s11).toNat)
            case atStart => exact ⟨0, L, Nat.zero_le _, rfl, HLlen.out, hblkc, hpX, hqY, by simp [val], hbd, hblc⟩
            case round =>
              clear hblkc hpX hqY hblc
              obtain ⟨j, M, hj, rfl, hM, hbM, hbX, hbY, hvM, hbdM, hblM⟩ := hrel
              have hM := Lib.hid hM
              have hvM := Lib.hid hvM
              by_cases hj3 : j < 3
              · obtain ⟨xj, hxj⟩ : ∃ z, X[j]? = some z := ⟨X[j]'(by rw [HXlen.out]; exact hj3), List.getElem?_eq_getElem _⟩
                have HXJ := Lib.hid hxj
                have hxjb := DXB.out j xj hxj
                clear hxj
                go_wp2
                go_loopw [12] (fun s12 wk => ∃ (m : Nat) (N : List Int), m ≤ 3 ∧ s12 = .int .i64 m ∧ InK w L X Y k p q j xj m N wk) (fun s12 _ => 3 - (intOf s12).toNat)
                case atStart => exact ⟨0, M, Nat.zero_le _, rfl, hM.out, hbM, hbX, hbY, by rw [hvM.out]; simp [val], hbdM, hblM⟩
                case round =>
                  clear hM hbM hbX hbY hvM hbdM hblM
                  obtain ⟨m, N, hm, rfl, hN, hbN, hbX, hbY, hvN, hbdN, hblN⟩ := hrel
                  have hN := Lib.hid hN
                  have hvN := Lib.hid hvN
                  by_cases hm3 : m < 3
                  · obtain ⟨ym, hym⟩ : ∃ z, Y[m]? = some z := ⟨Y[m]'(by rw [HYlen.out]; exact hm3), List.getElem?_eq_getElem _⟩
                    obtain ⟨c, hcN⟩ : ∃ z, N[j + m]? = some z := ⟨N[j + m]'(by rw [hN.out]; omega), List.getElem?_eq_getElem _⟩
                    have hymb := DYB.out m ym hym
                    have HCB := Lib.hid (hbdN _ _ hcN)
                    have hcb := Nat.le_trans HCB.out (bnd_le (show k < 60 by omega) hj3 hm3)
                    have e1 := (hbX.cell j).trans (cells_at HXJ.out)
                    have e2 := (hbY.cell m).trans (cells_at hym)
                    have e3 := (hbN.cell (j + m)).trans (cells_at hcN)
                    have e4 := hbN.frozen (j + m)
                    have hprod : (xj * ym).natAbs ≤ 4398046511104 := by
                      rw [Int.natAbs_mul]; exact Nat.mul_le_mul hxjb hymb
                    have HYM := Lib.hid hym
                    have HCN := Lib.hid hcN
                    clear hym hcN
                    go_wp2
                    go_region
                    all_goals go_wp2
                    as_aux_lemma =>
                      go_roundw
                      case rel =>
                        refine ⟨m + 1, N.set (j + m) (c + xj * ym), by omega, rfl, by rw [List.length_set]; exact hN.out, ?_, ?_, ?_, ?_, ?_, ?_⟩
                        · have h := hbN.set_ (j + m) (.int .i64 (c + xj * ym))
                          rw [cells_set] at h
                          exact h.drew
                        · exact (hbX.far (p := ⟨w.heap.size, j + m, none⟩) hpg _).drew
                        · exact (hbY.far (p := ⟨w.heap.size, j + m, none⟩) hqg _).drew
                        · rw [val_set _ _ _ _ HCN.out, hvN.out, val_snoc _ _ _ HYM.out, Int.mul_add, Int.pow_add]
                          have e : xj * ym * (2097152 ^ j * 2097152 ^ m) = xj * 2097152 ^ j * (ym * 2097152 ^ m) := by
                            simp only [Int.mul_assoc, Int.mul_left_comm]
                          rw [e]
                          omega
                        · exact hbdN.set_ (bnd_mono k j m) _ _ (bnd_step HCB.out hprod)
                        · exact (hblN.setCell (p := ⟨w.heap.size, j + m, none⟩) (Nat.le_refl _) _).drew
                      case measure => simp [intOf]; omega
                  · obtain rfl : m = 3 := by omega
                    go_wp2
                    as_aux_lemma =>
                      go_roundw
                      case rel =>
                        refine ⟨j + 1, N, by omega, rfl, hN.out, hbN, hbX, hbY, ?_, hbdN.mono (bnd3 k j), hblN⟩
                        have h := hvN.out
                        rw [List.take_of_length_le (l := Y) (by rw [HYlen.out]; omega)] at h
                        rw [h, val_snoc _ _ _ HXJ.out, Int.add_mul]
                        omega
                      case measure => simp [intOf]; omega
              · obtain rfl : j = 3 := by omega
                go_wp2
                as_aux_lemma =>
                  go_roundw
                  case rel =>
                    refine ⟨k + 1, M, by omega, rfl, hM.out, hbM, ?_, hbdM.mono (bnd4 k), hblM⟩
                    have h := hvM.out
                    rw [List.take_of_length_le (l := X) (by rw [HXlen.out]; omega), VX.out, VY.out] at h
                    rw [h, dot_snoc k xs ys x y HXK.out HYK.out, VO.out]
                  case measure => simp [intOf]; omega
        · obtain rfl : n = k := by omega
          have hD : val L = dot xs ys := by rw [hv.out, List.take_of_length_le (l := xs) (by rw [hl1.out]; omega), List.take_of_length_le (l := ys) (by rw [hl2.out]; omega)]
          have hdz := Dig.zero hbd (bnd_le0 hn)
          clear hlt hr hq HX HY hv hbd
          go_wp2
          go_loopw [13] (fun s wr => ∃ (i : Nat) (N : List Int), i ≤ 7 ∧ s = .int .i64 i ∧ InN w (dot xs ys) i N wr) (fun s _ => 7 - (intOf s).toNat)
          case atStart => exact ⟨0, L, by omega, rfl, hL, hblk, hD, hdz, hbl⟩
          case round =>
            clear hblk hD hdz hbl hL
            obtain ⟨i, N, hi, rfl, hN, hbN, hvN, hdg, hblN⟩ := hrel
            have hN := Lib.hid hN
            have hvN := Lib.hid hvN
            by_cases hi7 : i < 7
            · obtain ⟨c1, hc1⟩ : ∃ z, N[i]? = some z := ⟨N[i]'(by rw [hN.out]; omega), List.getElem?_eq_getElem _⟩
              obtain ⟨d1, hd1⟩ : ∃ z, N[i + 1]? = some z := ⟨N[i + 1]'(by rw [hN.out]; omega), List.getElem?_eq_getElem _⟩
              have hcb := (hdg _ _ hc1).2.1 rfl
              have hdb := (hdg _ _ hd1).2.2 (by omega)
              obtain ⟨f1, f2⟩ := fdiv_base c1 hcb
              have CD := Lib.hid (fun w => rDiv_any c1 2097152 w)
              rw [f1, f2] at CD
              have hq1 : 2097152 * (c1 / 2097152) ≤ c1 ∧ c1 < 2097152 * (c1 / 2097152) + 2097152 := by omega
              have HST := Lib.hid (hdg.step hN.out hc1 hd1)
              have HVC := Lib.hid ((val_carry N i c1 d1 (c1 / 2097152) hc1 hd1).trans hvN.out)
              generalize c1 / 2097152 = q at *
              have e1 := (hbN.cell i).trans (cells_at hc1)
              have e2 := hbN.frozen i
              have hbN1 := hbN.set_ i (.int .i64 (c1 - q * 2097152))
              rw [cells_set] at hbN1
              have e3 := (hbN1.cell (i + 1)).trans (cells_at (show (N.set i (c1 - q * 2097152))[i + 1]? = some d1 by rw [List.getElem?_set_ne (by omega)]; exact hd1))
              have e4 := hbN1.frozen (i + 1)
              clear f1 f2 hc1 hd1 hdg
              go_wp2_with (first | (go_at_call 44; ((with_reducible refine (CD.out _).mono ?_); rintro e w1 ⟨rfl, rfl⟩)))
              as_aux_lemma =>
                go_roundw
                case rel =>
                  refine ⟨i + 1, (N.set i (c1 - q * 2097152)).set (i + 1) (d1 + q), by omega, rfl, by rw [List.length_set, List.length_set]; exact hN.out, ?_, HVC.out, HST.out, ?_⟩
                  · have h := hbN1.set_ (i + 1) (.int .i64 (d1 + q))
                    rw [cells_set] at h
                    exact h
                  · exact (hblN.setCell (p := ⟨w.heap.size, i, none⟩) (Nat.le_refl _) _).setCell (p := ⟨w.heap.size, i + 1, none⟩) (Nat.le_refl _) _
                case measure => simp [intOf]; omega
            · obtain rfl : i = 7 := by omega
              have HDG := Lib.hid hdg
              clear hdg hi7 hi
              go_wp2
              go_loopw [16, 17] (fun s16 s17 wk => ∃ (m : Nat) (v j : Int), m ≤ 8 ∧ s16 = .int .i64 v ∧ s17 = .int .i64 j ∧ j = (m : Int) - 1 ∧ v.natAbs ≤ 4620693217682128896 ∧ Hid (v = val (N.drop m)) ∧ wr = wk) (fun _ s17 _ => ((intOf s17) + 1).toNat)
              case atStart => exact ⟨8, 0, 7, by omega, rfl, rfl, by omega, by omega, Lib.hid (by rw [List.drop_of_length_le (by rw [hN.out]; omega)]; rfl), rfl⟩
              case round =>
                obtain ⟨m, v, j, hm, rfl, rfl, hj, hvb, hv, rfl⟩ := hrel
                cases m with
                | zero =>
                  obtain rfl : j = -1 := by omega
                  have hvD : v = dot xs ys := by rw [hv.out, ← hvN.out, List.drop_zero]
                  clear hv HDG hvN hvb hj
                  subst hvD
                  cases hR : rng (dot xs ys) with
                  | false =>
                    have hv1 : vR (dot xs ys) = 0 := by simp [vR, hR]
                    have he : eR (dot xs ys) = 2 := by simp [eR, hR]
                    go_wp2_with (go_at_call 16; refine (In_any _ _).mono ?_; rintro e w' ⟨rfl, rfl⟩)
                    go_ret2
                    first | exact ⟨ret_two' hv1.symm he.symm, hblN⟩ | exact ⟨rfl, hblN⟩
                  | true =>
                    have hv1 : vR (dot xs ys) = dot xs ys := by simp [vR, hR]
                    have he : eR (dot xs ys) = 0 := by simp [eR, hR]
                    go_wp2_with (go_at_call 16; refine (In_any _ _).mono ?_; rintro e w' ⟨rfl, rfl⟩)
                    go_ret2
                    first | exact ⟨ret_two' hv1.symm he.symm, hblN⟩ | exact ⟨rfl, hblN⟩
                | succ m =>
                  obtain rfl : j = (m : Int) := by omega
                  clear hj
                  have h8 : m = 7 → v = 0 := by
                    rintro rfl
                    rw [hv.out, List.drop_of_length_le (by rw [hN.out]; omega)]
                    rfl
                  by_cases h1 : 2199023255552 < v
                  · have hR : rng (dot xs ys) = false := by
                      have hm7 : ¬ m = 7 := fun h => by have := h8 h; omega
                      have := val_over N (m + 1) (fun j c hj hc => (HDG.out j c hc).1 (by omega)) (by rw [hN.out]; omega) (by omega) (hv.out ▸ h1)
                      rw [hvN.out] at this
                      simp [rng]; omega
                    have hv1 : vR (dot xs ys) = 0 := by simp [vR, hR]
                    have he : eR (dot xs ys) = 2 := by simp [eR, hR]
                    clear hvN
                    go_wp2
                    go_ret2
                    first | exact ⟨ret_two' hv1.symm he.symm, hblN⟩ | exact ⟨rfl, hblN⟩
                  · by_cases h2 : v < -2199023255552
                    · have hR : rng (dot xs ys) = false := by
                        have hm7 : ¬ m = 7 := fun h => by have := h8 h; omega
                        have := val_under N (m + 1) (fun j c hj hc => (HDG.out j c hc).1 (by omega)) (by rw [hN.out]; omega) (by omega) (hv.out ▸ h2)
                        rw [hvN.out] at this
                        simp [rng]; omega
                      have hv1 : vR (dot xs ys) = 0 := by simp [vR, hR]
                      have he : eR (dot xs ys) = 2 := by simp [eR, hR]
                      clear hvN
                      go_wp2
                      go_ret2
                      first | exact ⟨ret_two' hv1.symm he.symm, hblN⟩ | exact ⟨rfl, hblN⟩
                    · obtain ⟨c1, hc1⟩ : ∃ z, N[m]? = some z := ⟨N[m]'(by rw [hN.out]; omega), List.getElem?_eq_getElem _⟩
                      have hcb : c1.natAbs ≤ 9007199254740992 := by
                        have h := HDG.out m c1 hc1
                        by_cases h7 : m = 7
                        · exact h.2.1 h7
                        · have := h.1 (by omega)
                          omega
                      have e1 := (hbN.cell m).trans (cells_at hc1)
                      have e2 := hbN.frozen m
                      have HVD := Lib.hid ((val_drop N m c1 hc1).trans (by rw [← hv.out]))
                      clear hc1
                      go_wp2
                      as_aux_lemma =>
                        go_roundw
                        case rel => exact ⟨m, v * 2097152 + c1, (m : Int) - 1, by omega, rfl, rfl, rfl, by omega, Lib.hid HVD.out.symm, trivial⟩
                        case measure => simp [intOf]
end Go.Proofs.Ytpdpkmihgelmoaa
