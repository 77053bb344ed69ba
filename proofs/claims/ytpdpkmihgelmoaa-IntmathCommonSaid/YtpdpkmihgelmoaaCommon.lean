/-
  The walk of IntmathCommon: for all numbers the law returns true.
-/
import Derived.Test.YtpdpkmihgelmoaaInv
namespace Go.Proofs.Ytpdpkmihgelmoaa
open Go.RowKit

/-- What the law asks of the Bezout pair, in the walk's own forms. -/
theorem common_bez {a b x y : Int} {G : Nat} (ha : a.natAbs ≤ 1073741824) (hb : b.natAbs ≤ 1073741824) (hG : 1 ≤ G) (hGb : G ≤ b.natAbs) (h : BezOK a b G x y) :
    (-1152921504606846976 ≤ a * x ∧ a * x ≤ 1152921504606846976) ∧ (-2305843009213693952 ≤ b * y ∧ b * y ≤ 2305843009213693952) ∧ (a * x + b * y != (G : Int)) = false ∧ 0 ≤ x ∧ x < (b.natAbs : Int) / (G : Int) := by
  obtain ⟨h1, h2, h3⟩ := h
  have hx : x.natAbs ≤ 1073741824 := by
    have := Int.ediv_le_self (b := (G : Int)) (a := (b.natAbs : Int)) (by omega)
    omega
  have := small_prod ha hx
  refine ⟨by omega, by omega, by simpa using h1, h2, h3⟩
theorem common_inv {a b n y : Int} (ha : a.natAbs ≤ 1073741824) (hb : b.natAbs ≤ 1073741824) (hb1 : 1 ≤ b) (h : BezOK a b 1 n y) :
    (-1152921504606846976 ≤ a * n ∧ a * n ≤ 1152921504606846976) ∧ 0 ≤ n ∧ n < b ∧ ((a * n - 1).tmod b == 0) = true := by
  obtain ⟨h1, h2, h3⟩ := h
  rw [Int.ediv_one] at h3
  have := small_prod (a := a) (x := n) (p := 1073741824) (q := 1073741824) ha (by omega)
  refine ⟨by omega, h2, by omega, ?_⟩
  have e : a * n - 1 = b * (-y) := by rw [Int.mul_neg]; omega
  rw [e]
  simp

set_option maxRecDepth 20000 in
set_option maxHeartbeats 4000000 in
theorem common_neg (a b k : Int) (w : World) (ha1 : -1073741824 ≤ a) (ha2 : a ≤ 1073741824) (hb1 : -1073741824 ≤ b) (hb2 : b ≤ 1073741824) (hk1 : -1048576 ≤ k) (hk2 : k ≤ 1048576) (h0 : ¬ b = 0) (hneg : b < 1) :
    Calls Try.prog 5 #[.int .i64 a, .int .i64 b, .int .i64 k] w fun e w' => e = .returned (.bool true) ∧ Below w.heap.size w w' := by
  have HW := Lib.hid awake3
  have hra : rng a = true := rng_of (by omega)
  have hrb : rng b = true := rng_of (by omega)
  have cg := fun w => Gcd_any a b w
  have e1 : vGcd a b = (Int.gcd a b : Int) := by simp [vGcd, hra, hrb]
  have e2 : eIn a b = 0 := by simp [eIn, hra, hrb]
  rw [e1, e2] at cg
  have CB := Lib.hid (fun w => Bez_any a b w hra hrb h0)
  have hka := small_prod (a := a) (x := k) (p := 1073741824) (q := 1048576) (by omega) (by omega)
  have hkb := small_prod (a := b) (x := k) (p := 1073741824) (q := 1048576) (by omega) (by omega)
  have hrak : rng (a * k) = true := rng_of (by omega)
  have hrbk : rng (b * k) = true := rng_of (by omega)
  have cm := fun w => Gcd_any (a * k) (b * k) w
  have e3 : vGcd (a * k) (b * k) = (Int.gcd a b : Int) * (k.natAbs : Int) := by simp [vGcd, hrak, hrbk, gcd_times]
  have e4 : eIn (a * k) (b * k) = 0 := by simp [eIn, hrak, hrbk]
  rw [e3, e4] at cm
  have CI := Lib.hid (fun w => Inv_arg a b w (by rw [hra, hrb]; rfl) hneg)
  have mK : (if k < -k then -k else k) = (k.natAbs : Int) := by split <;> omega
  have mB : (if b < -b then -b else b) = (b.natAbs : Int) := by split <;> omega
  have b1 : (b == 0) = false := by simpa using h0
  have b2 : (b != 0) = true := by simpa using h0
  have hga : ((Int.gcd a b : Nat) : Int) ∣ a := Int.gcd_dvd_left ..
  have hgb : ((Int.gcd a b : Nat) : Int) ∣ b := Int.gcd_dvd_right ..
  have hG1 : 1 ≤ Int.gcd a b := Int.gcd_pos_iff.2 (Or.inr h0)
  have hG2 : Int.gcd a b ≤ b.natAbs := Nat.le_of_dvd (by omega) (Nat.gcd_dvd_right ..)
  generalize Int.gcd a b = G at *
  have CG := Lib.hid cg
  have CM := Lib.hid cm
  have g1 : ((G : Int) == 0) = false := by simpa using (show ¬ (G : Int) = 0 by omega)
  have g2 : (1 : Int) ≤ (G : Int) := by omega
  have g3 : (G : Int) ≤ 1073741824 := by omega
  have t1 : (a.tmod (G : Int) != 0) = false := by simpa using Int.tmod_eq_zero_of_dvd hga
  have t2 : (b.tmod (G : Int) != 0) = false := by simpa using Int.tmod_eq_zero_of_dvd hgb
  have t3 : (b % (G : Int) != 0) = false := by simpa using Int.emod_eq_zero_of_dvd hgb
  have hkk : (k.natAbs : Int) ≤ 1048576 := by omega
  have hp1 : -1125899906842624 ≤ a * k ∧ a * k ≤ 1125899906842624 := by omega
  have hp2 : -1125899906842624 ≤ b * k ∧ b * k ≤ 1125899906842624 := by omega
  have hp3 : 0 ≤ (G : Int) * (k.natAbs : Int) ∧ (G : Int) * (k.natAbs : Int) ≤ 1125899906842624 := by
    have := Nat.mul_le_mul (show G ≤ 1073741824 by omega) (show k.natAbs ≤ 1048576 by omega)
    have e : (G : Int) * (k.natAbs : Int) = ((G * k.natAbs : Nat) : Int) := (Int.natCast_mul _ _).symm
    omega
  have hbn : (b.natAbs : Int) ≤ 1073741824 := by omega
  have hdv0 : 0 ≤ (b.natAbs : Int) / (G : Int) := Int.ediv_nonneg (by omega) (by omega)
  have hdv1 : (b.natAbs : Int) / (G : Int) ≤ 1073741824 := Int.le_trans (Int.ediv_le_self _ (by omega)) hbn
  have HF := Lib.hid (fun x y h => common_bez (a := a) (b := b) (x := x) (y := y) (G := G) (by omega) (by omega) hG1 hG2 h)
  clear cg cm e1 e2 e3 e4 hka hkb hga hgb hG1 hG2 hra hrb hrak hrbk
  go_enter Try.func5, Try.ntmps5
  go_wp2_with (first
    | (go_at_call 15; refine (HW.out _).mono ?_; rintro e w1 ⟨rfl, hw1⟩)
    | (go_at_call 32; ((with_reducible refine (CG.out _).mono ?_); rintro e w2 ⟨rfl, hw2⟩))
    | (go_at_call 33; ((with_reducible refine (CB.out _).mono ?_); rintro e w3 ⟨x, y, rfl, hxy, hw3⟩; obtain ⟨q1, q2, q3, q4, q5⟩ := HF.out x y hxy.out))
    | (go_at_call 32; ((with_reducible refine (CM.out _).mono ?_); rintro e w4 ⟨rfl, hw4⟩))
    | (go_at_call 34; ((with_reducible refine (CI.out _).mono ?_); rintro e w5 ⟨rfl, hw5⟩)))
  go_ret
  exact ⟨rfl, below_then (below_then (below_then (below_then hw1 hw2) hw3) hw4) hw5⟩

set_option maxRecDepth 20000 in
set_option maxHeartbeats 4000000 in
theorem common_none (a b k : Int) (w : World) (ha1 : -1073741824 ≤ a) (ha2 : a ≤ 1073741824) (hb1 : -1073741824 ≤ b) (hb2 : b ≤ 1073741824) (hk1 : -1048576 ≤ k) (hk2 : k ≤ 1048576) (h0 : ¬ b = 0) (hpos : 1 ≤ b) (hg : ¬ Int.gcd a b = 1) :
    Calls Try.prog 5 #[.int .i64 a, .int .i64 b, .int .i64 k] w fun e w' => e = .returned (.bool true) ∧ Below w.heap.size w w' := by
  have HW := Lib.hid awake3
  have hra : rng a = true := rng_of (by omega)
  have hrb : rng b = true := rng_of (by omega)
  have cg := fun w => Gcd_any a b w
  have e1 : vGcd a b = (Int.gcd a b : Int) := by simp [vGcd, hra, hrb]
  have e2 : eIn a b = 0 := by simp [eIn, hra, hrb]
  rw [e1, e2] at cg
  have CB := Lib.hid (fun w => Bez_any a b w hra hrb h0)
  have hka := small_prod (a := a) (x := k) (p := 1073741824) (q := 1048576) (by omega) (by omega)
  have hkb := small_prod (a := b) (x := k) (p := 1073741824) (q := 1048576) (by omega) (by omega)
  have hrak : rng (a * k) = true := rng_of (by omega)
  have hrbk : rng (b * k) = true := rng_of (by omega)
  have cm := fun w => Gcd_any (a * k) (b * k) w
  have e3 : vGcd (a * k) (b * k) = (Int.gcd a b : Int) * (k.natAbs : Int) := by simp [vGcd, hrak, hrbk, gcd_times]
  have e4 : eIn (a * k) (b * k) = 0 := by simp [eIn, hrak, hrbk]
  rw [e3, e4] at cm
  have CI := Lib.hid (fun w => Inv_none a b w hra hrb hpos hg)
  have gn1 : (((Int.gcd a b : Nat) : Int) == 1) = false := by simpa using (show ¬ ((Int.gcd a b : Nat) : Int) = 1 by omega)
  have gn2 : (((Int.gcd a b : Nat) : Int) != 1) = true := by simpa using (show ¬ ((Int.gcd a b : Nat) : Int) = 1 by omega)
  clear hg
  have mK : (if k < -k then -k else k) = (k.natAbs : Int) := by split <;> omega
  have mB : (if b < -b then -b else b) = (b.natAbs : Int) := by split <;> omega
  have b1 : (b == 0) = false := by simpa using h0
  have b2 : (b != 0) = true := by simpa using h0
  have hga : ((Int.gcd a b : Nat) : Int) ∣ a := Int.gcd_dvd_left ..
  have hgb : ((Int.gcd a b : Nat) : Int) ∣ b := Int.gcd_dvd_right ..
  have hG1 : 1 ≤ Int.gcd a b := Int.gcd_pos_iff.2 (Or.inr h0)
  have hG2 : Int.gcd a b ≤ b.natAbs := Nat.le_of_dvd (by omega) (Nat.gcd_dvd_right ..)
  generalize Int.gcd a b = G at *
  have CG := Lib.hid cg
  have CM := Lib.hid cm
  have g1 : ((G : Int) == 0) = false := by simpa using (show ¬ (G : Int) = 0 by omega)
  have g2 : (1 : Int) ≤ (G : Int) := by omega
  have g3 : (G : Int) ≤ 1073741824 := by omega
  have t1 : (a.tmod (G : Int) != 0) = false := by simpa using Int.tmod_eq_zero_of_dvd hga
  have t2 : (b.tmod (G : Int) != 0) = false := by simpa using Int.tmod_eq_zero_of_dvd hgb
  have t3 : (b % (G : Int) != 0) = false := by simpa using Int.emod_eq_zero_of_dvd hgb
  have hkk : (k.natAbs : Int) ≤ 1048576 := by omega
  have hp1 : -1125899906842624 ≤ a * k ∧ a * k ≤ 1125899906842624 := by omega
  have hp2 : -1125899906842624 ≤ b * k ∧ b * k ≤ 1125899906842624 := by omega
  have hp3 : 0 ≤ (G : Int) * (k.natAbs : Int) ∧ (G : Int) * (k.natAbs : Int) ≤ 1125899906842624 := by
    have := Nat.mul_le_mul (show G ≤ 1073741824 by omega) (show k.natAbs ≤ 1048576 by omega)
    have e : (G : Int) * (k.natAbs : Int) = ((G * k.natAbs : Nat) : Int) := (Int.natCast_mul _ _).symm
    omega
  have hbn : (b.natAbs : Int) ≤ 1073741824 := by omega
  have hdv0 : 0 ≤ (b.natAbs : Int) / (G : Int) := Int.ediv_nonneg (by omega) (by omega)
  have hdv1 : (b.natAbs : Int) / (G : Int) ≤ 1073741824 := Int.le_trans (Int.ediv_le_self _ (by omega)) hbn
  have HF := Lib.hid (fun x y h => common_bez (a := a) (b := b) (x := x) (y := y) (G := G) (by omega) (by omega) hG1 hG2 h)
  clear cg cm e1 e2 e3 e4 hka hkb hga hgb hG1 hG2 hra hrb hrak hrbk
  go_enter Try.func5, Try.ntmps5
  go_wp2_with (first
    | (go_at_call 15; refine (HW.out _).mono ?_; rintro e w1 ⟨rfl, hw1⟩)
    | (go_at_call 32; ((with_reducible refine (CG.out _).mono ?_); rintro e w2 ⟨rfl, hw2⟩))
    | (go_at_call 33; ((with_reducible refine (CB.out _).mono ?_); rintro e w3 ⟨x, y, rfl, hxy, hw3⟩; obtain ⟨q1, q2, q3, q4, q5⟩ := HF.out x y hxy.out))
    | (go_at_call 32; ((with_reducible refine (CM.out _).mono ?_); rintro e w4 ⟨rfl, hw4⟩))
    | (go_at_call 34; ((with_reducible refine (CI.out _).mono ?_); rintro e w5 ⟨rfl, hw5⟩)))
  go_ret
  exact ⟨rfl, below_then (below_then (below_then (below_then hw1 hw2) hw3) hw4) hw5⟩

set_option maxRecDepth 20000 in
set_option maxHeartbeats 4000000 in
theorem common_some (a b k : Int) (w : World) (ha1 : -1073741824 ≤ a) (ha2 : a ≤ 1073741824) (hb1 : -1073741824 ≤ b) (hb2 : b ≤ 1073741824) (hk1 : -1048576 ≤ k) (hk2 : k ≤ 1048576) (h0 : ¬ b = 0) (hpos : 1 ≤ b) (hg : Int.gcd a b = 1) :
    Calls Try.prog 5 #[.int .i64 a, .int .i64 b, .int .i64 k] w fun e w' => e = .returned (.bool true) ∧ Below w.heap.size w w' := by
  have HW := Lib.hid awake3
  have hra : rng a = true := rng_of (by omega)
  have hrb : rng b = true := rng_of (by omega)
  have cg := fun w => Gcd_any a b w
  have e1 : vGcd a b = (Int.gcd a b : Int) := by simp [vGcd, hra, hrb]
  have e2 : eIn a b = 0 := by simp [eIn, hra, hrb]
  rw [e1, e2] at cg
  have CB := Lib.hid (fun w => Bez_any a b w hra hrb h0)
  have hka := small_prod (a := a) (x := k) (p := 1073741824) (q := 1048576) (by omega) (by omega)
  have hkb := small_prod (a := b) (x := k) (p := 1073741824) (q := 1048576) (by omega) (by omega)
  have hrak : rng (a * k) = true := rng_of (by omega)
  have hrbk : rng (b * k) = true := rng_of (by omega)
  have cm := fun w => Gcd_any (a * k) (b * k) w
  have e3 : vGcd (a * k) (b * k) = (Int.gcd a b : Int) * (k.natAbs : Int) := by simp [vGcd, hrak, hrbk, gcd_times]
  have e4 : eIn (a * k) (b * k) = 0 := by simp [eIn, hrak, hrbk]
  rw [e3, e4] at cm
  have CI := Lib.hid (fun w => Inv_some a b w hra hrb hpos hg)
  have HI := Lib.hid (fun n y h => common_inv (a := a) (b := b) (n := n) (y := y) (by omega) (by omega) hpos h)
  have gn1 : (((Int.gcd a b : Nat) : Int) == 1) = true := by simpa using (show ((Int.gcd a b : Nat) : Int) = 1 by omega)
  have gn2 : (((Int.gcd a b : Nat) : Int) != 1) = false := by simpa using (show ((Int.gcd a b : Nat) : Int) = 1 by omega)
  clear hg
  have mK : (if k < -k then -k else k) = (k.natAbs : Int) := by split <;> omega
  have mB : (if b < -b then -b else b) = (b.natAbs : Int) := by split <;> omega
  have b1 : (b == 0) = false := by simpa using h0
  have b2 : (b != 0) = true := by simpa using h0
  have hga : ((Int.gcd a b : Nat) : Int) ∣ a := Int.gcd_dvd_left ..
  have hgb : ((Int.gcd a b : Nat) : Int) ∣ b := Int.gcd_dvd_right ..
  have hG1 : 1 ≤ Int.gcd a b := Int.gcd_pos_iff.2 (Or.inr h0)
  have hG2 : Int.gcd a b ≤ b.natAbs := Nat.le_of_dvd (by omega) (Nat.gcd_dvd_right ..)
  generalize Int.gcd a b = G at *
  have CG := Lib.hid cg
  have CM := Lib.hid cm
  have g1 : ((G : Int) == 0) = false := by simpa using (show ¬ (G : Int) = 0 by omega)
  have g2 : (1 : Int) ≤ (G : Int) := by omega
  have g3 : (G : Int) ≤ 1073741824 := by omega
  have t1 : (a.tmod (G : Int) != 0) = false := by simpa using Int.tmod_eq_zero_of_dvd hga
  have t2 : (b.tmod (G : Int) != 0) = false := by simpa using Int.tmod_eq_zero_of_dvd hgb
  have t3 : (b % (G : Int) != 0) = false := by simpa using Int.emod_eq_zero_of_dvd hgb
  have hkk : (k.natAbs : Int) ≤ 1048576 := by omega
  have hp1 : -1125899906842624 ≤ a * k ∧ a * k ≤ 1125899906842624 := by omega
  have hp2 : -1125899906842624 ≤ b * k ∧ b * k ≤ 1125899906842624 := by omega
  have hp3 : 0 ≤ (G : Int) * (k.natAbs : Int) ∧ (G : Int) * (k.natAbs : Int) ≤ 1125899906842624 := by
    have := Nat.mul_le_mul (show G ≤ 1073741824 by omega) (show k.natAbs ≤ 1048576 by omega)
    have e : (G : Int) * (k.natAbs : Int) = ((G * k.natAbs : Nat) : Int) := (Int.natCast_mul _ _).symm
    omega
  have hbn : (b.natAbs : Int) ≤ 1073741824 := by omega
  have hdv0 : 0 ≤ (b.natAbs : Int) / (G : Int) := Int.ediv_nonneg (by omega) (by omega)
  have hdv1 : (b.natAbs : Int) / (G : Int) ≤ 1073741824 := Int.le_trans (Int.ediv_le_self _ (by omega)) hbn
  have HF := Lib.hid (fun x y h => common_bez (a := a) (b := b) (x := x) (y := y) (G := G) (by omega) (by omega) hG1 hG2 h)
  clear cg cm e1 e2 e3 e4 hka hkb hga hgb hG1 hG2 hra hrb hrak hrbk
  go_enter Try.func5, Try.ntmps5
  go_wp2_with (first
    | (go_at_call 15; refine (HW.out _).mono ?_; rintro e w1 ⟨rfl, hw1⟩)
    | (go_at_call 32; ((with_reducible refine (CG.out _).mono ?_); rintro e w2 ⟨rfl, hw2⟩))
    | (go_at_call 33; ((with_reducible refine (CB.out _).mono ?_); rintro e w3 ⟨x, y, rfl, hxy, hw3⟩; obtain ⟨q1, q2, q3, q4, q5⟩ := HF.out x y hxy.out))
    | (go_at_call 32; ((with_reducible refine (CM.out _).mono ?_); rintro e w4 ⟨rfl, hw4⟩))
    | (go_at_call 34; ((with_reducible refine (CI.out _).mono ?_); rintro e w5 ⟨n, z, rfl, hn, hw5⟩; obtain ⟨n1, n2, n3, n4⟩ := HI.out n z hn.out)))
  go_ret
  exact ⟨rfl, below_then (below_then (below_then (below_then hw1 hw2) hw3) hw4) hw5⟩

set_option maxRecDepth 20000 in
set_option maxHeartbeats 4000000 in
theorem common_walk (a b k : Int) (_wa : (Lit.int .i64 a).wf = true) (_wb : (Lit.int .i64 b).wf = true) (_wk : (Lit.int .i64 k).wf = true) (w : World) :
    Calls Try.prog 5 #[.int .i64 a, .int .i64 b, .int .i64 k] w fun e w' => e = .returned (.bool true) ∧ Below w.heap.size w w' := by
  have HW := Lib.hid awake3
  clear _wa _wb _wk
  by_cases ha1 : -1073741824 ≤ a
  · by_cases ha2 : a ≤ 1073741824
    · by_cases hb1 : -1073741824 ≤ b
      · by_cases hb2 : b ≤ 1073741824
        · by_cases hk1 : -1048576 ≤ k
          · by_cases hk2 : k ≤ 1048576
            · by_cases h0 : b = 0
              · subst h0
                exact common_zero a k w ha1 ha2 hk1 hk2
              · by_cases hneg : b < 1
                · exact common_neg a b k w ha1 ha2 hb1 hb2 hk1 hk2 h0 hneg
                · by_cases hg : Int.gcd a b = 1
                  · exact common_some a b k w ha1 ha2 hb1 hb2 hk1 hk2 h0 (by omega) hg
                  · exact common_none a b k w ha1 ha2 hb1 hb2 hk1 hk2 h0 (by omega) hg
            · go_enter Try.func5, Try.ntmps5
              go_wp2_with (go_at_call 15; refine (HW.out _).mono ?_; rintro e w1 ⟨rfl, hw1⟩)
              go_ret
              exact ⟨rfl, hw1⟩
          · go_enter Try.func5, Try.ntmps5
            go_wp2_with (go_at_call 15; refine (HW.out _).mono ?_; rintro e w1 ⟨rfl, hw1⟩)
            go_ret
            exact ⟨rfl, hw1⟩
        · go_enter Try.func5, Try.ntmps5
          go_wp2_with (go_at_call 15; refine (HW.out _).mono ?_; rintro e w1 ⟨rfl, hw1⟩)
          go_ret
          exact ⟨rfl, hw1⟩
      · go_enter Try.func5, Try.ntmps5
        go_wp2_with (go_at_call 15; refine (HW.out _).mono ?_; rintro e w1 ⟨rfl, hw1⟩)
        go_ret
        exact ⟨rfl, hw1⟩
    · go_enter Try.func5, Try.ntmps5
      go_wp2_with (go_at_call 15; refine (HW.out _).mono ?_; rintro e w1 ⟨rfl, hw1⟩)
      go_ret
      exact ⟨rfl, hw1⟩
  · go_enter Try.func5, Try.ntmps5
    go_wp2_with (go_at_call 15; refine (HW.out _).mono ?_; rintro e w1 ⟨rfl, hw1⟩)
    go_ret
    exact ⟨rfl, hw1⟩
end Go.Proofs.Ytpdpkmihgelmoaa
