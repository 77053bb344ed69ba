/-
  Plain arithmetic of long sums in the base 2^21. No program in sight.
-/
import Derived.Below
namespace Go.Proofs.Ytpdpkmihgelmoaa

/-- The number of a list of digits, the lowest one first. -/
def val : List Int → Int
  | [] => 0
  | c :: l => c + 2097152 * val l

theorem val_set (L : List Int) (m : Nat) (c p : Int) (h : L[m]? = some c) : val (L.set m (c + p)) = val L + p * 2097152 ^ m := by
  induction L generalizing m with
  | nil => simp at h
  | cons d l ih =>
    cases m with
    | zero =>
      simp only [List.getElem?_cons_zero, Option.some.injEq] at h
      subst h
      simp only [List.set_cons_zero, val, Int.pow_zero]
      omega
    | succ m =>
      have := ih m (by simpa using h)
      simp only [List.set_cons_succ, val, this]
      rw [Int.mul_add, Int.pow_succ]
      have e : 2097152 * (p * 2097152 ^ m) = p * (2097152 ^ m * 2097152) := by
        rw [Int.mul_left_comm, Int.mul_comm 2097152 (2097152 ^ m)]
      omega

/-- A carry from one digit to the next one keeps the number. -/
theorem val_carry (L : List Int) (m : Nat) (c d q : Int) (hc : L[m]? = some c) (hd : L[m + 1]? = some d) :
    val ((L.set m (c - q * 2097152)).set (m + 1) (d + q)) = val L := by
  have h1 : (L.set m (c + -(q * 2097152)))[m + 1]? = some d := by rw [List.getElem?_set_ne (by omega)]; exact hd
  have e : c - q * 2097152 = c + -(q * 2097152) := by omega
  rw [e, val_set _ _ _ _ h1, val_set _ _ _ _ hc, Int.pow_succ, Int.neg_mul, Int.mul_assoc q 2097152, Int.mul_comm 2097152 (2097152 ^ m)]
  omega

theorem val_drop (L : List Int) (m : Nat) (c : Int) (h : L[m]? = some c) : val (L.drop m) = val (L.drop (m + 1)) * 2097152 + c := by
  have hm : m < L.length := (List.getElem?_eq_some_iff.1 h).1
  have e : L[m] = c := by rw [List.getElem?_eq_getElem hm] at h; exact Option.some.inj h
  rw [List.drop_eq_getElem_cons hm, e]
  simp only [val]
  omega

/-- Lower digits from 0 to the base less one say little. -/
theorem val_low (L : List Int) (m : Nat) (h : ∀ j c, j < m → L[j]? = some c → 0 ≤ c ∧ c ≤ 2097151) (hm : m ≤ L.length) :
    2097152 ^ m * val (L.drop m) ≤ val L ∧ val L + 1 ≤ 2097152 ^ m * (val (L.drop m) + 1) := by
  induction m generalizing L with
  | zero => simp
  | succ m ih =>
    cases L with
    | nil => simp at hm
    | cons d l =>
      have h0 := h 0 d (by omega) (by simp)
      have := ih l (fun j c hj hc => h (j + 1) c (by omega) (by simpa using hc)) (by simpa using hm)
      simp only [List.drop_succ_cons, val]
      have e : ∀ z : Int, 2097152 ^ (m + 1) * z = 2097152 * (2097152 ^ m * z) := by
        intro z
        rw [Int.pow_succ, Int.mul_comm (2097152 ^ m) 2097152, Int.mul_assoc]
      rw [e, e]
      generalize (2097152 : Int) ^ m * val (List.drop m l) = A at *
      generalize (2097152 : Int) ^ m * (val (List.drop m l) + 1) = B at *
      omega

theorem pow_ge (m : Nat) (h : 1 ≤ m) : (2097152 : Int) ≤ 2097152 ^ m := by
  obtain ⟨k, rfl⟩ : ∃ k, m = k + 1 := ⟨m - 1, by omega⟩
  have h1 : (0 : Int) < 2097152 ^ k := Int.pow_pos (by omega)
  rw [Int.pow_succ]
  omega

/-- A beginning that is too great says that the number is out of range. -/
theorem val_over (L : List Int) (m : Nat) (h : ∀ j c, j < m → L[j]? = some c → 0 ≤ c ∧ c ≤ 2097151) (hm : m ≤ L.length) (h1 : 1 ≤ m) (hn : 2199023255552 < val (L.drop m)) : 4611686018427387904 < val L := by
  have := (val_low L m h hm).1
  have hp := pow_ge m h1
  have h3 := Int.mul_le_mul_of_nonneg_right hp (show 0 ≤ val (L.drop m) by omega)
  omega
theorem val_under (L : List Int) (m : Nat) (h : ∀ j c, j < m → L[j]? = some c → 0 ≤ c ∧ c ≤ 2097151) (hm : m ≤ L.length) (h1 : 1 ≤ m) (hn : val (L.drop m) < -2199023255552) : val L < -4611686018427387904 := by
  have := (val_low L m h hm).2
  have hp := pow_ge m h1
  have h3 := Int.mul_le_mul_of_nonpos_right hp (show val (L.drop m) + 1 ≤ 0 by omega)
  omega

/-! ### the three digits of a number -/
theorem tdigits (n : Int) (h : -4611686018427387904 ≤ n ∧ n ≤ 4611686018427387904) :
    n.tmod 2097152 + 2097152 * ((n.tdiv 2097152).tmod 2097152 + 2097152 * (n.tdiv 2097152).tdiv 2097152) = n ∧
    (-2097152 < n.tmod 2097152 ∧ n.tmod 2097152 < 2097152) ∧ (-2097152 < (n.tdiv 2097152).tmod 2097152 ∧ (n.tdiv 2097152).tmod 2097152 < 2097152) ∧ (-2097152 < (n.tdiv 2097152).tdiv 2097152 ∧ (n.tdiv 2097152).tdiv 2097152 < 2097152) := by
  have e1 := Int.mul_tdiv_add_tmod n 2097152
  have e2 := Int.mul_tdiv_add_tmod (n.tdiv 2097152) 2097152
  have a1 : (n.tmod 2097152).natAbs = n.natAbs % 2097152 := Int.natAbs_tmod n 2097152
  have a2 : ((n.tdiv 2097152).tmod 2097152).natAbs = (n.tdiv 2097152).natAbs % 2097152 := Int.natAbs_tmod _ 2097152
  have a3 : (n.tdiv 2097152).natAbs = n.natAbs / 2097152 := Int.natAbs_tdiv n 2097152
  have a4 : ((n.tdiv 2097152).tdiv 2097152).natAbs = (n.tdiv 2097152).natAbs / 2097152 := Int.natAbs_tdiv _ 2097152
  refine ⟨by omega, by omega, by omega, by omega⟩
end Go.Proofs.Ytpdpkmihgelmoaa
