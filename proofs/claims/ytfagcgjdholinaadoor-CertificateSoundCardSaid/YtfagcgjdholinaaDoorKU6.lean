/-
  Texts of mine that belong together (packed by pack.py), for every input: QLn, QLo, GLq, QLp, QLs, QLt.
-/
import Derived.Test.YtfagcgjdholinaaDoorKU4
import Derived.Test.YtfagcgjdholinaaDoorKU5
import Derived.KernelRfl
set_option linter.unusedVariables false
set_option linter.unusedSimpArgs false
namespace Go.Pl
open Go.RowKit
open Enc (enc dec is)
open EncL (encL decL isL)
def xV (v : List Coef) (s : Str) : Int := (lookV v s).getD 0
def sumV (x : Str → Int) (ts : List Coef) : Int := (ts.map fun t => t.c * x t.v).sum
def evM (x : Str → Int) (m : List (Str × Int)) : Int := (m.map fun p => p.2 * x p.1).sum
def okV (v : List Coef) (s : Str) : Prop := ∃ x, lookV v s = some x ∧ -1000000000 ≤ x ∧ x ≤ 1000000000
theorem evalT_ok (v : List Coef) : ∀ (ts : List Coef) (n : Int), (evalT v n ts).2 = 0 → ∀ t ∈ ts, okV v t.v
  | [], n, _, t, ht => by cases ht
  | t :: ts, n, h, u, hu => by
    rw [evalT] at h
    cases e : lookV v t.v with
    | none => simp only [e] at h; cases h
    | some x =>
      simp only [e] at h
      by_cases h1 : x < -1000000000
      · rw [if_pos h1] at h; cases h
      rw [if_neg h1] at h
      by_cases h2 : x > 1000000000
      · rw [if_pos h2] at h; cases h
      rw [if_neg h2] at h
      rcases List.mem_cons.1 hu with rfl | hu
      · exact ⟨x, e, by omega, by omega⟩
      · exact evalT_ok v ts _ h u hu
theorem mul_bnd2 {c x : Int} (hc1 : -1000000 ≤ c) (hc2 : c ≤ 1000000) (hx1 : -1000000000 ≤ x) (hx2 : x ≤ 1000000000) : -1000000000000000 ≤ c * x ∧ c * x ≤ 1000000000000000 := by
  have := mul_bnd hx1 hx2 hc1 hc2
  rw [Int.mul_comm] at this
  exact this
theorem evalT_val (v : List Coef) : ∀ (ts : List Coef) (n B : Int), (∀ t ∈ ts, okV v t.v ∧ -1000000 ≤ t.c ∧ t.c ≤ 1000000) → -B ≤ n → n ≤ B → B + ts.length * 1000000000000000 ≤ 9000000000000000000 → evalT v n ts = (n + sumV (xV v) ts, 0)
  | [], n, B, _, _, _, _ => by simp [evalT, sumV]
  | t :: ts, n, B, h, h1, h2, h3 => by
    obtain ⟨⟨x, e, hx1, hx2⟩, hc1, hc2⟩ := h t (by simp)
    have hm := mul_bnd2 hc1 hc2 hx1 hx2
    have el : (((t :: ts).length : Nat) : Int) * 1000000000000000 = 1000000000000000 + (ts.length : Int) * 1000000000000000 := by rw [List.length_cons]; omega
    rw [el] at h3
    have hlen : (0 : Int) ≤ (ts.length : Int) * 1000000000000000 := by omega
    rw [evalT]
    simp only [e]
    rw [if_neg (by omega), if_neg (by omega), w64_id (n := t.c * x) (by omega) (by omega), w64_id (by omega) (by omega)]
    rw [evalT_val v ts (n + t.c * x) (B + 1000000000000000) (fun u hu => h u (by simp [hu])) (by omega) (by omega) (by omega)]
    have ex : xV v t.v = x := by unfold xV; rw [e]; rfl
    simp only [sumV, List.map_cons, List.sum_cons, ex]
    congr 1
    omega
theorem upd_ev (x : Str → Int) (s : Str) (d : Int) : ∀ m : List (Str × Int), evM x (updM s (atM m s.s + d) m) = evM x m + d * x s
  | [] => by simp [updM, evM, atM]
  | p :: m => by
    rw [updM]
    by_cases h : s.s = p.1.s
    · rw [if_pos h]
      have hs : s = p.1 := by cases s; obtain ⟨⟨b⟩, c⟩ := p; cases h; rfl
      have ea : atM (p :: m) s.s = p.2 := by simp [atM, h]
      rw [ea]
      simp only [evM, List.map_cons, List.sum_cons, hs, Int.add_mul]
      omega
    · rw [if_neg h]
      have ea : atM (p :: m) s.s = atM m s.s := by
        have : (p.1.s == s.s) = false := by simpa using fun e : p.1.s = s.s => h e.symm
        simp [atM, List.find?_cons, this]
      rw [ea]
      have ih := upd_ev x s d m
      simp only [evM, List.map_cons, List.sum_cons] at ih ⊢
      omega
theorem addT_ev (x : Str → Int) {k : Int} (hk1 : -1000000000 ≤ k) (hk2 : k ≤ 1000000000) : ∀ (l : List Coef) (m : List (Str × Int)) (B : Int), 0 ≤ B → B + l.length * 1000000000000000 ≤ 4000000000000000000 → (∀ t ∈ l, -1000000 ≤ t.c ∧ t.c ≤ 1000000) → bndM m B → evM x (addT k l m) = evM x m + k * sumV x l
  | [], m, B, _, _, _, h => by simp [addT, sumV]
  | t :: l, m, B, hB, hl, ht, h => by
    rw [addT]
    have h1 := ht t (by simp)
    have h2 := mul_bnd hk1 hk2 h1.1 h1.2
    have h3 := atM_bnd hB h t.v.s
    have e : (((t :: l).length : Nat) : Int) * 1000000000000000 = 1000000000000000 + (l.length : Int) * 1000000000000000 := by rw [List.length_cons]; omega
    rw [e] at hl
    have w1 : IntKind.i64.wrap (k * t.c) = k * t.c := w64_id (by omega) (by omega)
    have w2 : IntKind.i64.wrap (atM m t.v.s + k * t.c) = atM m t.v.s + k * t.c := w64_id (by omega) (by omega)
    rw [w1, w2]
    rw [addT_ev x hk1 hk2 l _ (B + 1000000000000000) (by omega) (by omega) (fun u hu => ht u (by simp [hu])) (fun p hp => by
      rcases upd_mem hp with e | hp
      · rw [e]; omega
      · have := h p hp; omega), upd_ev]
    simp only [sumV, List.map_cons, List.sum_cons, Int.mul_add, Int.mul_assoc]
    omega
def totK (qs : List (Int × Fact)) : Int := (qs.map fun q => q.1 * q.2.l.k).sum
def totV (x : Str → Int) (qs : List (Int × Fact)) : Int := (qs.map fun q => q.1 * sumV x q.2.l.t).sum
theorem fold_ev (x : Str → Int) : ∀ (qs : List (Int × Fact)) (n : Int) (m : List (Str × Int)) (B : Int), 0 ≤ B → B + qs.length * 12000000000000000 ≤ 4000000000000000000 → (∀ q ∈ qs, okQ q = true ∧ factIn q.2) → bndM m B → -B ≤ n → n ≤ B →
    evM x (qs.foldl cstep (n, m)).2 = evM x m + totV x qs ∧ (qs.foldl cstep (n, m)).1 = n + totK qs ∧ -(B + qs.length * 12000000000000000) ≤ n + totK qs ∧ n + totK qs ≤ B + qs.length * 12000000000000000
  | [], n, m, B, _, _, _, h, h1, h2 => by simp [totK, totV]; omega
  | q :: qs, n, m, B, hB, hl, hq, h, hn1, hn2 => by
    obtain ⟨hq1, hq2, hq3, hq4, hq5⟩ := hq q (by simp)
    simp only [okQ, Bool.and_eq_true, Bool.not_eq_true', decide_eq_false_iff_not] at hq1
    have e : (((q :: qs).length : Nat) : Int) * 12000000000000000 = 12000000000000000 + (qs.length : Int) * 12000000000000000 := by rw [List.length_cons]; omega
    rw [e] at hl ⊢
    have hb := addT_bnd (k := q.1) (by omega) (by omega) q.2.l.t m B hB (by omega) (fun t ht => ⟨(hq3 t ht).1, (hq3 t ht).2.1⟩) h
    have he := addT_ev x (k := q.1) (by omega) (by omega) q.2.l.t m B hB (by omega) (fun t ht => ⟨(hq3 t ht).1, (hq3 t ht).2.1⟩) h
    have hm := mul_bnd (k := q.1) (c := q.2.l.k) (by omega) (by omega) hq4 hq5
    have w1 : w64 (q.1 * q.2.l.k) = q.1 * q.2.l.k := w64_id (by omega) (by omega)
    have w2 : w64 (n + q.1 * q.2.l.k) = n + q.1 * q.2.l.k := w64_id (by omega) (by omega)
    have ih := fold_ev x qs (n + q.1 * q.2.l.k) (addT q.1 q.2.l.t m) (B + 12000000000000000) (by omega) (by omega) (fun r hr => hq r (by simp [hr])) (fun p hp => by have := hb p hp; omega) (by omega) (by omega)
    rw [List.foldl_cons]
    simp only [cstep, w1, w2]
    obtain ⟨i1, i2, i3, i4⟩ := ih
    simp only [totK, totV, List.map_cons, List.sum_cons] at i1 i2 i3 i4 ⊢
    refine ⟨by rw [i1, he]; omega, by rw [i2]; omega, by omega, by omega⟩
theorem fold_nodup : ∀ (qs : List (Int × Fact)) (n : Int) (m : List (Str × Int)), (keysM m).Nodup → (keysM (qs.foldl cstep (n, m)).2).Nodup
  | [], n, m, h => h
  | q :: qs, n, m, h => by rw [List.foldl_cons]; exact fold_nodup qs _ _ (addT_nodup _ _ _ h)
theorem nz_ev (x : Str → Int) : ∀ m : List (Str × Int), evM x (nzM m) = evM x m
  | [] => rfl
  | p :: m => by
    have ih := nz_ev x m
    simp only [nzM, evM] at ih ⊢
    by_cases h : p.2 = 0
    · rw [List.filter_cons_of_neg (by simp [h]), ih]; simp [h]
    · rw [List.filter_cons_of_pos (by simpa using h), List.map_cons, List.map_cons, List.sum_cons, List.sum_cons, ih]
theorem nz_nodup {m : List (Str × Int)} (h : (keysM m).Nodup) : (keysM (nzM m)).Nodup := List.Nodup.sublist (List.Sublist.map _ (List.filter_sublist)) h
theorem sum_perm {l l' : List Int} (h : l.Perm l') : l.sum = l'.sum := by
  induction h with
  | nil => rfl
  | cons a _ ih => simp [ih]
  | swap a b l => simp; omega
  | trans _ _ h1 h2 => exact h1.trans h2
theorem atM_mem : ∀ {m : List (Str × Int)}, (keysM m).Nodup → ∀ p ∈ m, atM m p.1.s = p.2
  | q :: m, h, p, hp => by
    simp only [keysM, List.map_cons, List.nodup_cons] at h
    rcases List.mem_cons.1 hp with rfl | hp
    · simp [atM]
    · have : (q.1.s == p.1.s) = false := by
        simp only [beq_eq_false_iff_ne, ne_eq]
        intro e
        exact h.1 (e ▸ List.mem_map.2 ⟨p, hp, rfl⟩)
      have ih := atM_mem (m := m) h.2 p hp
      simp only [atM, List.find?_cons, this] at ih ⊢
      exact ih
theorem gcds_dvd (l : List Int) : (∀ x ∈ l, gcdsI l ∣ x) ∧ 0 ≤ gcdsI l := by
  have key : ∀ (l : List Int) (g : Int), 0 ≤ g → (l.foldl (fun g n => (Int.gcd g n : Int)) g ∣ g ∧ ∀ x ∈ l, l.foldl (fun g n => (Int.gcd g n : Int)) g ∣ x) ∧ 0 ≤ l.foldl (fun g n => (Int.gcd g n : Int)) g := by
    intro l
    induction l with
    | nil => intro g hg; exact ⟨⟨Int.dvd_refl _, fun x h => by cases h⟩, hg⟩
    | cons y l ih =>
      intro g hg
      rw [List.foldl_cons]
      obtain ⟨⟨h1, h2⟩, h3⟩ := ih (Int.gcd g y : Int) (by omega)
      refine ⟨⟨Int.dvd_trans h1 (Int.gcd_dvd_left ..), fun x hx => ?_⟩, h3⟩
      rcases List.mem_cons.1 hx with rfl | hx
      · exact Int.dvd_trans h1 (Int.gcd_dvd_right ..)
      · exact h2 x hx
  exact ⟨(key l 0 (by omega)).1.2, (key l 0 (by omega)).2⟩
theorem terms_ev (x : Str → Int) {m : List (Str × Int)} (hd : (keysM m).Nodup) {g : Int} (hg : 0 < g) (hdv : ∀ p ∈ m, g ∣ p.2) (hb : ∀ p ∈ m, -4000000000000000000 ≤ p.2 ∧ p.2 ≤ 4000000000000000000) : g * sumV x (cutT m g (namesS m)) = evM x m := by
  have h1 : sumV x (cutT m g (namesS m)) = ((namesS m).map fun v => w64 ((atM m v).tdiv g) * x ⟨v⟩).sum := by simp only [sumV, cutT, List.map_map]; rfl
  have h2 : ((namesS m).map fun v => w64 ((atM m v).tdiv g) * x ⟨v⟩).sum = ((keysM m).map fun v => w64 ((atM m v).tdiv g) * x ⟨v⟩).sum := sum_perm ((List.mergeSort_perm _ _).map _)
  have h3 : (keysM m).map (fun v => w64 ((atM m v).tdiv g) * x ⟨v⟩) = m.map fun p => p.2.tdiv g * x p.1 := by
    simp only [keysM, List.map_map]
    apply List.map_congr_left
    intro p hp
    have e1 := atM_mem hd p hp
    obtain ⟨k, hk⟩ := hdv p hp
    have hq : p.2.tdiv g = k := by rw [hk, Int.mul_tdiv_cancel_left _ (by omega)]
    have hbp := hb p hp
    have hkb : -4000000000000000000 ≤ k ∧ k ≤ 4000000000000000000 := by
      have ha : k.natAbs ≤ p.2.natAbs := by
        rw [hk, Int.natAbs_mul]
        exact Nat.le_mul_of_pos_left _ (by omega)
      omega
    show w64 ((atM m p.1.s).tdiv g) * x ⟨p.1.s⟩ = _
    rw [e1, hq, w64_id (by omega) (by omega)]
  rw [h1, h2, h3]
  clear h1 h2 h3 hd hb
  induction m with
  | nil => simp [evM]
  | cons p m ih =>
    have h := ih fun q hq => hdv q (by simp [hq])
    obtain ⟨k, hk⟩ := hdv p (by simp)
    have hq : p.2.tdiv g = k := by rw [hk, Int.mul_tdiv_cancel_left _ (by omega)]
    simp only [evM, List.map_cons, List.sum_cons] at h ⊢
    rw [Int.mul_add, h, hq, ← Int.mul_assoc, ← hk]
theorem divQ_floor {a b : Int} (hb : 0 < b) (ha1 : -4611686018427387904 ≤ a) (ha2 : a ≤ 4611686018427387904) : b * divQ a b ≤ a ∧ a < b * divQ a b + b := by
  have h1 := Int.mul_tdiv_add_tmod a b
  have hlt : (a.tmod b).natAbs < b.natAbs := by
    rw [Int.natAbs_tmod]
    exact Nat.mod_lt _ (by omega)
  have hsgn : (0 ≤ a → 0 ≤ a.tmod b) ∧ (a ≤ 0 → a.tmod b ≤ 0) := by
    constructor
    · intro h; exact Int.tmod_nonneg b h
    · intro h
      have := Int.tmod_nonneg b (show 0 ≤ -a by omega)
      rw [Int.neg_tmod] at this
      omega
  have hq : (a.tdiv b).natAbs ≤ a.natAbs := by rw [Int.natAbs_tdiv]; exact Nat.div_le_self _ _
  have hw : w64 (a.tdiv b) = a.tdiv b := w64_id (by omega) (by omega)
  generalize hQ : a.tdiv b = q at *
  generalize hR : a.tmod b = r at *
  have hcomm : q * b = b * q := Int.mul_comm _ _
  unfold divQ
  rw [hQ, hR, hw]
  rw [Int.mul_comm] at h1
  split
  · rename_i hc
    have hneg : a < 0 := by
      have h2 := hc.2
      have hb0 : decide (b < 0) = false := by simp; omega
      rw [hb0] at h2
      simpa using h2
    have hne : r ≠ 0 := hc.1
    rw [w64_id (by omega) (by omega), Int.mul_sub, Int.mul_one]
    have := hsgn.2 (by omega)
    omega
  · rename_i hc
    have hr : 0 ≤ r := by
      by_cases h0 : r = 0
      · omega
      · by_cases hn : a < 0
        · exact absurd ⟨h0, by simp [hn]; omega⟩ hc
        · exact hsgn.1 (by omega)
    omega
theorem tot_pos (x : Str → Int) : ∀ qs : List (Int × Fact), (∀ q ∈ qs, okQ q = true ∧ 0 ≤ q.2.l.k + sumV x q.2.l.t ∧ (q.2.eq = true → q.2.l.k + sumV x q.2.l.t = 0)) → 0 ≤ totK qs + totV x qs
  | [], _ => by simp [totK, totV]
  | q :: qs, h => by
    have ih := tot_pos x qs fun r hr => h r (by simp [hr])
    obtain ⟨h1, h2, h3⟩ := h q (by simp)
    simp only [okQ, Bool.and_eq_true, Bool.not_eq_true', decide_eq_false_iff_not, Bool.or_eq_true] at h1
    have hp : 0 ≤ q.1 * (q.2.l.k + sumV x q.2.l.t) := by
      rcases h1.2 with hn | he
      · exact Int.mul_nonneg (by omega) h2
      · rw [h3 he]; simp
    rw [Int.mul_add] at hp
    simp only [totK, totV, List.map_cons, List.sum_cons] at ih ⊢
    omega
theorem holds_val {f : Fact} {v : List Coef} (h : holdsB f v = true) (hv : validL f.l = true) : (∀ t ∈ f.l.t, okV v t.v) ∧ 0 ≤ f.l.k + sumV (xV v) f.l.t ∧ (f.eq = true → f.l.k + sumV (xV v) f.l.t = 0) := by
  simp only [holdsB, Bool.and_eq_true, decide_eq_true_eq, Bool.not_eq_true', decide_eq_false_iff_not, Bool.or_eq_true] at h
  obtain ⟨⟨h1, h2⟩, h3⟩ := h
  have e : evalL f.l v = evalT v f.l.k f.l.t := by unfold evalL; rw [hv, if_pos rfl]
  rw [e] at h1 h2 h3
  have hok := evalT_ok v f.l.t f.l.k h1
  have hk := valid_k hv
  have hlen := valid_len hv
  have ev := evalT_val v f.l.t f.l.k 1000000 (fun t ht => ⟨hok t ht, (valid_coef hv ht).2.2⟩) (by omega) (by omega) (by omega)
  rw [ev] at h2 h3
  refine ⟨hok, by simpa using h2, fun he => ?_⟩
  rcases h3 with h3 | h3
  · rw [he] at h3; cases h3
  · exact h3
end Go.Pl

namespace Go.Pl
open Go.RowKit
open Enc (enc dec is)
open EncL (encL decL isL)
theorem rholds_loop (l : List Fact) (v : List Coef) (hl : factsSm l = true) (hv : v.length ≤ 9223372036854775807) : ∀ (j i : Nat), j + i = l.length → At T_rholds 0 (endP' rs_rholds (Fits ((l.drop i).all fun f => holdsB f v))) ic_rholds 0 41 [(0, .pv (enc l)), (1, .pv (enc v)), (5, .pv (.int .i64 i))] [] := by
  intro j
  induction j with
  | zero =>
    intro i hi
    exact rholds_h0 l v i (iteF (lt_no (by omega)) (fitB (by rw [List.drop_of_length_le (by omega)]; rfl)))
  | succ j ih =>
    intro i hi
    have hl' := hl
    simp only [factsSm, Bool.and_eq_true, decide_eq_true_eq, List.all_eq_true] at hl'
    have hlt : i < l.length := by omega
    have h := ih (i + 1) (by omega)
    have ho : linOk l[i].l = true := by
      have := hl'.2 _ (List.getElem_mem hlt)
      simp only [linSm, Bool.and_eq_true] at this
      exact this.1
    refine rholds_h0 l v i (iteT (lt_ok hlt) ⟨idx_ok hlt rfl, el_ex hlt ⟨pre_enc (l[i].l, v, ()) rfl (by show (linOk l[i].l && decide (v.length ≤ 9223372036854775807)) = true; rw [ho, decide_eq_true hv]; rfl), ex_enc (l[i].l, v, ()) rfl ?_⟩⟩)
    rw [List.drop_eq_getElem_cons hlt, List.all_cons, next (by omega)]
    refine iteC (fun h1 => ?_) fun h1 => iteD (fun h2 => ?_) fun h2 => ⟨idx_ok hlt rfl, el_ex hlt (iteB (fun h3 => iteC (fun h4 => ?_) fun h4 => ?_) fun h3 => ?_)⟩
    · have h1 : (evalL l[i].l v).2 ≠ 0 := by simpa using h1
      exact fitB (by simp [holdsB, h1])
    all_goals have h1 : (evalL l[i].l v).2 = 0 := by simpa using h1
    · have h2 : (evalL l[i].l v).1 < 0 := h2
      exact fitB (by simp [holdsB, h1, h2])
    all_goals have h2 : ¬ (evalL l[i].l v).1 < 0 := h2
    all_goals have h3 : l[i].eq = _ := h3
    · have h4 : (evalL l[i].l v).1 ≠ 0 := by simpa using h4
      exact fitB (by simp [holdsB, h1, h2, h3, h4])
    · have h4 : (evalL l[i].l v).1 = 0 := by simpa using h4
      have e : holdsB l[i] v = true := by simp [holdsB, h1, h3, h4]
      rw [e, Bool.true_and]
      exact h
    · have e : holdsB l[i] v = true := by
        have h2' : decide ((evalL l[i].l v).1 < 0) = false := decide_eq_false h2
        simp only [holdsB, h1, h3, h2']
        rfl
      rw [e, Bool.true_and]
      exact h
theorem rholds_run : ∀ a : List Fact × List Coef × Unit, (factsSm a.1 && decide (a.2.1.length ≤ 9223372036854775807)) = true → Gets T_rholds 0 (endP' rs_rholds (Fits (a.1.all fun f => holdsB f a.2.1))) ic_rholds [] (st0 nt_rholds (encL a)) := by
  rintro ⟨l, v, ⟨⟩⟩ h
  simp only [Bool.and_eq_true, decide_eq_true_eq] at h
  exact rholds_s l v (rholds_loop l v h.1 h.2 l.length 0 rfl)
end Go.Pl

namespace Go.Pl
open Go.RowKit
open Enc (enc dec is)
open EncL (encL decL isL)
set_option maxRecDepth 100000
def ic_lsound : IC := (.seq (.reg [⟨(some 4), (.box 5 (.t 1)), 0, none⟩, ⟨(some 6), (.mv (.c (.bool false))), 1, none⟩] none) (.seq (.seq (.reg [⟨(some 13), (.call (.c (.fn 6)) []), 0, none⟩, ⟨(some 14), (.un .not (.t 13)), 2, none⟩] none) (.cond (.t 14) (.seq (.reg [⟨(some 6), (.mv (.c (.bool false))), 0, none⟩] none) .ret) .skip)) (.seq (.seq (.reg [⟨(some 15), (.mv (.t 0)), 0, none⟩, ⟨(some 16), (.call (.c (.fn 7)) [(.t 15), (.c (.int .i64 8))]), 0, none⟩, ⟨(some 17), (.un .not (.t 16)), 2, none⟩, ⟨(some 18), (.mv (.t 17)), 2, none⟩, ⟨(some 19), (.load true [(.int .i64), (.sl 1), (.int .i64), (.sl 2), (.sl 5)] (.t 4)), 2, (some (18, false))⟩, ⟨(some 20), (.call (.c (.fn 12)) [(.t 19), (.c (.int .i64 12))]), 2, (some (18, false))⟩, ⟨(some 21), (.un .not (.t 20)), 4, (some (18, false))⟩, ⟨(some 22), (.pick (.t 18) (.c (.bool true)) (.t 21)), 4, none⟩, ⟨(some 23), (.mv (.t 22)), 4, none⟩, ⟨(some 24), (.mv (.t 2)), 4, (some (23, false))⟩, ⟨(some 25), (.len 1 (.t 24)), 4, (some (23, false))⟩, ⟨(some 26), (.bin .num .gtr (.t 25) (.c (.int .i64 10))), 4, (some (23, false))⟩, ⟨(some 27), (.pick (.t 23) (.c (.bool true)) (.t 26)), 4, none⟩] none) (.cond (.t 27) (.seq (.reg [⟨(some 6), (.mv (.c (.bool true))), 0, none⟩] none) .ret) .skip)) (.seq (.seq (.reg [⟨(some 28), (.mv (.t 0)), 0, none⟩, ⟨(some 29), (.load true [(.int .i64), (.sl 1), (.int .i64), (.sl 2), (.sl 5)] (.t 4)), 0, none⟩, ⟨(some 30), (.call (.c (.fn 15)) [(.t 28), (.t 29)]), 0, none⟩, ⟨(some 31), (.bin .num .eql (.t 30) (.c (.int .i64 0))), 2, none⟩, ⟨(some 32), (.mv (.t 31)), 2, none⟩, ⟨(some 33), (.mv (.t 0)), 2, (some (32, true))⟩, ⟨(some 34), (.mv (.t 2)), 2, (some (32, true))⟩, ⟨(some 35), (.call (.c (.fn 8)) [(.t 33), (.t 34)]), 2, (some (32, true))⟩, ⟨(some 36), (.pick (.t 32) (.t 35) (.c (.bool false))), 4, none⟩] none) (.cond (.t 36) (.seq (.reg [⟨(some 6), (.mv (.c (.bool false))), 0, none⟩] none) .ret) .skip)) (.seq (.reg [⟨(some 7), (.mv (.c (.sl 0 true []))), 0, none⟩] none) (.seq (.seq (.reg [⟨(some 8), (.mv (.c (.int .i64 0))), 0, none⟩] none) (.block 0 (.loop [8, 0, 7, 2, 4] (.seq (.seq (.reg [⟨(some 37), (.mv (.t 8)), 0, none⟩, ⟨(some 38), (.mv (.t 0)), 0, none⟩, ⟨(some 39), (.len 1 (.t 38)), 0, none⟩, ⟨(some 40), (.bin .num .lss (.t 37) (.t 39)), 0, none⟩] none) (.cond (.t 40) .skip (.exit 0))) (.seq (.block 1 (.reg [⟨(some 43), (.mv (.t 7)), 0, none⟩, ⟨(some 44), (.mv (.t 0)), 0, none⟩, ⟨(some 45), (.mv (.t 8)), 0, none⟩, ⟨(some 46), (.iaddr 3 (.t 44) (.t 45)), 0, none⟩, ⟨(some 47), (.faddr 1 (.t 46)), 0, none⟩, ⟨(some 48), (.load true [(.int .i64), (.sl 2)] (.t 47)), 0, none⟩, ⟨(some 49), (.bslice 30 2 1 (.agg [(.int .i64 0), (.sl 0 true [])]) [(0, (.t 48))]), 0, none⟩, ⟨(some 50), (.append 30 2 32 (.t 43) (.t 49)), 1, none⟩, ⟨(some 7), (.mv (.t 50)), 2, none⟩] none)) (.reg [⟨(some 41), (.mv (.t 8)), 0, none⟩, ⟨(some 42), (.bin .num .add (.t 41) (.c (.int .i64 1))), 0, none⟩, ⟨(some 8), (.mv (.t 42)), 0, none⟩] none)))))) (.seq (.seq (.reg [⟨(some 51), (.mv (.t 7)), 0, none⟩, ⟨(some 52), (.len 1 (.t 51)), 0, none⟩, ⟨(some 53), (.bin .num .eql (.t 52) (.c (.int .i64 0))), 0, none⟩, ⟨(some 54), (.mv (.t 53)), 0, none⟩, ⟨(some 55), (.mv (.t 7)), 0, (some (54, false))⟩, ⟨(some 56), (.mv (.t 7)), 0, (some (54, false))⟩, ⟨(some 57), (.len 1 (.t 56)), 0, (some (54, false))⟩, ⟨(some 58), (.bin .num .sub (.t 57) (.c (.int .i64 1))), 0, (some (54, false))⟩, ⟨(some 59), (.slc 2 (.t 55) none (some (.t 58)) none), 0, (some (54, false))⟩, ⟨(some 60), (.call (.c (.fn 16)) [(.t 59)]), 0, (some (54, false))⟩, ⟨(some 61), (.mv (.t 2)), 2, (some (54, false))⟩, ⟨(some 62), (.call (.c (.fn 8)) [(.t 60), (.t 61)]), 2, (some (54, false))⟩, ⟨(some 63), (.un .not (.t 62)), 4, (some (54, false))⟩, ⟨(some 64), (.pick (.t 54) (.c (.bool true)) (.t 63)), 4, none⟩] none) (.cond (.t 64) (.seq (.reg [⟨(some 6), (.mv (.c (.bool true))), 0, none⟩] none) .ret) .skip)) (.seq (.reg [⟨(some 66), (.mv (.t 7)), 0, none⟩, ⟨(some 67), (.mv (.t 7)), 0, none⟩, ⟨(some 68), (.len 1 (.t 67)), 0, none⟩, ⟨(some 69), (.bin .num .sub (.t 68) (.c (.int .i64 1))), 0, none⟩, ⟨(some 70), (.iaddr 2 (.t 66) (.t 69)), 0, none⟩, ⟨(some 71), (.load true [(.int .i64), (.sl 2)] (.t 70)), 0, none⟩, ⟨(some 72), (.call (.c (.fn 14)) [(.t 71)]), 0, none⟩, ⟨(some 65), (.mv (.t 72)), 2, none⟩, ⟨(some 73), (.extract (.t 65) 0), 2, none⟩, ⟨(some 74), (.extract (.t 65) 1), 2, none⟩, ⟨(some 9), (.alloc (.agg [(.int .i64 0), (.sl 0 true [])])), 2, none⟩, ⟨none, (.store 2 (.t 9) (.t 73)), 3, none⟩, ⟨(some 10), (.mv (.t 74)), 3, none⟩] none) (.seq (.reg [⟨(some 76), (.load true [(.int .i64), (.sl 2)] (.t 9)), 0, none⟩, ⟨(some 77), (.mv (.t 2)), 0, none⟩, ⟨(some 78), (.call (.c (.fn 10)) [(.t 76), (.t 77)]), 0, none⟩, ⟨(some 75), (.mv (.t 78)), 2, none⟩, ⟨(some 79), (.extract (.t 75) 0), 2, none⟩, ⟨(some 80), (.extract (.t 75) 1), 2, none⟩, ⟨(some 11), (.mv (.t 79)), 2, none⟩, ⟨(some 12), (.mv (.t 80)), 2, none⟩] none) (.seq (.reg [⟨(some 81), (.mv (.t 10)), 0, none⟩, ⟨(some 82), (.bin .num .neq (.t 81) (.c (.int .i64 0))), 0, none⟩, ⟨(some 83), (.mv (.t 82)), 0, none⟩, ⟨(some 84), (.mv (.t 12)), 0, (some (83, false))⟩, ⟨(some 85), (.bin .num .neq (.t 84) (.c (.int .i64 0))), 0, (some (83, false))⟩, ⟨(some 86), (.pick (.t 83) (.c (.bool true)) (.t 85)), 0, none⟩, ⟨(some 87), (.mv (.t 86)), 0, none⟩, ⟨(some 88), (.mv (.t 7)), 0, (some (87, false))⟩, ⟨(some 89), (.mv (.t 7)), 0, (some (87, false))⟩, ⟨(some 90), (.len 1 (.t 89)), 0, (some (87, false))⟩, ⟨(some 91), (.bin .num .sub (.t 90) (.c (.int .i64 1))), 0, (some (87, false))⟩, ⟨(some 92), (.slc 2 (.t 88) none (some (.t 91)) none), 0, (some (87, false))⟩, ⟨(some 93), (.load true [(.int .i64), (.sl 2)] (.t 9)), 0, (some (87, false))⟩, ⟨(some 94), (.load true [(.int .i64), (.sl 1), (.int .i64), (.sl 2), (.sl 5)] (.t 4)), 0, (some (87, false))⟩, ⟨(some 95), (.call (.c (.fn 17)) [(.t 92), (.t 93), (.t 94)]), 0, (some (87, false))⟩, ⟨(some 96), (.bin .num .neq (.t 95) (.c (.int .i64 0))), 2, (some (87, false))⟩, ⟨(some 97), (.pick (.t 87) (.c (.bool true)) (.t 96)), 2, none⟩, ⟨(some 98), (.mv (.t 97)), 2, none⟩, ⟨(some 99), (.mv (.t 11)), 2, (some (98, false))⟩, ⟨(some 100), (.bin .num .geq (.t 99) (.c (.int .i64 0))), 2, (some (98, false))⟩, ⟨(some 101), (.pick (.t 98) (.c (.bool true)) (.t 100)), 2, none⟩, ⟨(some 6), (.mv (.t 101)), 2, none⟩] (some [[], [0], [1, 0], [2, 1, 0], [3, 2, 1, 0], [2, 4, 1, 0, 3], [5, 2, 4, 1, 0, 3], [6, 5, 2, 4, 1, 0, 3], [6, 5, 2, 4, 1, 0, 3], [8, 6, 5, 2, 4, 1, 0, 3], [9, 6, 8, 5, 2, 4, 1, 0, 3], [7, 10, 6, 5, 2, 4, 1, 0, 3, 9, 8], [6, 5, 2, 4, 1, 0, 3], [6, 5, 2, 4, 1, 0, 3], [11, 12, 13, 6, 7, 10, 5, 2, 4, 1, 0, 3, 9, 8], [14, 6, 11, 12, 13, 7, 10, 5, 2, 4, 1, 0, 3, 9, 8], [6, 15, 5, 2, 4, 1, 0, 3, 14, 11, 12, 13, 7, 10, 9, 8], [16, 14, 6, 15, 5, 2, 4, 1, 0, 3, 11, 12, 13, 7, 10, 9, 8], [17, 16, 14, 6, 15, 5, 2, 4, 1, 0, 3, 11, 12, 13, 7, 10, 9, 8], [18, 17, 16, 14, 6, 15, 5, 2, 4, 1, 0, 3, 11, 12, 13, 7, 10, 9, 8], [17, 19, 16, 14, 6, 15, 5, 2, 4, 1, 0, 3, 11, 12, 13, 7, 10, 9, 8, 18], [20, 17, 0, 1, 2, 3, 4, 5, 6, 7, 8, 9, 10, 11, 12, 13, 14, 15, 16, 18, 19]])) .ret))))))))))
def rs_lsound : List IRes := [(.tmp 6)]
abbrev nt_lsound : Nat := 102
def T_lsound : Tab := tab [(6, .pure (preT (fun _ : Unit => true)) (valT (fun _ : Unit => true))), (7, .pure (preT (fun x : List Fact × Int × Unit => factsOk x.1)) (valT (fun x : List Fact × Int × Unit => few7 x.1 x.2.1))), (12, .pure (preT (fun x : Cert × Int × Unit => cOk x.1)) (valT (fun x : Cert × Int × Unit => smallC x.1 x.2.1))), (15, .pure (preT (fun x : List Fact × Cert × Unit => factsSm x.1 && cSm x.2.1 && decide (x.1.length + depC x.2.1 ≤ 300))) (valT (fun x : List Fact × Cert × Unit => checkC x.1 x.2.1))), (8, .pure (preT (fun x : List Fact × List Coef × Unit => factsSm x.1 && decide (x.2.1.length ≤ 9223372036854775807))) (valT (fun x : List Fact × List Coef × Unit => x.1.all fun f => holdsB f x.2.1))), (16, .pure (preT (fun x : List Lin × Unit => decide (x.1.length ≤ 1000000))) (valT (fun x : List Lin × Unit => factsL x.1))), (14, .pure (preT (fun x : Lin × Unit => linSm x.1)) (valT (fun x : Lin × Unit => negL x.1))), (10, .pure (preT (fun x : Lin × List Coef × Unit => linOk x.1 && decide (x.2.1.length ≤ 9223372036854775807))) (valT (fun x : Lin × List Coef × Unit => evalL x.1 x.2.1))), (17, .pure (preT (fun x : List Lin × Lin × Cert × Unit => provesPre x.1 x.2.1 x.2.2.1)) (valT (fun x : List Lin × Lin × Cert × Unit => provesC x.1 x.2.1 x.2.2.1)))]
theorem lsound_s {G : PV → Prop} (fs : List Fact) (k : Int) (m : List Int) (l : Lin) (ks : List Cert) (v : List Coef) (h : ∃ y0 : Bool, AV.pv (valT (fun (x : Unit) => true) []) = AV.pv (enc y0) ∧ (if (!y0) = true then G ((.bool false)) else ((Go.Pl.preT (fun (x : List Fact × Int × Unit) => factsOk (Prod.fst x)) [(.sl 3 false (List.map enc fs)), (.int .i64 8)]) = true ∧ (∃ y1 : Bool, AV.pv (valT (fun (x : List Fact × Int × Unit) => few7 (Prod.fst x) (Prod.fst (Prod.snd x))) [(.sl 3 false (List.map enc fs)), (.int .i64 8)]) = AV.pv (enc y1) ∧ (if (!y1) = true then G ((.bool true)) else ((Go.Pl.preT (fun (x : Cert × Int × Unit) => cOk (Prod.fst x)) [(.agg [(.int .i64 k), (.sl 1 false (List.map enc m)), (.int .i64 (Lin.k l)), (.sl 2 false (List.map enc (Lin.t l))), (.sl 5 false (List.map enc ks))]), (.int .i64 12)]) = true ∧ (∃ y2 : Bool, AV.pv (valT (fun (x : Cert × Int × Unit) => smallC (Prod.fst x) (Prod.fst (Prod.snd x))) [(.agg [(.int .i64 k), (.sl 1 false (List.map enc m)), (.int .i64 (Lin.k l)), (.sl 2 false (List.map enc (Lin.t l))), (.sl 5 false (List.map enc ks))]), (.int .i64 12)]) = AV.pv (enc y2) ∧ (if (!y2) = true then G ((.bool true)) else (if (decide ((↑(List.length (List.map enc v)) : Int) > 10)) = true then G ((.bool true)) else ((Go.Pl.preT (fun (x : List Fact × Cert × Unit) => factsSm (Prod.fst x) && cSm (Prod.fst (Prod.snd x)) && decide (List.length (Prod.fst x) + depC (Prod.fst (Prod.snd x)) ≤ 300)) [(.sl 3 false (List.map enc fs)), (.agg [(.int .i64 k), (.sl 1 false (List.map enc m)), (.int .i64 (Lin.k l)), (.sl 2 false (List.map enc (Lin.t l))), (.sl 5 false (List.map enc ks))])]) = true ∧ (∃ y3 : Int, AV.pv (valT (fun (x : List Fact × Cert × Unit) => checkC (Prod.fst x) (Prod.fst (Prod.snd x))) [(.sl 3 false (List.map enc fs)), (.agg [(.int .i64 k), (.sl 1 false (List.map enc m)), (.int .i64 (Lin.k l)), (.sl 2 false (List.map enc (Lin.t l))), (.sl 5 false (List.map enc ks))])]) = AV.pv (enc y3) ∧ (if (y3 == 0) = true then (Go.Pl.preT (fun (x : List Fact × List Coef × Unit) => factsSm (Prod.fst x) && decide (List.length (Prod.fst (Prod.snd x)) ≤ 9223372036854775807)) [(.sl 3 false (List.map enc fs)), (.sl 2 false (List.map enc v))]) = true ∧ (∃ y4 : Bool, AV.pv (valT (fun (x : List Fact × List Coef × Unit) => List.all (Prod.fst x) fun (f : Fact) => holdsB f (Prod.fst (Prod.snd x))) [(.sl 3 false (List.map enc fs)), (.sl 2 false (List.map enc v))]) = AV.pv (enc y4) ∧ (if (y4) = true then G ((.bool false)) else (At T_lsound 0 (endP' rs_lsound G) ic_lsound 0 102 [(0, (.pv (.sl 3 false (List.map enc fs)))), (2, (.pv (.sl 2 false (List.map enc v)))), (4, (.ptr 0 0)), (7, (.pv (.sl 0 true []))), (8, (.pv (.int .i64 0)))] [(.obj (.box [(.pv (.int .i64 k)), (.pv (.sl 1 false (List.map enc m))), (.pv (.int .i64 (Lin.k l))), (.pv (.sl 2 false (List.map enc (Lin.t l)))), (.pv (.sl 5 false (List.map enc ks)))]))]))) else (At T_lsound 0 (endP' rs_lsound G) ic_lsound 0 102 [(0, (.pv (.sl 3 false (List.map enc fs)))), (2, (.pv (.sl 2 false (List.map enc v)))), (4, (.ptr 0 0)), (7, (.pv (.sl 0 true []))), (8, (.pv (.int .i64 0)))] [(.obj (.box [(.pv (.int .i64 k)), (.pv (.sl 1 false (List.map enc m))), (.pv (.int .i64 (Lin.k l))), (.pv (.sl 2 false (List.map enc (Lin.t l)))), (.pv (.sl 5 false (List.map enc ks)))]))]))))))))))))) : Gets T_lsound 0 (endP' rs_lsound G) ic_lsound [] (st0 102 [enc fs, .agg [enc k, enc m, enc l.k, enc l.t, enc ks], enc v]) := Gets.tp (.lit (.abs (Bool) (fun YY => AV.pv (enc YY)) (.ask (.nil) (.req (.abs (Bool) (fun YY => AV.pv (enc YY)) (.ask (.lit (.lit (.lit (.lit (.lit (.lit (.lit (.lit (.nil))))))))) (.lit (.req (.abs (Bool) (fun YY => AV.pv (enc YY)) (.lit (.lit (.ask (.lit (.lit (.lit (.lit (.nil))))) (.lit (.lit (.lit (.lit (.ask (.nil) (.req (.abs (Int) (fun YY => AV.pv (enc YY)) (.lit (.ask (.lit (.lit (.req (.abs (Bool) (fun YY => AV.pv (enc YY)) (.lit (.ask (.nil) (.nil))))))) (.lit (.lit (.lit (.lit (.nil)))))))))))))))))))))))))) h (by kernel_rfl)
theorem lsound_h0a {G : PV → Prop} (fs : List Fact) (k : Int) (m : List Int) (l : Lin) (ks : List Cert) (v : List Coef) (i : Int) (h : if (decide (i < (↑(List.length (List.map enc fs)) : Int))) = true then (decide (0 ≤ i) && decide (Int.toNat i < List.length (List.map enc fs)) && Enc.sz Fact == 3) = true ∧ (∃ y0 : Fact, AV.pv (PV.rptr (PV.cells (List.getD (List.map enc fs) (Int.toNat i) default))) = AV.pv (PV.rptr (PV.cells ((enc) y0))) ∧ (At T_lsound 0 (endP' rs_lsound G) ic_lsound 0 102 [(0, (.pv (.sl 3 false (List.map enc fs)))), (2, (.pv (.sl 2 false (List.map enc v)))), (4, (.ptr 0 0)), (7, (.row 1 1 0 1)), (8, (.pv (.int .i64 (IntKind.wrap IntKind.i64 (i + 1)))))] [(.obj (.box [(.pv (.int .i64 k)), (.pv (.sl 1 false (List.map enc m))), (.pv (.int .i64 (Lin.k l))), (.pv (.sl 2 false (List.map enc (Lin.t l)))), (.pv (.sl 5 false (List.map enc ks)))])), (.obj (.row false 30 2 [(.agg [(.int .i64 (PV.asInt (List.getD (List.drop 1 (PV.cells (enc y0))) 0 default))), (.sl 2 false (PV.asXs (List.getD (List.drop 1 (PV.cells (enc y0))) (0 + 1) default)))])]))])) else (G ((.bool true)))) : At T_lsound 0 (endP' rs_lsound G) ic_lsound 0 102 [(0, .pv (enc fs)), (2, .pv (enc v)), (4, .ptr 0 0), (7, .pv (.sl 0 true [])), (8, .pv (.int .i64 i))] [.obj (.box [.pv (enc k), .pv (enc m), .pv (enc l.k), .pv (enc l.t), .pv (enc ks)])] := At.tp (.lit (.ask (.req (.abs (Fact) (fun YY => AV.pv (PV.rptr (PV.cells ((enc) YY)))) (.lit (.lit (.lit (.lit (.lit (.lit (.lit (.nil)))))))))) (.lit (.lit (.lit (.lit (.lit (.lit (.lit (.lit (.lit (.lit (.lit (.lit (.nil))))))))))))))) h (by kernel_rfl)
theorem lsound_h0b {G : PV → Prop} (fs : List Fact) (k : Int) (m : List Int) (l : Lin) (ks : List Cert) (v : List Coef) (q : Nat) (ts : List Lin) (i : Int) (h : if (decide (i < (↑(List.length (List.map enc fs)) : Int))) = true then (decide (0 ≤ i) && decide (Int.toNat i < List.length (List.map enc fs)) && Enc.sz Fact == 3) = true ∧ (∃ y0 : Fact, AV.pv (PV.rptr (PV.cells (List.getD (List.map enc fs) (Int.toNat i) default))) = AV.pv (PV.rptr (PV.cells ((enc) y0))) ∧ ((List.length (List.map enc ts) == q && q == q && decide ((q + List.length (List.drop 0 (List.take 1 [PV.agg (shAll (List.drop 1 (PV.cells (enc y0))) 0 [Sh.int .i64, Sh.sl 2])]))) * 32 ≤ 1099511627776) && decide (q + List.length (List.drop 0 (List.take 1 [PV.agg (shAll (List.drop 1 (PV.cells (enc y0))) 0 [Sh.int .i64, Sh.sl 2])])) ≤ 1099511627776)) = true ∧ (At T_lsound 0 (endP' rs_lsound G) ic_lsound 0 102 [(0, (.pv (.sl 3 false (List.map enc fs)))), (2, (.pv (.sl 2 false (List.map enc v)))), (4, (.ptr 0 0)), (7, (.row 1 (q + List.length (List.drop 0 (List.take 1 [PV.agg (shAll (List.drop 1 (PV.cells (enc y0))) 0 [Sh.int .i64, Sh.sl 2])]))) 0 (q + List.length (List.drop 0 (List.take 1 [PV.agg (shAll (List.drop 1 (PV.cells (enc y0))) 0 [Sh.int .i64, Sh.sl 2])]))))), (8, (.pv (.int .i64 (IntKind.wrap IntKind.i64 (i + 1)))))] [(.obj (.box [(.pv (.int .i64 k)), (.pv (.sl 1 false (List.map enc m))), (.pv (.int .i64 (Lin.k l))), (.pv (.sl 2 false (List.map enc (Lin.t l)))), (.pv (.sl 5 false (List.map enc ks)))])), (.obj (.row false 30 2 (List.map enc ts ++ List.drop 0 (List.take 1 [PV.agg (shAll (List.drop 1 (PV.cells (enc y0))) 0 [Sh.int .i64, Sh.sl 2])]))))]))) else (if ((↑(q - 0) : Int) == 0) = true then G ((.bool true)) else ((true && decide (0 ≤ IntKind.wrap IntKind.i64 ((↑(q - 0) : Int) - 1)) && decide (0 ≤ Int.toNat (IntKind.wrap IntKind.i64 ((↑(q - 0) : Int) - 1))) && decide (0 + Int.toNat (IntKind.wrap IntKind.i64 ((↑(q - 0) : Int) - 1)) ≤ q) && List.length (List.map enc ts) == q) = true ∧ ((List.length (List.map enc ts) == q) = true ∧ ((Go.Pl.preT (fun (x : List Lin × Unit) => decide (List.length (Prod.fst x) ≤ 1000000)) [(.sl 2 false (List.drop (0 + 0) (List.take (0 + Int.toNat (IntKind.wrap IntKind.i64 ((↑(q - 0) : Int) - 1))) (List.map enc ts))))]) = true ∧ (∃ y1 : List Fact, AV.pv (valT (fun (x : List Lin × Unit) => factsL (Prod.fst x)) [(.sl 2 false (List.drop (0 + 0) (List.take (0 + Int.toNat (IntKind.wrap IntKind.i64 ((↑(q - 0) : Int) - 1))) (List.map enc ts))))]) = AV.pv (enc y1) ∧ ((Go.Pl.preT (fun (x : List Fact × List Coef × Unit) => factsSm (Prod.fst x) && decide (List.length (Prod.fst (Prod.snd x)) ≤ 9223372036854775807)) [(.sl 3 false (List.map enc y1)), (.sl 2 false (List.map enc v))]) = true ∧ (∃ y2 : Bool, AV.pv (valT (fun (x : List Fact × List Coef × Unit) => List.all (Prod.fst x) fun (f : Fact) => holdsB f (Prod.fst (Prod.snd x))) [(.sl 3 false (List.map enc y1)), (.sl 2 false (List.map enc v))]) = AV.pv (enc y2) ∧ (if (!y2) = true then G ((.bool true)) else ((decide (0 ≤ IntKind.wrap IntKind.i64 ((↑(q - 0) : Int) - 1)) && decide (0 + Int.toNat (IntKind.wrap IntKind.i64 ((↑(q - 0) : Int) - 1)) < q) && List.length (List.map enc ts) == q) = true ∧ ((List.length (List.map enc ts) == q && decide (0 + Int.toNat (IntKind.wrap IntKind.i64 ((↑(q - 0) : Int) - 1)) < List.length (List.map enc ts))) = true ∧ ((decide (0 + List.length [Sh.int .i64, Sh.sl 2] ≤ List.length (PV.cells (List.getD (List.map enc ts) (0 + Int.toNat (IntKind.wrap IntKind.i64 ((↑(q - 0) : Int) - 1))) default))) && shFit (PV.cells (List.getD (List.map enc ts) (0 + Int.toNat (IntKind.wrap IntKind.i64 ((↑(q - 0) : Int) - 1))) default)) 0 [Sh.int .i64, Sh.sl 2]) = true ∧ ((Go.Pl.preT (fun (x : Lin × Unit) => linSm (Prod.fst x)) [(.agg [(.int .i64 (PV.asInt (List.getD (PV.cells (List.getD (List.map enc ts) (0 + Int.toNat (IntKind.wrap IntKind.i64 ((↑(q - 0) : Int) - 1))) default)) 0 default))), (.sl 2 (PV.asT (List.getD (PV.cells (List.getD (List.map enc ts) (0 + Int.toNat (IntKind.wrap IntKind.i64 ((↑(q - 0) : Int) - 1))) default)) (0 + 1) default)) (PV.asXs (List.getD (PV.cells (List.getD (List.map enc ts) (0 + Int.toNat (IntKind.wrap IntKind.i64 ((↑(q - 0) : Int) - 1))) default)) (0 + 1) default)))])]) = true ∧ (∃ y3 : Lin × Int, AV.pv (valT (fun (x : Lin × Unit) => negL (Prod.fst x)) [(.agg [(.int .i64 (PV.asInt (List.getD (PV.cells (List.getD (List.map enc ts) (0 + Int.toNat (IntKind.wrap IntKind.i64 ((↑(q - 0) : Int) - 1))) default)) 0 default))), (.sl 2 (PV.asT (List.getD (PV.cells (List.getD (List.map enc ts) (0 + Int.toNat (IntKind.wrap IntKind.i64 ((↑(q - 0) : Int) - 1))) default)) (0 + 1) default)) (PV.asXs (List.getD (PV.cells (List.getD (List.map enc ts) (0 + Int.toNat (IntKind.wrap IntKind.i64 ((↑(q - 0) : Int) - 1))) default)) (0 + 1) default)))])]) = AV.pv (enc y3) ∧ ((Go.Pl.preT (fun (x : Lin × List Coef × Unit) => linOk (Prod.fst x) && decide (List.length (Prod.fst (Prod.snd x)) ≤ 9223372036854775807)) [(.agg [(.int .i64 (Lin.k (Prod.fst y3))), (.sl 2 false (List.map enc (Lin.t (Prod.fst y3))))]), (.sl 2 false (List.map enc v))]) = true ∧ (∃ y4 : Int × Int, AV.pv (valT (fun (x : Lin × List Coef × Unit) => evalL (Prod.fst x) (Prod.fst (Prod.snd x))) [(.agg [(.int .i64 (Lin.k (Prod.fst y3))), (.sl 2 false (List.map enc (Lin.t (Prod.fst y3))))]), (.sl 2 false (List.map enc v))]) = AV.pv (enc y4) ∧ (if (Prod.snd y3 != 0) = true then G ((.bool true)) else (if (Prod.snd y4 != 0) = true then G ((.bool true)) else ((true && decide (0 ≤ IntKind.wrap IntKind.i64 ((↑(q - 0) : Int) - 1)) && decide (0 ≤ Int.toNat (IntKind.wrap IntKind.i64 ((↑(q - 0) : Int) - 1))) && decide (0 + Int.toNat (IntKind.wrap IntKind.i64 ((↑(q - 0) : Int) - 1)) ≤ q) && List.length (List.map enc ts) == q) = true ∧ ((List.length (List.map enc ts) == q) = true ∧ ((Go.Pl.preT (fun (x : List Lin × Lin × Cert × Unit) => provesPre (Prod.fst x) (Prod.fst (Prod.snd x)) (Prod.fst (Prod.snd (Prod.snd x)))) [(.sl 2 false (List.drop (0 + 0) (List.take (0 + Int.toNat (IntKind.wrap IntKind.i64 ((↑(q - 0) : Int) - 1))) (List.map enc ts)))), (.agg [(.int .i64 (Lin.k (Prod.fst y3))), (.sl 2 false (List.map enc (Lin.t (Prod.fst y3))))]), (.agg [(.int .i64 k), (.sl 1 false (List.map enc m)), (.int .i64 (Lin.k l)), (.sl 2 false (List.map enc (Lin.t l))), (.sl 5 false (List.map enc ks))])]) = true ∧ (∃ y5 : Int, AV.pv (valT (fun (x : List Lin × Lin × Cert × Unit) => provesC (Prod.fst x) (Prod.fst (Prod.snd x)) (Prod.fst (Prod.snd (Prod.snd x)))) [(.sl 2 false (List.drop (0 + 0) (List.take (0 + Int.toNat (IntKind.wrap IntKind.i64 ((↑(q - 0) : Int) - 1))) (List.map enc ts)))), (.agg [(.int .i64 (Lin.k (Prod.fst y3))), (.sl 2 false (List.map enc (Lin.t (Prod.fst y3))))]), (.agg [(.int .i64 k), (.sl 1 false (List.map enc m)), (.int .i64 (Lin.k l)), (.sl 2 false (List.map enc (Lin.t l))), (.sl 5 false (List.map enc ks))])]) = AV.pv (enc y5) ∧ (if (y5 != 0) = true then G ((.bool true)) else (G ((.bool (decide (Prod.fst y4 ≥ 0)))))))))))))))))))))))))))) : At T_lsound 0 (endP' rs_lsound G) ic_lsound 0 102 [(0, .pv (enc fs)), (2, .pv (enc v)), (4, .ptr 0 0), (7, .row 1 q 0 q), (8, .pv (.int .i64 i))] [.obj (.box [.pv (enc k), .pv (enc m), .pv (enc l.k), .pv (enc l.t), .pv (enc ks)]), .obj (.row false 30 2 (ts.map enc))] := At.tp (.lit (.ask (.req (.abs (Fact) (fun YY => AV.pv (PV.rptr (PV.cells ((enc) YY)))) (.lit (.lit (.lit (.req (.lit (.nil)))))))) (.lit (.ask (.lit (.lit (.lit (.lit (.lit (.lit (.lit (.lit (.lit (.lit (.nil))))))))))) (.lit (.lit (.lit (.lit (.lit (.req (.lit (.req (.req (.abs (List Fact) (fun YY => AV.pv (enc YY)) (.lit (.lit (.req (.abs (Bool) (fun YY => AV.pv (enc YY)) (.lit (.lit (.ask (.nil) (.lit (.req (.keep (.req (.req (.req (.abs (Lin × Int) (fun YY => AV.pv (enc YY)) (.req (.abs (Int × Int) (fun YY => AV.pv (enc YY)) (.lit (.ask (.lit (.lit (.lit (.lit (.lit (.lit (.lit (.lit (.lit (.lit (.lit (.lit (.lit (.lit (.lit (.nil)))))))))))))))) (.lit (.lit (.lit (.ask (.lit (.lit (.lit (.lit (.lit (.lit (.lit (.lit (.lit (.lit (.lit (.lit (.nil))))))))))))) (.lit (.lit (.lit (.lit (.lit (.req (.lit (.lit (.lit (.req (.req (.abs (Int) (fun YY => AV.pv (enc YY)) (.lit (.lit (.lit (.ask (.lit (.lit (.nil))) (.lit (.lit (.lit (.nil)))))))))))))))))))))))))))))))))))))))))))))))))))))))) h (by kernel_rfl)
end Go.Pl

namespace Go.Pl
open Go.RowKit
open Enc (enc dec is)
open EncL (encL decL isL)
def semF (x : Str → Int) (f : Fact) : Prop := 0 ≤ f.l.k + sumV x f.l.t ∧ (f.eq = true → f.l.k + sumV x f.l.t = 0)
theorem cut_sem (x : Str → Int) {fs : List Fact} {ms : List Int} (hn : fs.length ≤ 300) (hh : ∀ f ∈ fs, semF x f) (hc : (cutL fs ms).2 = 0) : 0 ≤ (cutL fs ms).1.k + sumV x (cutL fs ms).1.t := by
  have hvl := cut_valid hc
  cases hv : valid7 fs
  · simp [cutL, hv] at hc
  cases ho : okC fs ms
  · simp [cutL, hv, ho] at hc
  have hz : (ms.zip fs).length ≤ 300 := by rw [List.length_zip]; omega
  have hq := zip_ok hv ho
  obtain ⟨v1, v2, v3, v4⟩ := fold_ev x (ms.zip fs) 0 [] 0 (by omega) (by omega) hq (by intro p hp; cases hp) (by omega) (by omega)
  obtain ⟨b1, b2, b3⟩ := fold_bnd (ms.zip fs) 0 [] 0 (by omega) (by omega) hq (by intro p hp; cases hp) (by intro x hx; cases hx)
  have htot := tot_pos x (ms.zip fs) fun q hm => ⟨(hq q hm).1, hh q.2 (List.of_mem_zip hm).2⟩
  have hcut : cutL fs ms = cutM (cfold fs ms).1 (nzM (cfold fs ms).2) := by simp [cutL, hv, ho]
  rw [hcut] at hc hvl ⊢
  have hdup : (keysM (nzM (cfold fs ms).2)).Nodup := nz_nodup (fold_nodup _ _ _ (by simp [keysM]))
  have hev : evM x (nzM (cfold fs ms).2) = totV x (ms.zip fs) := by
    rw [nz_ev]
    have : evM x ([] : List (Str × Int)) = 0 := rfl
    show evM x ((ms.zip fs).foldl cstep (0, [])).2 = _
    rw [v1, this]; omega
  have hbnd : ∀ p ∈ nzM (cfold fs ms).2, -4000000000000000000 ≤ p.2 ∧ p.2 ≤ 4000000000000000000 := fun p hp => by
    have := b1 p (List.mem_filter.1 hp).1
    omega
  have hnz : ∀ p ∈ nzM (cfold fs ms).2, p.2 ≠ 0 := fun p hp => by simpa using (List.mem_filter.1 hp).2
  have hnum : (cfold fs ms).1 = totK (ms.zip fs) := by show ((ms.zip fs).foldl cstep (0, [])).1 = _; rw [v2]; omega
  have hnb : -4000000000000000000 ≤ (cfold fs ms).1 ∧ (cfold fs ms).1 ≤ 4000000000000000000 := by rw [hnum]; omega
  rw [← hnum, ← hev] at htot
  clear v1 v2 v3 v4 b1 b2 b3 hev hnum hcut hq
  generalize (cfold fs ms).1 = n at *
  generalize nzM (cfold fs ms).2 = m at *
  unfold cutM at hc hvl ⊢
  by_cases hm : m = []
  · rw [if_pos hm] at hc; cases hc
  rw [if_neg hm] at hc hvl ⊢
  obtain ⟨p, hp⟩ := List.exists_mem_of_ne_nil m hm
  obtain ⟨hd1, hd2⟩ := gcds_dvd (valsM m)
  have hdv : ∀ p ∈ m, gcdsI (valsM m) ∣ p.2 := fun p hp => hd1 p.2 (List.mem_map.2 ⟨p, hp, rfl⟩)
  have hg0 : gcdsI (valsM m) ≠ 0 := gcds_ne ⟨p.2, List.mem_map.2 ⟨p, hp, rfl⟩, hnz p hp⟩
  have hgu : gcdsI (valsM m) ≤ 4000000000000000000 := by
    have h1 := Nat.le_of_dvd (Int.natAbs_pos.2 (hnz p hp)) (Int.natAbs_dvd_natAbs.2 (hdv p hp))
    have h2 := hbnd p hp
    omega
  generalize gcdsI (valsM m) = g at *
  have hg : 0 < g := by omega
  have hterm := terms_ev x hdup hg hdv hbnd
  have hdi : (divI n g).1 = divQ n g := by
    have h1 : inR n = true := by simp only [inR, Bool.and_eq_true, decide_eq_true_eq]; omega
    have h2 : inR g = true := by simp only [inR, Bool.and_eq_true, decide_eq_true_eq]; omega
    unfold divI divE
    rw [h1, h2]
    simp [hg0]
  obtain ⟨hf1, hf2⟩ := divQ_floor (a := n) hg (by omega) (by omega)
  rw [hdi] at hc hvl ⊢
  by_cases hvv : validL ⟨divQ n g, cutT m g (namesS m)⟩ = true
  · rw [if_pos hvv]
    show 0 ≤ divQ n g + sumV x (cutT m g (namesS m))
    generalize sumV x (cutT m g (namesS m)) = S at *
    rw [← hterm] at htot
    have h1 : 0 < g * (divQ n g + S + 1) := by
      rw [Int.mul_add, Int.mul_add, Int.mul_one]; omega
    rcases (show 0 < divQ n g + S + 1 ∨ divQ n g + S + 1 ≤ 0 by omega) with h2 | h2
    · omega
    · have h3 := Int.mul_le_mul_of_nonneg_left h2 (show 0 ≤ g by omega)
      rw [Int.mul_zero] at h3
      omega
  · rw [if_neg hvv] at hc; cases hc
theorem termsM_ev (x : Str → Int) {m : List (Str × Int)} (hd : (keysM m).Nodup) : sumV x (termsM m) = evM x m := by
  have h1 : sumV x (termsM m) = ((sortS ((m.filter fun p => decide (p.2 ≠ 0)).map (·.1.s))).map fun v => atM m v * x ⟨v⟩).sum := by simp only [sumV, termsM, List.map_map]; rfl
  have h2 : ((sortS ((m.filter fun p => decide (p.2 ≠ 0)).map (·.1.s))).map fun v => atM m v * x ⟨v⟩).sum = (((m.filter fun p => decide (p.2 ≠ 0)).map (·.1.s)).map fun v => atM m v * x ⟨v⟩).sum := sum_perm ((List.mergeSort_perm _ _).map _)
  have h3 : ((m.filter fun p => decide (p.2 ≠ 0)).map (·.1.s)).map (fun v => atM m v * x ⟨v⟩) = (nzM m).map fun p => p.2 * x p.1 := by
    simp only [List.map_map, nzM]
    apply List.map_congr_left
    intro p hp
    show atM m p.1.s * x ⟨p.1.s⟩ = _
    rw [atM_mem hd p (List.mem_filter.1 hp).1]
  rw [h1, h2, h3]
  exact nz_ev x m
theorem bnd_nil : bndM [] 0 := by intro p hp; cases hp
theorem comb_sem (x : Str → Int) {a b : Lin} {k : Int} (hk1 : -1000000000 ≤ k) (hk2 : k ≤ 1000000000) (h : (combineL a b k).2 = 0) : (combineL a b k).1.k + sumV x (combineL a b k).1.t = (a.k + sumV x a.t) + k * (b.k + sumV x b.t) := by
  obtain ⟨ha, hb, hv⟩ := comb_valid h
  have hka := valid_k ha
  have hkb := valid_k hb
  have hla := valid_len ha
  have hlb := valid_len hb
  have hca : ∀ t ∈ a.t, -1000000 ≤ t.c ∧ t.c ≤ 1000000 := fun t ht => (valid_coef ha ht).2.2
  have hcb : ∀ t ∈ b.t, -1000000 ≤ t.c ∧ t.c ≤ 1000000 := fun t ht => (valid_coef hb ht).2.2
  have hm := mul_bnd hk1 hk2 hkb.1 hkb.2
  have b1 := addT_bnd (k := 1) (by omega) (by omega) a.t [] 0 (by omega) (by omega) hca bnd_nil
  have e1 := addT_ev x (k := 1) (by omega) (by omega) a.t [] 0 (by omega) (by omega) hca bnd_nil
  have e2 := addT_ev x hk1 hk2 b.t (addT 1 a.t []) (0 + a.t.length * 1000000000000000) (by omega) (by omega) hcb b1
  have hd : (keysM (addT k b.t (addT 1 a.t []))).Nodup := addT_nodup _ _ _ (addT_nodup _ _ _ (by simp [keysM]))
  have ez : evM x ([] : List (Str × Int)) = 0 := rfl
  have w0 : w64 (1 * a.k) = a.k := by rw [Int.one_mul]; exact w64_id (by omega) (by omega)
  have w1 : w64 (0 + a.k) = a.k := by rw [Int.zero_add]; exact w64_id (by omega) (by omega)
  have w2 : w64 (k * b.k) = k * b.k := w64_id (by omega) (by omega)
  have w3 : w64 (a.k + k * b.k) = a.k + k * b.k := w64_id (by omega) (by omega)
  unfold combineL at h ⊢
  rw [ha, hb, if_pos rfl, if_pos rfl] at h ⊢
  rw [w0, w1, w2, w3] at h ⊢
  unfold resM at h ⊢
  by_cases hr : validL ⟨a.k + k * b.k, termsM (addT k b.t (addT 1 a.t []))⟩ = true
  · rw [if_pos hr]
    show a.k + k * b.k + sumV x (termsM (addT k b.t (addT 1 a.t []))) = _
    rw [termsM_ev x hd, e2, e1, ez, Int.mul_add]
    omega
  · rw [if_neg hr] at h; cases h
theorem neg_sem (x : Str → Int) {l : Lin} (h : (negL l).2 = 0) : (negL l).1.k + sumV x (negL l).1.t = -1 - (l.k + sumV x l.t) := by
  unfold negL at h ⊢
  by_cases h1 : (scaleL l (-1)).2 = 0
  · rw [if_pos h1] at h ⊢
    have e : max (-1000001 : Int) (min (-1) 1000001) = -1 := by decide
    have h1' := h1
    unfold scaleL at h1'
    rw [e] at h1'
    have hs : (scaleL l (-1)).1.k + sumV x (scaleL l (-1)).1.t = ((⟨0, []⟩ : Lin).k + sumV x (⟨0, []⟩ : Lin).t) + (-1) * (l.k + sumV x l.t) := by
      unfold scaleL
      rw [e]
      exact comb_sem x (by omega) (by omega) h1'
    have hz : (⟨0, []⟩ : Lin).k + sumV x (⟨0, []⟩ : Lin).t = 0 := rfl
    have hz1 : (⟨-1, []⟩ : Lin).k + sumV x (⟨-1, []⟩ : Lin).t = -1 := rfl
    rw [comb_sem x (by omega) (by omega) h, hs, hz, hz1]
    omega
  · rw [if_neg h1] at h; exact absurd h h1
theorem sum_sem (x : Str → Int) {fs : List Fact} {ms : List Int} (hn : fs.length ≤ 300) (hv : valid7 fs = true) (hh : ∀ f ∈ fs, semF x f) : sumN fs ms = false := by
  cases hs : sumN fs ms
  · rfl
  simp only [sumN, Bool.and_eq_true, List.isEmpty_iff, decide_eq_true_eq] at hs
  obtain ⟨⟨ho, he⟩, hneg⟩ := hs
  have hz : (ms.zip fs).length ≤ 300 := by rw [List.length_zip]; omega
  have hq := zip_ok hv ho
  obtain ⟨v1, v2, v3, v4⟩ := fold_ev x (ms.zip fs) 0 [] 0 (by omega) (by omega) hq bnd_nil (by omega) (by omega)
  have htot := tot_pos x (ms.zip fs) fun q hm => ⟨(hq q hm).1, hh q.2 (List.of_mem_zip hm).2⟩
  have hnum : (cfold fs ms).1 = totK (ms.zip fs) := by show ((ms.zip fs).foldl cstep (0, [])).1 = _; rw [v2]; omega
  have hev : totV x (ms.zip fs) = 0 := by
    have h1 := nz_ev x (cfold fs ms).2
    rw [he] at h1
    have h2 : evM x (cfold fs ms).2 = evM x [] + totV x (ms.zip fs) := v1
    have ez : evM x ([] : List (Str × Int)) = 0 := rfl
    rw [ez] at h1 h2
    omega
  omega
theorem ref_sound (x : Str → Int) : ∀ (N : Nat) (c : Cert) (fs : List Fact), depC c ≤ N → fs.length + depC c ≤ 300 → valid7 fs = true → (∀ f ∈ fs, semF x f) → refC fs c = false := by
  intro N
  induction N with
  | zero =>
    intro c fs h
    obtain ⟨k, m, l, ks⟩ := c
    rw [depC] at h
    omega
  | succ N ih =>
    rintro ⟨k, m, l, ks⟩ fs hN hn hv hh
    rw [depC] at hN hn
    have hadd : ∀ l' : Lin, 0 ≤ l'.k + sumV x l'.t → ∀ f ∈ moreF fs l', semF x f := by
      intro l' h f hf
      rcases List.mem_append.1 hf with hf | hf
      · exact hh f hf
      · rw [List.mem_singleton.1 hf]
        exact ⟨h, fun h => by cases h⟩
    have hlen : ∀ l' : Lin, (moreF fs l').length = fs.length + 1 := fun l' => by simp [moreF]
    have hval : ∀ l' : Lin, validL l' = true → valid7 (moreF fs l') = true := fun l' h => by
      simp only [valid7, moreF, List.all_append, List.all_cons, List.all_nil, h, Bool.and_true, Bool.and_self]; exact hv
    by_cases h1 : k = 1
    · subst h1
      rw [refC1, sum_sem x (by omega) hv hh, Bool.and_false]
    by_cases h2 : k = 2
    · subst h2
      cases hb : bareB (.mk 2 m l ks) 1 true
      · exact refC2n fs m l ks hb
      obtain ⟨c, rfl⟩ : ∃ c, ks = [c] := List.length_eq_one_iff.1 (by have := bare_len hb; omega)
      rw [refC2]
      by_cases hc : (cutL fs m).2 = 0
      · simp only [depCs] at hN hn
        have hd : depC c ≤ N := by omega
        have hd2 : (moreF fs (cutL fs m).1).length + depC c ≤ 300 := by rw [hlen]; omega
        rw [ih c (moreF fs (cutL fs m).1) hd hd2 (hval _ (cut_valid hc)) (hadd _ (cut_sem x (by omega) hh hc)), Bool.and_false, Bool.and_false]
      · rw [decide_eq_false hc, Bool.false_and, Bool.and_false]
    by_cases h3 : k = 3
    · subst h3
      cases hb : bareB (.mk 3 m l ks) 2 false
      · exact refC3n fs m l ks hb
      obtain ⟨a, b, rfl⟩ := two_of (bare_len hb)
      rw [refC3]
      by_cases hc : (negL l).2 = 0
      · simp only [depCs] at hN hn
        have hd : depC a ≤ N := by omega
        have hd2 : (moreF fs l).length + depC a ≤ 300 := by rw [hlen]; omega
        have he : depC b ≤ N := by omega
        have he2 : (moreF fs (negL l).1).length + depC b ≤ 300 := by rw [hlen]; omega
        have hs := neg_sem x hc
        obtain ⟨w1, w2⟩ := neg_valid hc
        by_cases hp : 0 ≤ l.k + sumV x l.t
        · rw [ih a (moreF fs l) hd hd2 (hval _ w1) (hadd _ hp), Bool.false_and, Bool.and_false, Bool.and_false]
        · rw [ih b (moreF fs (negL l).1) he he2 (hval _ w2) (hadd _ (by omega)), Bool.and_false, Bool.and_false, Bool.and_false]
      · rw [decide_eq_false hc, Bool.false_and, Bool.and_false]
    exact refC0 fs k m l ks h1 h2 h3
end Go.Pl

namespace Go.Pl
open Go.RowKit
open Enc (enc dec is)
open EncL (encL decL isL)
theorem holds_sem {fs : List Fact} {v : List Coef} (hv : valid7 fs = true) (h : (fs.all fun f => holdsB f v) = true) : ∀ f ∈ fs, semF (xV v) f := by
  simp only [List.all_eq_true] at h
  simp only [valid7, List.all_eq_true] at hv
  intro f hf
  have := holds_val (h f hf) (hv f hf)
  exact this.2
theorem check_zero {fs : List Fact} {c : Cert} (h : (checkC fs c == 0) = true) : valid7 fs = true ∧ refC fs c = true := by
  have h : checkC fs c = 0 := by simpa using h
  unfold checkC at h
  cases hv : valid7 fs
  · rw [hv] at h; cases h
  rw [hv, if_pos rfl] at h
  split at h
  · cases h
  split at h
  · cases h
  split at h
  · rename_i hr; exact ⟨rfl, hr⟩
  · cases h
theorem check_sound {fs : List Fact} {c : Cert} {v : List Coef} (hn : fs.length + depC c ≤ 300) (hc : (checkC fs c == 0) = true) : (fs.all fun f => holdsB f v) = false := by
  cases h : fs.all fun f => holdsB f v
  · rfl
  obtain ⟨hv, hr⟩ := check_zero hc
  have := ref_sound (xV v) (depC c) c fs (by omega) hn hv (holds_sem hv h)
  rw [this] at hr; cases hr
theorem proves_sound {hs : List Lin} {g : Lin} {c : Cert} {v : List Coef} (hn : hs.length + 1 + depC c ≤ 300) (hh : ((factsL hs).all fun f => holdsB f v) = true) (hp : provesC hs g c = 0) (he : (evalL g v).2 = 0) : 0 ≤ (evalL g v).1 := by
  unfold provesC at hp
  cases hv : valid7 (factsL hs)
  · rw [hv] at hp; cases hp
  cases hg : validL g
  · rw [hv, hg, if_pos rfl] at hp; cases hp
  rw [hv, hg, if_pos rfl, if_pos rfl] at hp
  by_cases hz : (negL g).2 ≠ 0
  · rw [if_pos hz] at hp; exact absurd hp hz
  rw [if_neg hz] at hp
  have hz : (negL g).2 = 0 := by omega
  obtain ⟨hv2, hr⟩ := check_zero (fs := moreF (factsL hs) (negL g).1) (c := c) (by rw [hp]; rfl)
  have hsem := holds_sem hv hh
  have hlen : (moreF (factsL hs) (negL g).1).length = hs.length + 1 := by simp [moreF, factsL]
  have hs2 := neg_sem (xV v) hz
  have e : evalL g v = evalT v g.k g.t := by unfold evalL; rw [hg, if_pos rfl]
  rw [e] at he ⊢
  have hok := evalT_ok v g.t g.k he
  have hk := valid_k hg
  have hl := valid_len hg
  rw [evalT_val v g.t g.k 1000000 (fun t ht => ⟨hok t ht, (valid_coef hg ht).2.2⟩) (by omega) (by omega) (by omega)]
  show 0 ≤ g.k + sumV (xV v) g.t
  rcases (show 0 ≤ g.k + sumV (xV v) g.t ∨ 0 ≤ (negL g).1.k + sumV (xV v) (negL g).1.t by omega) with h | h
  · exact h
  · have hall : ∀ f ∈ moreF (factsL hs) (negL g).1, semF (xV v) f := by
      intro f hf
      rcases List.mem_append.1 hf with hf | hf
      · exact hsem f hf
      · rw [List.mem_singleton.1 hf]
        exact ⟨h, fun h => by cases h⟩
    have := ref_sound (xV v) (depC c) c (moreF (factsL hs) (negL g).1) (by omega) (by omega) hv2 hall
    rw [this] at hr; cases hr
end Go.Pl

namespace Go.Pl
open Go.RowKit
open Enc (enc dec is)
open EncL (encL decL isL)
theorem linsOf_sm {fs : List Fact} (h : factsSm fs = true) : ((fs.map (·.l)).all linSm) = true := by
  simp only [factsSm, Bool.and_eq_true, List.all_eq_true] at h
  simp only [List.all_map, List.all_eq_true]
  exact h.2
theorem neg_ok (l : Lin) : linOk (negL l).1 = true := by
  have key : ∀ (a b : Lin) (k : Int), linOk (combineL a b k).1 = true := by
    intro a b k
    by_cases h : (combineL a b k).2 = 0
    · have := valid_len (comb_valid h).2.2
      exact decide_eq_true (by omega)
    · unfold combineL at h ⊢
      split
      · split
        · rw [if_pos ‹_›, if_pos ‹_›] at h
          unfold resM at h ⊢
          split
          · rw [if_pos ‹_›] at h; exact absurd rfl h
          · rfl
        · rfl
      · rfl
  unfold negL
  split
  · exact key _ _ _
  · rfl
theorem lsound_end (fs : List Fact) (k : Int) (m : List Int) (l : Lin) (ks : List Cert) (v : List Coef) (hs0 : List Lin) (q : Nat) (i : Int) (hi : ¬ i < (fs.length : Int)) (hq : hs0.length = q) (h0 : 0 < q) (h8 : q ≤ 8) (hsm : hs0.all linSm = true) (hc : cSm (.mk k m l ks) = true) (hd : depC (.mk k m l ks) ≤ 12) (hvl : v.length ≤ 10) :
    At T_lsound 0 (endP' rs_lsound (Fits true)) ic_lsound 0 102 [(0, .pv (enc fs)), (2, .pv (enc v)), (4, .ptr 0 0), (7, .row 1 q 0 q), (8, .pv (.int .i64 i))]
      [.obj (.box [.pv (enc k), .pv (enc m), .pv (enc l.k), .pv (enc l.t), .pv (enc ks)]), .obj (.row false 30 2 (hs0.map enc))] := by
  have H := @lsound_h0b (Fits true) fs k m l ks v q hs0 i
  refine H (iteF (by simp; omega) ?_)
  clear H
  refine iteF (by simp; omega) ?_
  have ew : IntKind.i64.wrap ((((q - 0 : Nat) : Int)) - 1) = ((q - 1 : Nat) : Int) := by
    rw [show (((q - 0 : Nat) : Int)) - 1 = ((q - 1 : Nat) : Int) by omega]
    exact w64_id (by omega) (by omega)
  rw [ew]
  simp only [Int.toNat_natCast, Nat.zero_add]
  have hlast : q - 1 < hs0.length := by omega
  have eg : List.getD (List.map (enc : Lin → PV) hs0) (q - 1) default = enc hs0[q - 1] := by simp [List.getD, hlast]
  have et : PV.sl 2 false (List.drop 0 (List.take (q - 1) (List.map (enc : Lin → PV) hs0))) = enc (hs0.take (q - 1)) := by
    rw [List.drop_zero, ← List.map_take]; rfl
  have ec : (.agg [.int .i64 k, .sl 1 false (List.map enc m), .int .i64 l.k, .sl 2 false (List.map enc l.t), .sl 5 false (List.map enc ks)] : PV) = enc (Cert.mk k m l ks) := (enc_cert k m l ks).symm
  simp only [eg, et, ec]
  have hsm2 : (hs0.take (q - 1)).all linSm = true := by
    simp only [List.all_eq_true] at hsm ⊢
    exact fun x hx => hsm x (List.mem_of_mem_take hx)
  have hsl : linSm hs0[q - 1] = true := by
    simp only [List.all_eq_true] at hsm
    exact hsm _ (List.getElem_mem hlast)
  have hlen : (hs0.take (q - 1)).length = q - 1 := by simp; omega
  have hlm : (List.map (enc : Lin → PV) hs0).length = q := by simp [hq]
  rw [hlm]
  generalize hs0[q - 1] = la at hsl ⊢
  generalize hs0.take (q - 1) = hs at hsm2 hlen ⊢
  have t1 : (true && decide (0 ≤ ((q - 1 : Nat) : Int)) && decide (0 ≤ q - 1) && decide (q - 1 ≤ q) && q == q) = true := by simp
  have t2 : (decide (0 ≤ ((q - 1 : Nat) : Int)) && decide (q - 1 < q) && q == q) = true := by simp; omega
  refine ⟨t1, by simp, pre_enc (hs, ()) rfl (decide_eq_true (by show hs.length ≤ 1000000; omega)), ex_enc (hs, ()) rfl ⟨pre_enc (factsL hs, v, ()) rfl ?_, ex_enc (factsL hs, v, ()) rfl (iteN (fun _ => fits_of rfl) fun hh => ?_)⟩⟩
  · show (factsSm (factsL hs) && decide (v.length ≤ 9223372036854775807)) = true
    rw [factsL_sm (by omega) hsm2]
    exact decide_eq_true (by omega)
  refine ⟨t2, by simp; omega, rfl, pre_enc (la, ()) rfl hsl, ex_enc (la, ()) rfl ⟨pre_enc ((negL la).1, v, ()) rfl ?_, ex_enc ((negL la).1, v, ()) rfl (iteC (fun _ => fits_of rfl) fun he => iteC (fun _ => fits_of rfl) fun hf => ?_)⟩⟩
  · show (linOk (negL la).1 && decide (v.length ≤ 9223372036854775807)) = true
    rw [neg_ok la]
    exact decide_eq_true (by omega)
  have he : (negL la).2 = 0 := by simpa using he
  have hf : (evalL (negL la).1 v).2 = 0 := by simpa using hf
  refine ⟨t1, by simp, pre_enc (hs, (negL la).1, .mk k m l ks, ()) rfl ?_, ex_enc (hs, (negL la).1, .mk k m l ks, ()) rfl (iteC (fun _ => fits_of rfl) fun hp => fitB ?_)⟩
  · show provesPre hs (negL la).1 (.mk k m l ks) = true
    simp only [provesPre, Bool.and_eq_true, decide_eq_true_eq]
    exact ⟨⟨⟨⟨by omega, hsm2⟩, valid_sm (neg_valid he).2⟩, hc⟩, by omega⟩
  · have hp : provesC hs (negL la).1 (.mk k m l ks) = 0 := by simpa using hp
    have := proves_sound (v := v) (by omega) hh hp hf
    exact decide_eq_true this
theorem lsound_loop (fs : List Fact) (k : Int) (m : List Int) (l : Lin) (ks : List Cert) (v : List Coef) (hn : fs.length ≤ 8) (hfs : factsSm fs = true) (hc : cSm (.mk k m l ks) = true) (hd : depC (.mk k m l ks) ≤ 12) (hvl : v.length ≤ 10) : ∀ (j i : Nat), j + i = fs.length → 0 < i →
    At T_lsound 0 (endP' rs_lsound (Fits true)) ic_lsound 0 102 [(0, .pv (enc fs)), (2, .pv (enc v)), (4, .ptr 0 0), (7, .row 1 i 0 i), (8, .pv (.int .i64 i))]
      [.obj (.box [.pv (enc k), .pv (enc m), .pv (enc l.k), .pv (enc l.t), .pv (enc ks)]), .obj (.row false 30 2 (((fs.take i).map (·.l)).map enc))] := by
  intro j
  induction j with
  | zero =>
    intro i hi h0
    have e : fs.take i = fs := List.take_of_length_le (by omega)
    rw [e]
    have hl0 : (fs.map (·.l)).length = i := by simp; omega
    have hsm := linsOf_sm hfs
    clear e
    generalize fs.map (·.l) = ts at hl0 hsm ⊢
    have H := lsound_end fs k m l ks v ts i i (by omega) hl0 h0 (by omega) hsm hc hd hvl
    exact H
  | succ j ih =>
    intro i hi h0
    have hlt : i < fs.length := by omega
    have h := ih (i + 1) (by omega) (by omega)
    have et : (fs.take (i + 1)).map (·.l) = (fs.take i).map (·.l) ++ [fs[i].l] := by
      rw [List.take_add_one, List.getElem?_eq_getElem hlt, List.map_append]
      rfl
    have hl0 : ((fs.take i).map (·.l)).length = i := by simp; omega
    rw [et, List.map_append] at h
    generalize (fs.take i).map (·.l) = ts at h hl0 ⊢
    have H := @lsound_h0b (Fits true) fs k m l ks v i ts i
    refine H (iteT (lt_ok hlt) ⟨idx_ok hlt rfl, el_ex hlt ⟨by simp [hl0]; omega, ?_⟩⟩)
    rw [next (by omega)]
    exact h
theorem lsound_run : ∀ a : List Fact × Cert × List Coef × Unit, (factsOk a.1 && cOk a.2.1 && decide (a.2.2.1.length ≤ 9223372036854775807)) = true → Gets T_lsound 0 (endP' rs_lsound (Fits true)) ic_lsound [] (st0 nt_lsound (encL a)) := by
  rintro ⟨fs, ⟨k, m, l, ks⟩, v, ⟨⟩⟩ h
  simp only [Bool.and_eq_true, decide_eq_true_eq] at h
  obtain ⟨⟨h1, h2⟩, h3⟩ := h
  have e : (encL ((fs, Cert.mk k m l ks, v, ()) : List Fact × Cert × List Coef × Unit) : List PV) = [enc fs, PV.agg [enc k, enc m, enc l.k, enc l.t, enc ks], enc v] := by
    show [enc fs, enc (Cert.mk k m l ks), enc v] = _
    rw [enc_cert]
  rw [e]
  have ec : (.agg [.int .i64 k, .sl 1 false (List.map enc m), .int .i64 l.k, .sl 2 false (List.map enc l.t), .sl 5 false (List.map enc ks)] : PV) = enc (Cert.mk k m l ks) := (enc_cert k m l ks).symm
  refine lsound_s fs k m l ks v ?_
  simp only [ec]
  refine ex_enc ((), ()).1 rfl (iteN (fun h => by cases h) fun _ => ?_)
  refine ⟨pre_enc (fs, (8 : Int), ()) rfl h1, ex_enc (fs, (8 : Int), ()) rfl (iteN (fun _ => fits_of rfl) fun hw => ⟨pre_enc (Cert.mk k m l ks, (12 : Int), ()) rfl h2, ex_enc (Cert.mk k m l ks, (12 : Int), ()) rfl (iteN (fun _ => fits_of rfl) fun hs => iteC (fun _ => fits_of rfl) fun hv => ?_)⟩)⟩
  obtain ⟨hfs, hn⟩ := facts_few hw h1
  obtain ⟨_, hd, _, _, hc⟩ := small_c _ 12 (by omega) hs h2
  have hvl : v.length ≤ 10 := by
    have : ¬ ((List.length (List.map (enc : Coef → PV) v) : Int) > 10) := by simpa using hv
    rw [List.length_map] at this
    omega
  have hd : (depC (Cert.mk k m l ks) : Int) ≤ 12 := hd
  have hd : depC (Cert.mk k m l ks) ≤ 12 := by omega
  have hn : fs.length ≤ 8 := hn
  have loop : At T_lsound 0 (endP' rs_lsound (Fits true)) ic_lsound 0 102 [(0, .pv (enc fs)), (2, .pv (enc v)), (4, .ptr 0 0), (7, .pv (.sl 0 true [])), (8, .pv (.int .i64 0))] [.obj (.box [.pv (enc k), .pv (enc m), .pv (enc l.k), .pv (enc l.t), .pv (enc ks)])] := by
    refine lsound_h0a fs k m l ks v 0 ?_
    by_cases h0 : fs = []
    · subst h0
      exact iteF (by decide) (fits_of rfl)
    · have hlt : 0 < fs.length := List.length_pos_iff.2 h0
      have el : (List.map (enc : Fact → PV) fs).length = fs.length := by simp
      refine iteT (by rw [el]; exact lt_ok' hlt) ⟨idx_ok (i := 0) hlt rfl, el_ex (i := 0) hlt ?_⟩
      have h := lsound_loop fs k m l ks v hn hfs hc hd hvl (fs.length - 1) 1 (by omega) (by omega)
      have et : (fs.take 1).map (·.l) = [fs[0].l] := by
        cases fs with
        | nil => cases hlt
        | cons a r => rfl
      rw [et] at h
      exact h
  refine ⟨pre_enc (fs, Cert.mk k m l ks, ()) rfl ?_, ex_enc (fs, Cert.mk k m l ks, ()) rfl (iteC (fun hz => ⟨pre_enc (fs, v, ()) rfl ?_, ex_enc (fs, v, ()) rfl (iteC (fun hh => ?_) fun _ => loop)⟩) fun _ => loop)⟩
  · show (factsSm fs && cSm (.mk k m l ks) && decide (fs.length + depC (.mk k m l ks) ≤ 300)) = true
    rw [hfs, hc]
    exact decide_eq_true (by show fs.length + depC (Cert.mk k m l ks) ≤ 300; omega)
  · show (factsSm fs && decide (v.length ≤ 9223372036854775807)) = true
    rw [hfs]
    exact decide_eq_true (by omega)
  · have := check_sound (v := v) (by show fs.length + depC (Cert.mk k m l ks) ≤ 300; omega) hz
    rw [this] at hh
    cases hh
end Go.Pl

