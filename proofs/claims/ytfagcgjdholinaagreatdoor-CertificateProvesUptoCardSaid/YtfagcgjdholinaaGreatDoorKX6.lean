/-
  Texts of mine that belong together (packed by pack.py), for every input: QRa, QRb, QRc, TyQ, GLu, GLt, QRs, QRt, QRu, QRv, GLv, QRw, QRx, TyJ, GLw, QRy.
-/
import Derived.Test.YtfagcgjdholinaaGreatDoorKX4
import Derived.Test.YtfagcgjdholinaaGreatDoorKX5
import Derived.KernelRfl
set_option linter.unusedVariables false
set_option linter.unusedSimpArgs false
namespace Go.Pl
open Go.RowKit
def coefT (ts : List Coef) (s : List UInt8) : Int := ((ts.find? fun t => t.v.s == s).map (·.c)).getD 0
def ascP (ts : List Coef) : Prop := ts.Pairwise fun a b => a.v.s < b.v.s
def nzP (ts : List Coef) : Prop := ∀ t ∈ ts, t.c ≠ 0
theorem coefT_nil (s : List UInt8) : coefT [] s = 0 := rfl
theorem coefT_cons (t : Coef) (ts : List Coef) (s : List UInt8) : coefT (t :: ts) s = if t.v.s = s then t.c else coefT ts s := by
 simp only [coefT, List.find?_cons]
 by_cases h : t.v.s = s
 ·simp [h]
 ·have : (t.v.s == s) = false := by simpa using h
  simp [this, h]
theorem coefT_lt {s : List UInt8} : ∀ {ts : List Coef}, (∀ t ∈ ts, s < t.v.s) -> coefT ts s = 0
 | [], _ => rfl
 | t :: ts, h => by
  have h1 := h t (by simp)
  rw [coefT_cons, if_neg (fun e => by rw [e] at h1; exact List.lt_irrefl _ h1)]
  exact coefT_lt fun u hu => h u (by simp [hu])
theorem asc_cons {t : Coef} {ts : List Coef} : ascP (t :: ts) ↔ (∀ u ∈ ts, t.v.s < u.v.s) ∧ ascP ts := List.pairwise_cons
theorem canon_ext : ∀ {a b : List Coef}, ascP a -> nzP a -> ascP b -> nzP b -> (∀ s, coefT a s = coefT b s) -> a = b
 | [], [], _, _, _, _, _ => rfl
 | [], y :: ys, _, _, _, hn, h => by
  have := h y.v.s
  rw [coefT_nil, coefT_cons, if_pos rfl] at this
  exact absurd this.symm (hn y (by simp))
 | x :: xs, [], _, hn, _, _, h => by
  have := h x.v.s
  rw [coefT_nil, coefT_cons, if_pos rfl] at this
  exact absurd this (hn x (by simp))
 | x :: xs, y :: ys, ha, hna, hb, hnb, h => by
  obtain ⟨ha1, ha2⟩ := asc_cons.1 ha
  obtain ⟨hb1, hb2⟩ := asc_cons.1 hb
  have hxy : x.v.s = y.v.s := by
   by_cases h1 : x.v.s < y.v.s
   ·have e := h x.v.s
    rw [coefT_cons, if_pos rfl, coefT_lt (ts := y :: ys) (fun t ht => by
     rcases List.mem_cons.1 ht with rfl | ht
     ·exact h1
     ·exact List.lt_trans h1 (hb1 t ht))] at e
    exact absurd e (hna x (by simp))
   ·by_cases h2 : x.v.s = y.v.s
    ·exact h2
    ·have h3 := tri h1 h2
     have e := h y.v.s
     rw [coefT_cons (t := y), if_pos rfl, coefT_lt (ts := x :: xs) (fun t ht => by
      rcases List.mem_cons.1 ht with rfl | ht
      ·exact h3
      ·exact List.lt_trans h3 (ha1 t ht))] at e
     exact absurd e.symm (hnb y (by simp))
  have hc : x.c = y.c := by
   have e := h x.v.s
   rwa [coefT_cons, if_pos rfl, coefT_cons, if_pos hxy.symm] at e
  have hxe : x = y := by
   have hv : x.v = y.v := str_ext.2 hxy
   cases x; cases y; simp only at hv hc; rw [hv, hc]
  have ht : xs = ys := canon_ext ha2 (fun t ht => hna t (by simp [ht])) hb2 (fun t ht => hnb t (by simp [ht])) fun s => by
   by_cases hs : x.v.s = s
   ·rw [coefT_lt (ts := xs) (fun t ht => hs ▸ ha1 t ht), coefT_lt (ts := ys) (fun t ht => hs ▸ hxy ▸ hb1 t ht)]
   ·have e := h s
    rwa [coefT_cons, if_neg hs, coefT_cons, if_neg (fun e => hs (hxy.trans e))] at e
  rw [hxe, ht]
theorem ins_skip (s : Str) (c : Int) : ∀ {ts : List Coef}, (∀ t ∈ ts, s.s < t.v.s) -> insT s c true ts = ts
 | [], _ => by simp [insT]
 | t :: ts, h => by
  have h1 := h t (by simp)
  rw [ins_t, if_neg (fun e => by rw [e] at h1; exact List.lt_irrefl _ h1), ins_skip s c fun u hu => h u (by simp [hu])]
theorem ins_mem (s : Str) (c : Int) : ∀ {ts : List Coef}, ascP ts -> ∀ u ∈ insT s c false ts, u.v.s = s.s ∨ ∃ t ∈ ts, t.v.s = u.v.s
 | [], _, u, hu => by
  simp only [insT, Bool.false_eq_true, if_false, List.mem_singleton] at hu
  exact .inl (by rw [hu])
 | t :: ts, h, u, hu => by
  obtain ⟨h1, h2⟩ := asc_cons.1 h
  rw [ins_f] at hu
  split at hu
  ·rename_i hlt
   rw [ins_skip s c (fun u hu => List.lt_trans hlt (h1 u hu))] at hu
   rcases List.mem_cons.1 hu with rfl | hu
   ·exact .inl rfl
   ·exact .inr ⟨u, hu, rfl⟩
  ·split at hu
   ·rename_i he
    rw [ins_skip s c (fun u hu => he ▸ h1 u hu)] at hu
    rcases List.mem_cons.1 hu with rfl | hu
    ·exact .inr ⟨t, by simp, rfl⟩
    ·exact .inr ⟨u, by simp [hu], rfl⟩
   ·rcases List.mem_cons.1 hu with rfl | hu
    ·exact .inr ⟨u, by simp, rfl⟩
    ·rcases ins_mem s c h2 u hu with h | ⟨w, hw, e⟩
     ·exact .inl h
     ·exact .inr ⟨w, by simp [hw], e⟩
theorem ins_asc (s : Str) (c : Int) : ∀ {ts : List Coef}, ascP ts -> ascP (insT s c false ts)
 | [], _ => by simp [insT, ascP]
 | t :: ts, h => by
  obtain ⟨h1, h2⟩ := asc_cons.1 h
  rw [ins_f]
  split
  ·rename_i hlt
   rw [ins_skip s c (fun u hu => List.lt_trans hlt (h1 u hu))]
   exact asc_cons.2 ⟨fun u hu => by
    rcases List.mem_cons.1 hu with rfl | hu
    ·exact hlt
    ·exact List.lt_trans hlt (h1 u hu), h⟩
  ·rename_i hlt
   split
   ·rename_i he
    rw [ins_skip s c (fun u hu => he ▸ h1 u hu)]
    exact asc_cons.2 ⟨h1, h2⟩
   ·rename_i he
    have hts : t.v.s < s.s := tri hlt (fun e => he (str_ext.2 e.symm))
    refine asc_cons.2 ⟨fun u hu => ?_, ins_asc s c h2⟩
    rcases ins_mem s c h2 u hu with e | ⟨w, hw, e⟩
    ·rw [e]; exact hts
    ·rw [<- e]; exact h1 w hw
theorem ins_coef (s : Str) (c : Int) (hc : w64 c = c) : ∀ {ts : List Coef}, ascP ts -> ∀ x, coefT (insT s c false ts) x = if s.s = x then w64 (coefT ts s.s + c) else coefT ts x
 | [], _, x => by
  have e : insT s c false [] = [⟨s, c⟩] := by simp [insT]
  rw [e, coefT_cons, coefT_nil, coefT_nil, Int.zero_add, hc]
 | t :: ts, h, x => by
  obtain ⟨h1, h2⟩ := asc_cons.1 h
  rw [ins_f]
  split
  ·rename_i hlt
   rw [ins_skip s c (fun u hu => List.lt_trans hlt (h1 u hu)), coefT_cons, coefT_lt (ts := t :: ts) (s := s.s) (fun u hu => by
    rcases List.mem_cons.1 hu with rfl | hu
    ·exact hlt
    ·exact List.lt_trans hlt (h1 u hu)), Int.zero_add, hc]
  ·rename_i hlt
   split
   ·rename_i he
    have he' : t.v.s = s.s := by rw [he]
    have e1 : coefT (t :: ts) s.s = t.c := by rw [coefT_cons, if_pos he']
    have e2 : coefT (t :: ts) x = if s.s = x then t.c else coefT ts x := by rw [coefT_cons, he']
    rw [ins_skip s c (fun u hu => he ▸ h1 u hu), coefT_cons, e1, e2]
    show (if t.v.s = x then w64 (t.c + c) else coefT ts x) = _
    rw [he']
    by_cases hx : s.s = x
    ·rw [if_pos hx, if_pos hx]
    ·rw [if_neg hx, if_neg hx, if_neg hx]
   ·rename_i he
    have he' : ¬ t.v.s = s.s := fun e => he (str_ext.2 e)
    rw [coefT_cons, ins_coef s c hc h2 x, coefT_cons (s := s.s), if_neg he', coefT_cons (s := x)]
    by_cases hx : s.s = x
    ·rw [if_pos hx, if_pos hx, if_neg (fun e => he' (e.trans hx.symm))]
    ·rw [if_neg hx, if_neg hx]
theorem filt_coef : ∀ {ts : List Coef}, ascP ts -> ∀ x, coefT (ts.filter fun t => decide (t.c ≠ 0)) x = coefT ts x
 | [], _, x => rfl
 | t :: ts, h, x => by
  obtain ⟨h1, h2⟩ := asc_cons.1 h
  rw [List.filter_cons]
  split
  ·rw [coefT_cons, coefT_cons, filt_coef h2 x]
  ·rename_i hz
   have hz0 : t.c = 0 := by simpa using hz
   rw [coefT_cons, filt_coef h2 x]
   by_cases hx : t.v.s = x
   ·rw [if_pos hx, hz0, coefT_lt fun u hu => hx ▸ h1 u hu]
   ·rw [if_neg hx]
theorem plus_asc {l : Lin} (s : Str) (c : Int) (h : ascP l.t) : ascP (plusL l s c).t := (ins_asc s c h).sublist List.filter_sublist
theorem plus_nz (l : Lin) (s : Str) (c : Int) : nzP (plusL l s c).t := fun t ht => by simpa using (List.mem_filter.1 ht).2
theorem plus_coef {l : Lin} (s : Str) {c : Int} (hc : w64 c = c) (h : ascP l.t) (x : List UInt8) : coefT (plusL l s c).t x = if s.s = x then w64 (coefT l.t s.s + c) else coefT l.t x := by
 show coefT (List.filter _ _) x = _
 rw [filt_coef (ins_asc s c h), ins_coef s c hc h]
theorem w64_rng (n : Int) : -9223372036854775808 <= w64 n ∧ w64 n <= 9223372036854775807 := by
 unfold w64 IntKind.wrap
 simp only [IntKind.bits, IntKind.signed]
 simp
 split <;> omega
theorem wrap_wrap (n : Int) : w64 (w64 n) = w64 n := w64_id (by have := w64_rng n; omega) (by have := w64_rng n; omega)
theorem upd_at (s : Str) (c : Int) (x : List UInt8) : ∀ m : List (Str × Int), atM (updM s c m) x = if s.s = x then c else atM m x
 | [] => by
  rw [updM]
  simp only [atM, List.find?_cons]
  by_cases h : s.s = x
  ·simp [h]
  ·have : (s.s == x) = false := by simpa using h
   simp [this, h]
 | p :: m => by
  have ih := upd_at s c x m
  rw [updM]
  split
  ·rename_i he
   simp only [atM, List.find?_cons]
   by_cases h : s.s = x
   ·simp [h]
   ·have h1 : (s.s == x) = false := by simpa using h
    have h2 : (p.1.s == x) = false := by rw [<- he]; exact h1
    simp [h1, h2, h]
  ·rename_i he
   simp only [atM, List.find?_cons] at ih ⊢
   by_cases h : p.1.s = x
   ·have h2 : ¬ s.s = x := fun e => he (e.trans h.symm)
    simp [h, h2]
   ·have h2 : (p.1.s == x) = false := by simpa using h
    rw [h2]
    exact ih
def repM (ts : List Coef) (m : List (Str × Int)) : Prop := ascP ts ∧ ∀ s, coefT ts s = atM m s
theorem times_rep (k : Int) : ∀ (x : List Coef) (l : Lin) (m : List (Str × Int)), repM l.t m -> repM (x.foldl (fun o t => plusL o t.v (w64 (k * t.c))) l).t (addT k x m)
 | [], l, m, h => h
 | t :: x, l, m, h => by
  rw [List.foldl_cons, addT]
  refine times_rep k x _ _ ⟨plus_asc _ _ h.1, fun s => ?_⟩
  rw [plus_coef _ (wrap_wrap _) h.1, upd_at, h.2, h.2]
theorem fold_nz (k : Int) : ∀ (x : List Coef) (l : Lin), nzP l.t -> nzP (x.foldl (fun o t => plusL o t.v (w64 (k * t.c))) l).t
 | [], l, h => h
 | t :: x, l, h => fold_nz k x _ (plus_nz _ _ _)
theorem fold_k (k : Int) : ∀ (x : List Coef) (l : Lin), (x.foldl (fun o t => plusL o t.v (w64 (k * t.c))) l).k = l.k
 | [], l => rfl
 | t :: x, l => fold_k k x _
theorem times_nz {l x : Lin} {k : Int} (h : nzP l.t) : nzP (timesL l x k).t := fold_nz k x.t _ h
theorem times_k (l x : Lin) (k : Int) : (timesL l x k).k = w64 (l.k + w64 (k * x.k)) := fold_k k x.t _
theorem atM_none {m : List (Str × Int)} {s : List UInt8} (h : s ∉ keysM m) : atM m s = 0 := by
 have : (m.find? fun p => p.1.s == s) = none := by
  rw [List.find?_eq_none]
  intro p hp e
  exact h (List.mem_map.2 ⟨p, hp, by simpa using e⟩)
 simp [atM, this]
theorem find_map_names (m : List (Str × Int)) (x : List UInt8) : ∀ l : List (List UInt8), coefT (l.map fun s => (⟨⟨s⟩, atM m s⟩ : Coef)) x = if x ∈ l then atM m x else 0
 | [] => by simp [coefT]
 | s :: l => by
  rw [List.map_cons, coefT_cons, find_map_names m x l]
  by_cases h : s = x
  ·subst h; simp
  ·have : ¬ x = s := fun e => h e.symm
   simp [h, this]
theorem sort_asc {l : List (List UInt8)} (h : l.Nodup) : (sortS l).Pairwise (· < ·) := by
 have tr : ∀ x y z : List UInt8, decide (x <= y) = true -> decide (y <= z) = true -> decide (x <= z) = true := fun x y z h k => by simp only [decide_eq_true_eq] at *; exact List.le_trans h k
 have to : ∀ x y : List UInt8, (decide (x <= y) || decide (y <= x)) = true := fun x y => by simp only [Bool.or_eq_true, decide_eq_true_eq]; exact List.le_total x y
 have h1 := List.pairwise_mergeSort tr to l
 have h2 : (sortS l).Nodup := (List.mergeSort_perm l _).nodup_iff.2 h
 refine (h1.and h2).imp fun {a b} hab => ?_
 have h3 : a <= b := by simpa using hab.1
 exact Decidable.byContradiction fun hn => hab.2 (List.le_antisymm h3 (List.not_lt.1 hn))
theorem names_asc (m : List (Str × Int)) {l : List (List UInt8)} (h : l.Nodup) : ascP ((sortS l).map fun s => (⟨⟨s⟩, atM m s⟩ : Coef)) := List.Pairwise.map _ (fun a b hab => hab) (sort_asc h)
theorem terms_rep {m : List (Str × Int)} (hd : (keysM m).Nodup) : repM (termsM m) m ∧ nzP (termsM m) := by
 have hd2 : ((m.filter fun p => decide (p.2 ≠ 0)).map (·.1.s)).Nodup := hd.sublist (List.filter_sublist.map _)
 refine ⟨⟨names_asc m hd2, fun s => ?_⟩, fun t ht => ?_⟩
 ·rw [termsM, find_map_names]
  split
  ·rfl
  ·rename_i hn
   refine (Decidable.byContradiction fun h0 => hn ?_)
   have hk : s ∈ keysM m := Decidable.byContradiction fun hk => h0 (atM_none hk).symm
   obtain ⟨p, hp, rfl⟩ := List.mem_map.1 hk
   have e := atM_mem hd p hp
   refine ((List.mergeSort_perm _ _).mem_iff).2 (List.mem_map.2 ⟨p, List.mem_filter.2 ⟨hp, ?_⟩, rfl⟩)
   rw [<- e]
   simpa using fun e => h0 e.symm
 ·obtain ⟨s, hs, rfl⟩ := List.mem_map.1 ht
  have hs := ((List.mergeSort_perm _ _).mem_iff).1 hs
  obtain ⟨p, hp, rfl⟩ := List.mem_map.1 hs
  obtain ⟨hp1, hp2⟩ := List.mem_filter.1 hp
  show atM m p.1.s ≠ 0
  rw [atM_mem hd p hp1]
  simpa using hp2
theorem rep_terms {ts : List Coef} {m : List (Str × Int)} (h : repM ts m) (hn : nzP ts) (hd : (keysM m).Nodup) : ts = termsM m :=
 canon_ext h.1 hn (terms_rep hd).1.1 (terms_rep hd).2 fun s => (h.2 s).trans ((terms_rep hd).1.2 s).symm
theorem ascB_asc : ∀ {l : List Coef}, ascB l = true -> ascP l
 | [], _ => List.Pairwise.nil
 | [a], _ => by simp [ascP]
 | a :: b :: l, h => by
  simp only [ascB, Bool.and_eq_true, decide_eq_true_eq] at h
  have ih := ascB_asc (l := b :: l) h.2
  refine asc_cons.2 ⟨fun u hu => ?_, ih⟩
  rcases List.mem_cons.1 hu with rfl | hu
  ·exact h.1
  ·exact List.lt_trans h.1 ((asc_cons.1 ih).1 u hu)
theorem valid_asc {l : Lin} (h : validL l = true) : ascP l.t := by
 simp only [validL, Bool.and_eq_true] at h
 exact ascB_asc h.1.1.2
theorem valid_nz {l : Lin} (h : validL l = true) : nzP l.t := fun t ht => (valid_coef h ht).2.1
theorem one_rep : ∀ (x pre : List Coef) (m : List (Str × Int)), ascP (pre ++ x) -> (∀ t ∈ x, w64 t.c = t.c) -> (∀ s, coefT pre s = atM m s) -> ∀ s, coefT (pre ++ x) s = atM (addT 1 x m) s
 | [], pre, m, _, _, h, s => by rw [List.append_nil]; exact h s
 | t :: x, pre, m, ha, hw, h, s => by
  have e : pre ++ t :: x = (pre ++ [t]) ++ x := by simp
  rw [addT, e]
  refine one_rep x (pre ++ [t]) _ (e ▸ ha) (fun u hu => hw u (by simp [hu])) (fun y => ?_) s
  have hp : ∀ u ∈ pre, u.v.s < t.v.s := fun u hu => (List.pairwise_append.1 ha).2.2 u hu t (by simp)
  have hnone : coefT pre t.v.s = 0 := by
   have : (pre.find? fun u => u.v.s == t.v.s) = none := by
    rw [List.find?_eq_none]
    intro u hu e
    have e : u.v.s = t.v.s := by simpa using e
    have := hp u hu
    rw [e] at this
    exact List.lt_irrefl _ this
   simp [coefT, this]
  have hw1 : IntKind.i64.wrap t.c = t.c := hw t (by simp)
  rw [upd_at, <- h, <- h, hnone, Int.one_mul, hw1, Int.zero_add, hw1]
  by_cases hy : t.v.s = y
  ·have hn : (pre.find? fun u => u.v.s == y) = none := by
    rw [List.find?_eq_none]
    intro u hu e
    have e : u.v.s = y := by simpa using e
    have := hp u hu
    rw [e, hy] at this
    exact List.lt_irrefl _ this
   rw [if_pos hy]
   simp [coefT, List.find?_append, hn, hy]
  ·have hn : ([t].find? fun u => u.v.s == y) = none := by simp [hy]
   rw [if_neg hy]
   simp only [coefT, List.find?_append, hn, Option.or_none]
theorem coef_w {l : Lin} (h : validL l = true) : ∀ t ∈ l.t, w64 t.c = t.c := fun t ht => by
 have := (valid_coef h ht).2.2
 exact w64_id (by omega) (by omega)
theorem self_rep {l : Lin} (h : validL l = true) : repM l.t (addT 1 l.t []) := ⟨valid_asc h, fun s => by
 have := one_rep l.t [] [] (by simpa using valid_asc h) (coef_w h) (fun s => rfl) s
 simpa using this⟩
def limL (l : Lin) : Lin × Int := if validL l then (l, 0) else (⟨0, []⟩, 3)
theorem combine_times {a b : Lin} (k : Int) (ha : validL a = true) (hb : validL b = true) : combineL a b k = limL (timesL a b k) := by
 have hk := valid_k ha
 have hr := times_rep k b.t ⟨w64 (a.k + w64 (k * b.k)), a.t⟩ _ (self_rep (l := a) ha)
 have hd : (keysM (addT k b.t (addT 1 a.t []))).Nodup := addT_nodup _ _ _ (addT_nodup _ _ _ (by simp [keysM]))
 have e1 : (timesL a b k).t = termsM (addT k b.t (addT 1 a.t [])) := rep_terms hr (times_nz (valid_nz ha)) hd
 have e2 : w64 (w64 (0 + w64 (1 * a.k)) + w64 (k * b.k)) = (timesL a b k).k := by
  rw [times_k, Int.one_mul, w64_id (n := a.k) (by omega) (by omega), Int.zero_add, w64_id (n := a.k) (by omega) (by omega)]
 have e3 : (⟨(timesL a b k).k, (timesL a b k).t⟩ : Lin) = timesL a b k := rfl
 unfold combineL
 rw [ha, hb, if_pos rfl, if_pos rfl, e2, resM, <- e1, e3, limL]
end Go.Pl

namespace Go.Pl
open Go.RowKit
def wM (m : List (Str × Int)) : Prop := ∀ s, w64 (atM m s) = atM m s
theorem add_w (k : Int) : ∀ (x : List Coef) (m : List (Str × Int)), wM m -> wM (addT k x m)
 | [], m, h => h
 | t :: x, m, h => by
  rw [addT]
  refine add_w k x _ fun s => ?_
  rw [upd_at]
  split
  ·exact wrap_wrap _
  ·exact h s
theorem add_zero : ∀ (x : List Coef) (m : List (Str × Int)), wM m -> ∀ s, atM (addT 0 x m) s = atM m s
 | [], m, h, s => rfl
 | t :: x, m, h, s => by
  have e : ∀ y, atM (updM t.v (IntKind.i64.wrap (atM m t.v.s + IntKind.i64.wrap (0 * t.c))) m) y = atM m y := fun y => by
   rw [upd_at]
   split
   ·rename_i hy
    have : IntKind.i64.wrap (0 * t.c) = 0 := by rw [Int.zero_mul]; rfl
    rw [this, Int.add_zero, <- hy]
    exact h t.v.s
   ·rfl
  rw [addT, add_zero x _ (fun y => by rw [e]; exact h y), e]
def viewO (s : Option LR) : Lin := (s.map LR.view).getD ⟨0, []⟩
theorem fold_rep : ∀ (qs : List (Int × Fact)) (s : Option LR) (p : Int × List (Str × Int)), (∀ q ∈ qs, -1000000 <= q.2.l.k ∧ q.2.l.k <= 1000000) -> wM p.2 -> w64 p.1 = p.1 -> repM (viewO s).t p.2 -> nzP (viewO s).t -> (viewO s).k = p.1 ->
  repM (viewO (qs.foldl rstep s)).t (qs.foldl cstep p).2 ∧ nzP (viewO (qs.foldl rstep s)).t ∧ (viewO (qs.foldl rstep s)).k = (qs.foldl cstep p).1
 | [], s, p, _, _, _, h1, h2, h3 => ⟨h1, h2, h3⟩
 | q :: qs, s, p, hk, hw, hp, h1, h2, h3 => by
  have hkq := hk q (by simp)
  rw [List.foldl_cons, List.foldl_cons]
  refine fold_rep qs _ _ (fun r hr => hk r (by simp [hr])) (add_w _ _ _ hw) (wrap_wrap _) ?_ ?_ ?_
  ·by_cases h0 : q.1 = 0
   ·rw [rstep, if_pos h0]
    refine ⟨h1.1, fun x => ?_⟩
    rw [h1.2]
    show _ = atM (addT q.1 q.2.l.t p.2) x
    rw [h0, add_zero _ _ hw]
   ·rw [rstep, if_neg h0]
    show repM (LR.view (timesR (viewO s) q.2.l q.1)).t _
    rw [timesR_view]
    exact times_rep q.1 q.2.l.t _ _ h1
  ·by_cases h0 : q.1 = 0
   ·rw [rstep, if_pos h0]; exact h2
   ·rw [rstep, if_neg h0]
    show nzP (LR.view (timesR (viewO s) q.2.l q.1)).t
    rw [timesR_view]
    exact times_nz h2
  ·by_cases h0 : q.1 = 0
   ·rw [rstep, if_pos h0, h3]
    show _ = w64 (p.1 + w64 (q.1 * q.2.l.k))
    have : w64 (0 * q.2.l.k) = 0 := by rw [Int.zero_mul]; rfl
    rw [h0, this, Int.add_zero, hp]
   ·rw [rstep, if_neg h0]
    show (LR.view (timesR (viewO s) q.2.l q.1)).k = w64 (p.1 + w64 (q.1 * q.2.l.k))
    rw [timesR_view, times_k, h3]
def rcomb (fs : List Fact) (ms : List Int) : Lin := viewO (rfold fs ms)
theorem rcomb_eq {fs : List Fact} {ms : List Int} (hv : valid7 fs = true) : (rcomb fs ms).k = (cfold fs ms).1 ∧ (rcomb fs ms).t = termsM (cfold fs ms).2 := by
 have hk : ∀ q ∈ ms.zip fs, -1000000 <= q.2.l.k ∧ q.2.l.k <= 1000000 := fun q hq => by
  have hm := (List.of_mem_zip (a := q.1) (b := q.2) hq).2
  simp only [valid7, List.all_eq_true] at hv
  exact valid_k (hv _ hm)
 have h := fold_rep (ms.zip fs) none (0, []) hk (fun s => rfl) rfl ⟨List.Pairwise.nil, fun s => rfl⟩ (fun t ht => by cases ht) rfl
 refine ⟨h.2.2, rep_terms h.1 h.2.1 (fold_nodup _ _ _ (by simp [keysM]))⟩
theorem terms_nz (m : List (Str × Int)) (hd : (keysM m).Nodup) : termsM (nzM m) = termsM m := by
 have hn := nz_nodup hd
 have h1 := terms_rep hd
 have h2 := terms_rep hn
 refine canon_ext h2.1.1 h2.2 h1.1.1 h1.2 fun s => ?_
 rw [h2.1.2, h1.1.2]
 by_cases hk : s ∈ keysM (nzM m)
 ·obtain ⟨p, hp, rfl⟩ := List.mem_map.1 hk
  rw [atM_mem hn p hp, atM_mem hd p (List.mem_filter.1 hp).1]
 ·rw [atM_none hk]
  refine Decidable.byContradiction fun h0 => hk ?_
  have hk2 : s ∈ keysM m := Decidable.byContradiction fun hk2 => h0 (atM_none hk2).symm
  obtain ⟨p, hp, rfl⟩ := List.mem_map.1 hk2
  rw [atM_mem hd p hp] at h0
  exact List.mem_map.2 ⟨p, List.mem_filter.2 ⟨hp, by simpa using fun e : p.2 = 0 => h0 e.symm⟩, rfl⟩
theorem terms_names (m : List (Str × Int)) : termsM m = (namesS (nzM m)).map fun s => ⟨⟨s⟩, atM m s⟩ := rfl
theorem terms_nil {m : List (Str × Int)} : termsM m = [] ↔ nzM m = [] := by
 rw [terms_names, List.map_eq_nil_iff]
 have h : (namesS (nzM m)).length = (nzM m).length := by
  rw [namesS]
  exact ((List.mergeSort_perm _ _).length_eq).trans (by simp [keysM])
 rw [<- List.length_eq_zero_iff, <- List.length_eq_zero_iff, h]
def rcutL (fs : List Fact) (ms : List Int) : Lin × Int :=
 if valid7 fs then (if okC fs ms then (if (rcomb fs ms).t = [] then (⟨0, []⟩, 18) else
  if validL ⟨(divI (rcomb fs ms).k (gcdsI ((rcomb fs ms).t.map (·.c)))).1, (rcomb fs ms).t.map fun t => ⟨t.v, w64 (t.c.tdiv (gcdsI ((rcomb fs ms).t.map (·.c))))⟩⟩ then (⟨(divI (rcomb fs ms).k (gcdsI ((rcomb fs ms).t.map (·.c)))).1, (rcomb fs ms).t.map fun t => ⟨t.v, w64 (t.c.tdiv (gcdsI ((rcomb fs ms).t.map (·.c))))⟩⟩, 0) else (⟨0, []⟩, 3)) else (⟨0, []⟩, 18)) else (⟨0, []⟩, 1)
theorem terms_vals {m : List (Str × Int)} (hd : (keysM m).Nodup) : gcdsI ((termsM m).map (·.c)) = gcdsI (valsM (nzM m)) := by
 refine gcds_perm ?_
 rw [terms_names, List.map_map]
 refine ((List.mergeSort_perm _ _).map _).trans ?_
 rw [keysM, List.map_map]
 have : (nzM m).map (((fun t : Coef => t.c) ∘ fun s => (⟨⟨s⟩, atM m s⟩ : Coef)) ∘ fun p => p.1.s) = valsM (nzM m) := by
  apply List.map_congr_left
  intro p hp
  exact atM_mem hd p (List.mem_filter.1 hp).1
 exact List.Perm.of_eq this
theorem rcut_eq (fs : List Fact) (ms : List Int) : rcutL fs ms = cutL fs ms := by
 unfold rcutL cutL
 cases hv : valid7 fs
 ·rfl
 rw [if_pos rfl, if_pos rfl]
 cases ho : okC fs ms
 ·rfl
 rw [if_pos rfl, if_pos rfl]
 obtain ⟨e1, e2⟩ := rcomb_eq (ms := ms) hv
 have hd : (keysM (cfold fs ms).2).Nodup := fold_nodup _ _ _ (by simp [keysM])
 rw [e1, e2, terms_vals hd]
 unfold cutM
 have e3 : cutT (nzM (cfold fs ms).2) (gcdsI (valsM (nzM (cfold fs ms).2))) (namesS (nzM (cfold fs ms).2)) = (termsM (cfold fs ms).2).map fun t => ⟨t.v, w64 (t.c.tdiv (gcdsI (valsM (nzM (cfold fs ms).2))))⟩ := by
  rw [cutT, <- terms_nz _ hd, terms_names, List.map_map]
  rw [show nzM (nzM (cfold fs ms).2) = nzM (cfold fs ms).2 by unfold nzM; rw [List.filter_filter]; simp only [Bool.and_self]]
  rfl
 rw [e3]
 by_cases h : nzM (cfold fs ms).2 = []
 ·rw [if_pos h, if_pos (terms_nil.2 h)]
 ·rw [if_neg h, if_neg (fun h2 => h (terms_nil.1 h2))]
end Go.Pl

namespace Go.Pl
open Go.RowKit
def valT3 (ts : List Coef) : Bool := ts.all (fun t => nameB t.v && decide (t.c ≠ 0) && coefIn t.c) && ascB ts && decide (ts.length <= 12)
theorem valid_split (k : Int) (ts : List Coef) : validL ⟨k, ts⟩ = (valT3 ts && coefIn k) := by
 simp only [validL, valT3]
 cases ts.all (fun t => nameB t.v && decide (t.c ≠ 0) && coefIn t.c) <;> cases ascB ts <;> cases coefIn k <;> simp
theorem fold_t (k : Int) : ∀ (x : List Coef) (a b : Lin), a.t = b.t -> (x.foldl (fun o t => plusL o t.v (w64 (k * t.c))) a).t = (x.foldl (fun o t => plusL o t.v (w64 (k * t.c))) b).t
 | [], a, b, h => h
 | t :: x, a, b, h => fold_t k x _ _ (by show List.filter _ _ = List.filter _ _; rw [h])
theorem valid_zero : validL ⟨0, []⟩ = true := by decide
theorem valid_m1 : validL ⟨-1, []⟩ = true := by decide
theorem neg_times (g : Lin) : negL g = if validL g then limL (timesL ⟨-1, []⟩ g (-1)) else (⟨0, []⟩, 1) := by
 have e : max (-1000001 : Int) (min (-1) 1000001) = -1 := by decide
 unfold negL scaleL
 rw [e]
 cases hv : validL g
 ·have : combineL ⟨0, []⟩ g (-1) = (⟨0, []⟩, 1) := by unfold combineL; rw [valid_zero, hv]; rfl
  rw [this]; rfl
 ·have hk := valid_k hv
  rw [combine_times (-1) valid_zero hv, if_pos rfl]
  have el : (timesL ⟨0, []⟩ g (-1)).k = -g.k := by
   rw [times_k, w64_id (n := -1 * g.k) (by omega) (by omega)]
   show w64 (0 + -1 * g.k) = _
   rw [w64_id (by omega) (by omega)]
   omega
  have er : (timesL ⟨-1, []⟩ g (-1)).k = -1 - g.k := by
   rw [times_k, w64_id (n := -1 * g.k) (by omega) (by omega)]
   show w64 (-1 + -1 * g.k) = _
   rw [w64_id (by omega) (by omega)]
   omega
  have et : (timesL ⟨0, []⟩ g (-1)).t = (timesL ⟨-1, []⟩ g (-1)).t := fold_t _ _ _ _ rfl
  generalize timesL ⟨0, []⟩ g (-1) = l at el et ⊢
  generalize timesL ⟨-1, []⟩ g (-1) = r at er et ⊢
  obtain ⟨lk, lt⟩ := l
  obtain ⟨rk, rt⟩ := r
  simp only at el er et
  subst el er et
  unfold limL
  by_cases hl : validL ⟨-g.k, lt⟩ = true
  ·have h2 : combineL ⟨-g.k, lt⟩ ⟨-1, []⟩ 1 = limL ⟨-1 - g.k, lt⟩ := by
    rw [combine_times 1 hl valid_m1]
    have : timesL ⟨-g.k, lt⟩ ⟨-1, []⟩ 1 = ⟨-1 - g.k, lt⟩ := by
     show (⟨w64 (-g.k + w64 (1 * -1)), lt⟩ : Lin) = _
     have h3 : w64 (1 * -1) = -1 := rfl
     rw [h3, w64_id (by omega) (by omega)]
     congr 1
     omega
    rw [this]
   rw [if_pos hl, if_pos rfl, h2]; rfl
  ·rw [if_neg hl]
   have h2 : ¬ validL ⟨-1 - g.k, lt⟩ = true := by
    rw [valid_split] at hl ⊢
    have : coefIn (-g.k) = true := by simp only [coefIn, Bool.and_eq_true, decide_eq_true_eq]; omega
    rw [this, Bool.and_true] at hl
    simp [hl]
   rw [if_neg h2]; rfl
theorem cmp_zero (l : Lin) : (cmpL l ⟨0, []⟩ == 0) = (l.t.isEmpty && decide (l.k = 0)) := by
 obtain ⟨k, t⟩ := l
 cases t with
 | nil =>
  have e : cmpT [] [] = 0 := rfl
  simp only [cmpL, e, ne_eq, not_true_eq_false, if_false, List.isEmpty_nil, Bool.true_and, cmpK]
  by_cases h1 : k < 0
  ·have : ¬ k = 0 := by omega
   simp [h1, this]
  ·by_cases h2 : k > 0
   ·have : ¬ k = 0 := by omega
    simp [h1, h2, this]
   ·have : k = 0 := by omega
    simp [this]
 | cons a t =>
  have e : cmpT (a :: t) [] = 1 := by simp [cmpT]
  simp [cmpL, e]
theorem rsum_eq {fs : List Fact} {ms : List Int} (hv : valid7 fs = true) : (okC fs ms && ((rcomb fs ms).t.isEmpty && decide ((rcomb fs ms).k < 0))) = sumN fs ms := by
 obtain ⟨e1, e2⟩ := rcomb_eq (ms := ms) hv
 have e3 : (rcomb fs ms).t.isEmpty = (nzM (cfold fs ms).2).isEmpty := by
  rw [e2, Bool.eq_iff_iff, List.isEmpty_iff, List.isEmpty_iff]
  exact terms_nil
 rw [e1, e3, sumN, Bool.and_assoc]
end Go.Pl

namespace Go.Pl
open Go.RowKit
open Enc (enc dec is)
open EncL (encL decL isL)
def rcPre (a b : PV) : Bool := can (List Fact) a && can (List Int) b && decide ((dec a : List Fact).length <= 300) && valid7 (dec a)
def pre_rc : List AV -> List AObj -> Bool
 | [.pv a, .pv b], [] => rcPre a b
 | _, _ => false
def val_rc : List AV -> List AObj -> AV × List AObj × List AObj
 | [.pv a, .pv b], _ => if okC (dec a) (dec b) then outR (rfold (dec a) (dec b)) else rcombN
 | _, _ => combN
def pre_rcN : List AV -> List AObj -> Bool
 | [.pv a, .pv b], [] => rcPre a b && !okC (dec a) (dec b)
 | _, _ => false
def val_rcN : List AV -> List AObj -> AV × List AObj × List AObj := fun _ _ => rcombN
def pre_rcZ : List AV -> List AObj -> Bool
 | [.pv a, .pv b], [] => rcPre a b && okC (dec a) (dec b) && (rfold (dec a) (dec b)).isNone
 | _, _ => false
def val_rcZ : List AV -> List AObj -> AV × List AObj × List AObj := fun _ _ => (.tup [.pv zeroL, .pv (.bool true)], [], [])
def theR (fs : List Fact) (ms : List Int) : LR := (rfold fs ms).getD ⟨0, 0, []⟩
def pre_rcR : List AV -> List AObj -> Bool
 | [.pv a, .pv b], [] => rcPre a b && okC (dec a) (dec b) && (rfold (dec a) (dec b)).isSome
 | _, _ => false
def val_rcR : List AV -> List AObj -> AV × List AObj × List AObj
 | [.pv a, .pv b], _ => (.tup [(theR (dec a) (dec b)).av 0, .pv (.bool true)], [], [(theR (dec a) (dec b)).ob])
 | _, _ => combN
def rcombP (fs : List Fact) (ms : List Int) : Lin × Bool := if okC fs ms then (rcomb fs ms, true) else (⟨0, []⟩, false)
def val_rcP : List AV -> List AObj -> AV × List AObj × List AObj
 | [.pv a, .pv b], _ => (.pv (enc (rcombP (dec a) (dec b))), [], [])
 | _, _ => combN
theorem rcPre_enc {fs : List Fact} {ms : List Int} (h1 : fs.length <= 300) (h2 : valid7 fs = true) : rcPre (enc fs) (enc ms) = true := by
 simp only [rcPre, can_enc, Enc.dec_enc, h2, decide_eq_true h1, Bool.and_self]
def plainB : Cert -> Bool
 | .mk k m l ks => if k = 1 then (l.t.isEmpty && decide (l.k = 0)) && decide (ks.length = 0) else if k = 2 then (l.t.isEmpty && decide (l.k = 0)) && decide (ks.length = 1) else if k = 3 then decide (m.length = 0) && decide (ks.length = 2) else false
end Go.Pl

namespace Go.Pl
open Go.RowKit
open Enc (enc dec is)
open EncL (encL decL isL)
set_option maxRecDepth 100000
def ic_rcutn : IC := (.seq (.reg [⟨(some 4), (.alloc (.agg [(.int .i64 0), (.sl 0 true [])])), 0, none⟩, ⟨(some 5), (.mv (.c (.int .i64 0))), 1, none⟩] none) (.seq (.seq (.reg [⟨(some 11), (.mv (.t 0)), 0, none⟩, ⟨(some 12), (.call (.c (.fn 29)) [(.t 11)]), 0, none⟩, ⟨(some 13), (.un .not (.t 12)), 2, none⟩] none) (.cond (.t 13) (.seq (.reg [⟨(some 14), (.build [(.int .i64 0), (.sl 0 true [])] []), 0, none⟩, ⟨none, (.store 2 (.t 4) (.t 14)), 0, none⟩, ⟨(some 5), (.mv (.c (.int .i64 1))), 0, none⟩] none) .ret) .skip)) (.seq (.reg [⟨(some 16), (.mv (.t 0)), 0, none⟩, ⟨(some 17), (.mv (.t 1)), 0, none⟩, ⟨(some 18), (.call (.c (.fn 72)) [(.t 16), (.t 17)]), 0, none⟩, ⟨(some 15), (.mv (.t 18)), 2, none⟩, ⟨(some 19), (.extract (.t 15) 0), 2, none⟩, ⟨(some 20), (.extract (.t 15) 1), 2, none⟩, ⟨(some 6), (.alloc (.agg [(.int .i64 0), (.sl 0 true [])])), 2, none⟩, ⟨none, (.store 2 (.t 6) (.t 19)), 3, none⟩, ⟨(some 7), (.mv (.t 20)), 3, none⟩] none) (.seq (.seq (.reg [⟨(some 21), (.mv (.t 7)), 0, none⟩, ⟨(some 22), (.un .not (.t 21)), 0, none⟩, ⟨(some 23), (.mv (.t 22)), 0, none⟩, ⟨(some 24), (.faddr 1 (.t 6)), 0, (some (23, false))⟩, ⟨(some 25), (.load false [(.sl 2)] (.t 24)), 0, (some (23, false))⟩, ⟨(some 26), (.len 1 (.t 25)), 0, (some (23, false))⟩, ⟨(some 27), (.bin .num .eql (.t 26) (.c (.int .i64 0))), 0, (some (23, false))⟩, ⟨(some 28), (.pick (.t 23) (.c (.bool true)) (.t 27)), 0, none⟩] none) (.cond (.t 28) (.seq (.reg [⟨(some 29), (.build [(.int .i64 0), (.sl 0 true [])] []), 0, none⟩, ⟨none, (.store 2 (.t 4) (.t 29)), 0, none⟩, ⟨(some 5), (.mv (.c (.int .i64 18))), 0, none⟩] none) .ret) .skip)) (.seq (.reg [⟨(some 8), (.mv (.c (.int .i64 0))), 0, none⟩] none) (.seq (.seq (.reg [⟨(some 9), (.mv (.c (.int .i64 0))), 0, none⟩] none) (.block 0 (.loop [9, 6, 8, 4] (.seq (.seq (.reg [⟨(some 30), (.mv (.t 9)), 0, none⟩, ⟨(some 31), (.faddr 1 (.t 6)), 0, none⟩, ⟨(some 32), (.load false [(.sl 2)] (.t 31)), 0, none⟩, ⟨(some 33), (.len 1 (.t 32)), 0, none⟩, ⟨(some 34), (.bin .num .lss (.t 30) (.t 33)), 0, none⟩] none) (.cond (.t 34) .skip (.exit 0))) (.seq (.block 1 (.reg [⟨(some 38), (.mv (.t 8)), 0, none⟩, ⟨(some 39), (.faddr 1 (.t 6)), 0, none⟩, ⟨(some 40), (.load false [(.sl 2)] (.t 39)), 0, none⟩, ⟨(some 41), (.mv (.t 9)), 0, none⟩, ⟨(some 42), (.iaddr 2 (.t 40) (.t 41)), 0, none⟩, ⟨(some 43), (.faddr 1 (.t 42)), 0, none⟩, ⟨(some 44), (.load false [(.int .i64)] (.t 43)), 0, none⟩, ⟨(some 45), (.call (.c (.fn 73)) [(.t 38), (.t 44)]), 0, none⟩, ⟨(some 37), (.mv (.t 45)), 2, none⟩, ⟨(some 46), (.extract (.t 37) 0), 2, none⟩, ⟨(some 47), (.extract (.t 37) 1), 2, none⟩, ⟨(some 8), (.mv (.t 46)), 2, none⟩] none)) (.reg [⟨(some 35), (.mv (.t 9)), 0, none⟩, ⟨(some 36), (.bin .num .add (.t 35) (.c (.int .i64 1))), 0, none⟩, ⟨(some 9), (.mv (.t 36)), 0, none⟩] none)))))) (.seq (.seq (.reg [⟨(some 10), (.mv (.c (.int .i64 0))), 0, none⟩] none) (.block 2 (.loop [10, 6, 8, 4] (.seq (.seq (.reg [⟨(some 48), (.mv (.t 10)), 0, none⟩, ⟨(some 49), (.faddr 1 (.t 6)), 0, none⟩, ⟨(some 50), (.load false [(.sl 2)] (.t 49)), 0, none⟩, ⟨(some 51), (.len 1 (.t 50)), 0, none⟩, ⟨(some 52), (.bin .num .lss (.t 48) (.t 51)), 0, none⟩] none) (.cond (.t 52) .skip (.exit 2))) (.seq (.block 3 (.reg [⟨(some 55), (.faddr 1 (.t 6)), 0, none⟩, ⟨(some 56), (.load false [(.sl 2)] (.t 55)), 0, none⟩, ⟨(some 57), (.mv (.t 10)), 0, none⟩, ⟨(some 58), (.iaddr 2 (.t 56) (.t 57)), 0, none⟩, ⟨(some 59), (.faddr 1 (.t 58)), 0, none⟩, ⟨(some 60), (.load false [(.int .i64)] (.t 59)), 0, none⟩, ⟨(some 61), (.mv (.t 8)), 0, none⟩, ⟨(some 62), (.bin .num .quo (.t 60) (.t 61)), 0, none⟩, ⟨(some 63), (.iaddr 2 (.t 56) (.t 57)), 0, none⟩, ⟨(some 64), (.faddr 1 (.t 63)), 0, none⟩, ⟨none, (.store 1 (.t 64) (.t 62)), 0, none⟩] none)) (.reg [⟨(some 53), (.mv (.t 10)), 0, none⟩, ⟨(some 54), (.bin .num .add (.t 53) (.c (.int .i64 1))), 0, none⟩, ⟨(some 10), (.mv (.t 54)), 0, none⟩] none)))))) (.seq (.reg [⟨(some 66), (.faddr 0 (.t 6)), 0, none⟩, ⟨(some 67), (.load false [(.int .i64)] (.t 66)), 0, none⟩, ⟨(some 68), (.mv (.t 8)), 0, none⟩, ⟨(some 69), (.call (.c (.fn 74)) [(.t 67), (.t 68)]), 0, none⟩, ⟨(some 65), (.mv (.t 69)), 2, none⟩, ⟨(some 70), (.extract (.t 65) 0), 2, none⟩, ⟨(some 71), (.extract (.t 65) 1), 2, none⟩, ⟨(some 72), (.faddr 0 (.t 6)), 2, none⟩, ⟨none, (.store 1 (.t 72) (.t 70)), 2, none⟩] none) (.seq (.seq (.reg [⟨(some 73), (.load true [(.int .i64), (.sl 2)] (.t 6)), 0, none⟩, ⟨(some 74), (.call (.c (.fn 36)) [(.t 73)]), 0, none⟩, ⟨(some 75), (.un .not (.t 74)), 2, none⟩] none) (.cond (.t 75) (.seq (.reg [⟨(some 76), (.build [(.int .i64 0), (.sl 0 true [])] []), 0, none⟩, ⟨none, (.store 2 (.t 4) (.t 76)), 0, none⟩, ⟨(some 5), (.mv (.c (.int .i64 3))), 0, none⟩] none) .ret) .skip)) (.seq (.reg [⟨(some 77), (.load true [(.int .i64), (.sl 2)] (.t 6)), 0, none⟩, ⟨none, (.store 2 (.t 4) (.t 77)), 0, none⟩, ⟨(some 5), (.mv (.c (.int .i64 0))), 0, none⟩] none) .ret))))))))))
def rs_rcutn : List IRes := [(.cell true 2 4), (.tmp 5)]
abbrev nt_rcutn : Nat := 78
def T_rcutn : Tab := tab [(29, .pure (preT (fun x : List Fact × Unit => factsSm x.1)) (valT (fun x : List Fact × Unit => valid7 x.1))), (72, .own pre_rcN val_rcN), (73, .pure (preT (fun x : Int × Int × Unit => inR x.1 && inR x.2.1)) (valT (fun x : Int × Int × Unit => gcdP x.1 x.2.1))), (74, .pure (preT (fun _ : Int × Int × Unit => true)) (valT (fun x : Int × Int × Unit => divI x.1 x.2.1))), (36, .pure (preT (fun x : Lin × Unit => linOk x.1)) (valT (fun x : Lin × Unit => validL x.1)))]
theorem rcutn_s {G : PV -> Prop} (fs : List Fact) (ms : List Int) (h : (Go.Pl.preT (fun (x : List Fact × Unit) => factsSm x.1) [(.sl 3 false (List.map enc fs))]) = true ∧ (∃ y0 : Bool, AV.pv (valT (fun (x : List Fact × Unit) => valid7 x.1) [(.sl 3 false (List.map enc fs))]) = AV.pv (enc y0) ∧ (if (!y0) = true then G ((.tup [(.agg [(.int .i64 0), (.sl 0 true [])]), (.int .i64 1)])) else ((pre_rcN [(.pv (.sl 3 false (List.map enc fs))), (.pv (.sl 1 false (List.map enc ms)))] []) = true ∧ (G ((.tup [(.agg [(.int .i64 0), (.sl 0 true [])]), (.int .i64 18)]))))))) : Gets T_rcutn 0 (endP' rs_rcutn G) ic_rcutn [] (st0 78 [enc fs, enc ms]) := Gets.tp (.req (.abs (Bool) (fun YY => AV.pv (enc YY)) (.ask (.nil) (.req (.keep (.lit (.lit (.lit (.lit (.lit (.lit (.nil)))))))))))) h (by kernel_rfl)
def ic_rcutz : IC := ic_rcutn
def rs_rcutz : List IRes := [(.cell true 2 4), (.tmp 5)]
abbrev nt_rcutz : Nat := 78
def T_rcutz : Tab := tab [(29, .pure (preT (fun x : List Fact × Unit => factsSm x.1)) (valT (fun x : List Fact × Unit => valid7 x.1))), (72, .own pre_rcZ val_rcZ), (73, .pure (preT (fun x : Int × Int × Unit => inR x.1 && inR x.2.1)) (valT (fun x : Int × Int × Unit => gcdP x.1 x.2.1))), (74, .pure (preT (fun _ : Int × Int × Unit => true)) (valT (fun x : Int × Int × Unit => divI x.1 x.2.1))), (36, .pure (preT (fun x : Lin × Unit => linOk x.1)) (valT (fun x : Lin × Unit => validL x.1)))]
theorem rcutz_s {G : PV -> Prop} (fs : List Fact) (ms : List Int) (h : (Go.Pl.preT (fun (x : List Fact × Unit) => factsSm x.1) [(.sl 3 false (List.map enc fs))]) = true ∧ (∃ y0 : Bool, AV.pv (valT (fun (x : List Fact × Unit) => valid7 x.1) [(.sl 3 false (List.map enc fs))]) = AV.pv (enc y0) ∧ (if (!y0) = true then G ((.tup [(.agg [(.int .i64 0), (.sl 0 true [])]), (.int .i64 1)])) else ((pre_rcZ [(.pv (.sl 3 false (List.map enc fs))), (.pv (.sl 1 false (List.map enc ms)))] []) = true ∧ (G ((.tup [(.agg [(.int .i64 0), (.sl 0 true [])]), (.int .i64 18)]))))))) : Gets T_rcutz 0 (endP' rs_rcutz G) ic_rcutz [] (st0 78 [enc fs, enc ms]) := Gets.tp (.req (.abs (Bool) (fun YY => AV.pv (enc YY)) (.ask (.nil) (.req (.keep (.lit (.lit (.lit (.lit (.lit (.lit (.lit (.nil))))))))))))) h (by kernel_rfl)
def ic_rcutr : IC := ic_rcutn
def rs_rcutr : List IRes := [(.cell true 2 4), (.tmp 5)]
abbrev nt_rcutr : Nat := 78
def T_rcutr : Tab := tab [(29, .pure (preT (fun x : List Fact × Unit => factsSm x.1)) (valT (fun x : List Fact × Unit => valid7 x.1))), (72, .own pre_rcR val_rcR), (73, .pure (preT (fun x : Int × Int × Unit => inR x.1 && inR x.2.1)) (valT (fun x : Int × Int × Unit => gcdP x.1 x.2.1))), (74, .pure (preT (fun _ : Int × Int × Unit => true)) (valT (fun x : Int × Int × Unit => divI x.1 x.2.1))), (36, .pure (preT (fun x : Lin × Unit => linOk x.1)) (valT (fun x : Lin × Unit => validL x.1)))]
theorem rcutr_s {G : PV -> Prop} (fs : List Fact) (ms : List Int) (h : (Go.Pl.preT (fun (x : List Fact × Unit) => factsSm x.1) [(.sl 3 false (List.map enc fs))]) = true ∧ (∃ y0 : Bool, AV.pv (valT (fun (x : List Fact × Unit) => valid7 x.1) [(.sl 3 false (List.map enc fs))]) = AV.pv (enc y0) ∧ (if (!y0) = true then G ((.tup [(.agg [(.int .i64 0), (.sl 0 true [])]), (.int .i64 1)])) else ((pre_rcR [(.pv (.sl 3 false (List.map enc fs))), (.pv (.sl 1 false (List.map enc ms)))] []) = true ∧ (if ((↑(LR.w (theR (dec (enc fs)) (dec (enc ms))) - 0) : Int) == 0) = true then G ((.tup [(.agg [(.int .i64 0), (.sl 0 true [])]), (.int .i64 18)])) else (At T_rcutr 0 (endP' rs_rcutr G) ic_rcutr 0 78 [(4, (.ptr 0 0)), (6, (.ptr 1 0)), (8, (.pv (.int .i64 0))), (9, (.pv (.int .i64 0)))] [(.obj (.box [(.pv (.int .i64 0)), (.pv (.sl 0 true []))])), (.obj (.box [(.pv (.int .i64 (LR.k (theR (dec (enc fs)) (dec (enc ms)))))), (.row 2 (List.length (LR.ts (theR (dec (enc fs)) (dec (enc ms))))) 0 (LR.w (theR (dec (enc fs)) (dec (enc ms)))))])), (.obj (.row false 87 2 (List.map enc (LR.ts (theR (dec (enc fs)) (dec (enc ms)))))))])))))) : Gets T_rcutr 0 (endP' rs_rcutr G) ic_rcutr [] (st0 78 [enc fs, enc ms]) := Gets.tp (.req (.abs (Bool) (fun YY => AV.pv (enc YY)) (.ask (.nil) (.req (.keep (.lit (.lit (.lit (.lit (.lit (.lit (.ask (.nil) (.nil))))))))))))) h (by kernel_rfl)
theorem rcutr_h0 {G : PV -> Prop} (fs : List Fact) (ms : List Int) (c : Int) (q w : Nat) (ts : List Coef) (g i : Int) (h : if (decide (i < (↑(w - 0) : Int))) = true then (decide (0 <= i) && decide (0 + Int.toNat i < w) && List.length (List.map enc ts) == q) = true ∧ ((List.length (List.map enc ts) == q && decide (0 + Int.toNat i < List.length (List.map enc ts))) = true ∧ ((decide (0 + 1 + List.length [Sh.int .i64] <= List.length (PV.cells (List.getD (List.map enc ts) (0 + Int.toNat i) default))) && shFit (PV.cells (List.getD (List.map enc ts) (0 + Int.toNat i) default)) (0 + 1) [Sh.int .i64]) = true ∧ ((Go.Pl.preT (fun (x : Int × Int × Unit) => inR x.1 && inR x.2.1) [(.int .i64 g), (.int .i64 (PV.asInt (List.getD (PV.cells (List.getD (List.map enc ts) (0 + Int.toNat i) default)) (0 + 1) default)))]) = true ∧ (∃ y0 : Int × Int, AV.pv (valT (fun (x : Int × Int × Unit) => gcdP x.1 x.2.1) [(.int .i64 g), (.int .i64 (PV.asInt (List.getD (PV.cells (List.getD (List.map enc ts) (0 + Int.toNat i) default)) (0 + 1) default)))]) = AV.pv (enc y0) ∧ (At T_rcutr 0 (endP' rs_rcutr G) ic_rcutr 0 78 [(4, (.ptr 0 0)), (6, (.ptr 1 0)), (8, (.pv (.int .i64 y0.1))), (9, (.pv (.int .i64 (IntKind.wrap IntKind.i64 (i + 1)))))] [(.obj (.box [(.pv (.int .i64 0)), (.pv (.sl 0 true []))])), (.obj (.box [(.pv (.int .i64 c)), (.row 2 q 0 w)])), (.obj (.row false 87 2 (List.map enc ts)))]))))) else (At T_rcutr 0 (endP' rs_rcutr G) ic_rcutr 1 78 [(4, (.ptr 0 0)), (6, (.ptr 1 0)), (8, (.pv (.int .i64 g))), (10, (.pv (.int .i64 0)))] [(.obj (.box [(.pv (.int .i64 0)), (.pv (.sl 0 true []))])), (.obj (.box [(.pv (.int .i64 c)), (.row 2 q 0 w)])), (.obj (.row false 87 2 (List.map enc ts)))])) : At T_rcutr 0 (endP' rs_rcutr G) ic_rcutr 0 78 [(4, .ptr 0 0), (6, .ptr 1 0), (8, .pv (.int .i64 g)), (9, .pv (.int .i64 i))] [.obj (.box [.pv (.int .i64 0), .pv (.sl 0 true [])]), .obj (.box [.pv (.int .i64 c), .row 2 q 0 w]), .obj (.row false 87 2 (ts.map enc))] := At.tp (.lit (.ask (.req (.keep (.req (.req (.req (.abs (Int × Int) (fun YY => AV.pv (enc YY)) (.lit (.nil)))))))) (.nil))) h (by kernel_rfl)
theorem rcutr_h1 {G : PV -> Prop} (fs : List Fact) (ms : List Int) (c : Int) (q w : Nat) (ts : List Coef) (g i : Int) (h : if (decide (i < (↑(w - 0) : Int))) = true then (decide (0 <= i) && decide (0 + Int.toNat i < w) && List.length (List.map enc ts) == q) = true ∧ ((List.length (List.map enc ts) == q && decide (0 + Int.toNat i < List.length (List.map enc ts))) = true ∧ ((decide (0 + 1 + List.length [Sh.int .i64] <= List.length (PV.cells (List.getD (List.map enc ts) (0 + Int.toNat i) default))) && shFit (PV.cells (List.getD (List.map enc ts) (0 + Int.toNat i) default)) (0 + 1) [Sh.int .i64]) = true ∧ ((g != 0) = true ∧ ((decide (0 <= i) && decide (0 + Int.toNat i < w) && List.length (List.map enc ts) == q) = true ∧ ((List.length (List.map enc ts) == q && decide (0 + Int.toNat i < List.length (List.map enc ts)) && List.length (PV.cells (PV.int .i64 (IntKind.wrap IntKind.i64 (Int.tdiv (PV.asInt (List.getD (PV.cells (List.getD (List.map enc ts) (0 + Int.toNat i) default)) (0 + 1) default)) g)))) == 1 && decide (0 + 1 + 1 <= List.length (PV.cells (List.getD (List.map enc ts) (0 + Int.toNat i) default))) && PV.cellsOk (PV.int .i64 (IntKind.wrap IntKind.i64 (Int.tdiv (PV.asInt (List.getD (PV.cells (List.getD (List.map enc ts) (0 + Int.toNat i) default)) (0 + 1) default)) g)))) = true ∧ (At T_rcutr 0 (endP' rs_rcutr G) ic_rcutr 1 78 [(4, (.ptr 0 0)), (6, (.ptr 1 0)), (8, (.pv (.int .i64 g))), (10, (.pv (.int .i64 (IntKind.wrap IntKind.i64 (i + 1)))))] [(.obj (.box [(.pv (.int .i64 0)), (.pv (.sl 0 true []))])), (.obj (.box [(.pv (.int .i64 c)), (.row 2 q 0 w)])), (.obj (.row false 87 2 (List.set (List.map enc ts) (0 + Int.toNat i) (PV.withCells (List.getD (List.map enc ts) (0 + Int.toNat i) default) (splice (PV.cells (List.getD (List.map enc ts) (0 + Int.toNat i) default)) (0 + 1) (PV.cells (PV.int .i64 (IntKind.wrap IntKind.i64 (Int.tdiv (PV.asInt (List.getD (PV.cells (List.getD (List.map enc ts) (0 + Int.toNat i) default)) (0 + 1) default)) g)))))))))])))))) else (∃ y0 : Int × Int, AV.pv (valT (fun (x : Int × Int × Unit) => divI x.1 x.2.1) [(.int .i64 c), (.int .i64 g)]) = AV.pv (enc y0) ∧ ((List.length (List.map enc ts) == q) = true ∧ ((Go.Pl.preT (fun (x : Lin × Unit) => linOk x.1) [(.agg [(.int .i64 y0.1), (.sl 2 false (List.drop 0 (List.take w (List.map enc ts))))])]) = true ∧ (∃ y1 : Bool, AV.pv (valT (fun (x : Lin × Unit) => validL x.1) [(.agg [(.int .i64 y0.1), (.sl 2 false (List.drop 0 (List.take w (List.map enc ts))))])]) = AV.pv (enc y1) ∧ (if (!y1) = true then G ((.tup [(.agg [(.int .i64 0), (.sl 0 true [])]), (.int .i64 3)])) else ((List.length (List.map enc ts) == q) = true ∧ (G ((.tup [(.agg [(.int .i64 y0.1), (.sl 2 false (List.drop 0 (List.take w (List.map enc ts))))]), (.int .i64 0)])))))))))) : At T_rcutr 0 (endP' rs_rcutr G) ic_rcutr 1 78 [(4, .ptr 0 0), (6, .ptr 1 0), (8, .pv (.int .i64 g)), (10, .pv (.int .i64 i))] [.obj (.box [.pv (.int .i64 0), .pv (.sl 0 true [])]), .obj (.box [.pv (.int .i64 c), .row 2 q 0 w]), .obj (.row false 87 2 (ts.map enc))] := At.tp (.lit (.ask (.req (.keep (.req (.req (.req (.req (.keep (.req (.lit (.nil)))))))))) (.lit (.abs (Int × Int) (fun YY => AV.pv (enc YY)) (.req (.req (.abs (Bool) (fun YY => AV.pv (enc YY)) (.ask (.nil) (.req (.nil)))))))))) h (by kernel_rfl)
def ic_rplain : IC := (.seq (.reg [⟨(some 1), (.box 5 (.t 0)), 0, none⟩, ⟨(some 2), (.mv (.c (.bool false))), 1, none⟩] none) (.seq (.reg [⟨(some 4), (.faddr 2 (.t 1)), 0, none⟩, ⟨(some 5), (.load true [(.int .i64), (.sl 2)] (.t 4)), 0, none⟩, ⟨(some 6), (.build [(.int .i64 0), (.sl 0 true [])] []), 0, none⟩, ⟨(some 7), (.call (.c (.fn 23)) [(.t 5), (.t 6)]), 0, none⟩, ⟨(some 3), (.mv (.t 7)), 2, none⟩] none) (.seq (.seq (.reg [⟨(some 8), (.faddr 0 (.t 1)), 0, none⟩, ⟨(some 9), (.load false [(.int .i64)] (.t 8)), 0, none⟩] none) (.block 0 (.seq (.reg [⟨(some 11), (.bin .num .eql (.t 9) (.c (.int .i64 1))), 0, none⟩, ⟨(some 10), (.mv (.t 11)), 0, none⟩] none) (.cond (.t 10) (.seq (.reg [⟨(some 12), (.mv (.t 3)), 0, none⟩, ⟨(some 13), (.mv (.t 12)), 0, none⟩, ⟨(some 14), (.faddr 4 (.t 1)), 0, (some (13, true))⟩, ⟨(some 15), (.load false [(.sl 5)] (.t 14)), 0, (some (13, true))⟩, ⟨(some 16), (.len 1 (.t 15)), 0, (some (13, true))⟩, ⟨(some 17), (.bin .num .eql (.t 16) (.c (.int .i64 0))), 0, (some (13, true))⟩, ⟨(some 18), (.pick (.t 13) (.t 17) (.c (.bool false))), 0, none⟩, ⟨(some 2), (.mv (.t 18)), 0, none⟩] none) .ret) (.seq (.reg [⟨(some 20), (.bin .num .eql (.t 9) (.c (.int .i64 2))), 0, none⟩, ⟨(some 19), (.mv (.t 20)), 0, none⟩] none) (.cond (.t 19) (.seq (.reg [⟨(some 21), (.mv (.t 3)), 0, none⟩, ⟨(some 22), (.mv (.t 21)), 0, none⟩, ⟨(some 23), (.faddr 4 (.t 1)), 0, (some (22, true))⟩, ⟨(some 24), (.load false [(.sl 5)] (.t 23)), 0, (some (22, true))⟩, ⟨(some 25), (.len 1 (.t 24)), 0, (some (22, true))⟩, ⟨(some 26), (.bin .num .eql (.t 25) (.c (.int .i64 1))), 0, (some (22, true))⟩, ⟨(some 27), (.pick (.t 22) (.t 26) (.c (.bool false))), 0, none⟩, ⟨(some 2), (.mv (.t 27)), 0, none⟩] none) .ret) (.seq (.reg [⟨(some 29), (.bin .num .eql (.t 9) (.c (.int .i64 3))), 0, none⟩, ⟨(some 28), (.mv (.t 29)), 0, none⟩] none) (.cond (.t 28) (.seq (.reg [⟨(some 30), (.faddr 1 (.t 1)), 0, none⟩, ⟨(some 31), (.load false [(.sl 1)] (.t 30)), 0, none⟩, ⟨(some 32), (.len 1 (.t 31)), 0, none⟩, ⟨(some 33), (.bin .num .eql (.t 32) (.c (.int .i64 0))), 0, none⟩, ⟨(some 34), (.mv (.t 33)), 0, none⟩, ⟨(some 35), (.faddr 4 (.t 1)), 0, (some (34, true))⟩, ⟨(some 36), (.load false [(.sl 5)] (.t 35)), 0, (some (34, true))⟩, ⟨(some 37), (.len 1 (.t 36)), 0, (some (34, true))⟩, ⟨(some 38), (.bin .num .eql (.t 37) (.c (.int .i64 2))), 0, (some (34, true))⟩, ⟨(some 39), (.pick (.t 34) (.t 38) (.c (.bool false))), 0, none⟩, ⟨(some 2), (.mv (.t 39)), 0, none⟩] none) .ret) .skip)))))))) (.seq (.reg [⟨(some 2), (.mv (.c (.bool false))), 0, none⟩] none) .ret))))
def rs_rplain : List IRes := [(.tmp 2)]
abbrev nt_rplain : Nat := 40
def T_rplain : Tab := tab [(23, .pure (preT (fun x : Lin × Lin × Unit => linOk x.1)) (valT (fun x : Lin × Lin × Unit => cmpL x.1 x.2.1 == 0)))]
theorem rplain_s {G : PV -> Prop} (k : Int) (m : List Int) (l : Lin) (ks : List Cert) (h : (Go.Pl.preT (fun (x : Lin × Lin × Unit) => linOk x.1) [(.agg [(.int .i64 l.k), (.sl 2 false (List.map enc l.t))]), (.agg [(.int .i64 0), (.sl 0 true [])])]) = true ∧ (∃ y0 : Bool, AV.pv (valT (fun (x : Lin × Lin × Unit) => cmpL x.1 x.2.1 == 0) [(.agg [(.int .i64 l.k), (.sl 2 false (List.map enc l.t))]), (.agg [(.int .i64 0), (.sl 0 true [])])]) = AV.pv (enc y0) ∧ (if (k == 1) = true then if (y0) = true then G ((.bool ((↑(List.length (List.map enc ks)) : Int) == 0))) else (G ((.bool false))) else (if (k == 2) = true then if (y0) = true then G ((.bool ((↑(List.length (List.map enc ks)) : Int) == 1))) else (G ((.bool false))) else (if (k == 3) = true then if ((↑(List.length (List.map enc m)) : Int) == 0) = true then G ((.bool ((↑(List.length (List.map enc ks)) : Int) == 2))) else (G ((.bool false))) else (G ((.bool false)))))))) : Gets T_rplain 0 (endP' rs_rplain G) ic_rplain [] (st0 40 [.agg [enc k, enc m, enc l.k, enc l.t, enc ks]]) := Gets.tp (.req (.abs (Bool) (fun YY => AV.pv (enc YY)) (.lit (.ask (.ask (.lit (.lit (.lit (.lit (.lit (.nil)))))) (.lit (.lit (.lit (.lit (.nil)))))) (.lit (.ask (.ask (.lit (.lit (.lit (.lit (.lit (.nil)))))) (.lit (.lit (.lit (.lit (.nil)))))) (.lit (.ask (.lit (.ask (.lit (.lit (.lit (.lit (.lit (.nil)))))) (.lit (.lit (.lit (.lit (.nil))))))) (.nil))))))))) h (by kernel_rfl)
def ic_rnegate : IC := (.seq (.reg [⟨(some 1), (.box 2 (.t 0)), 0, none⟩, ⟨(some 2), (.alloc (.agg [(.int .i64 0), (.sl 0 true [])])), 1, none⟩, ⟨(some 3), (.mv (.c (.int .i64 0))), 2, none⟩] none) (.seq (.seq (.reg [⟨(some 5), (.load true [(.int .i64), (.sl 2)] (.t 1)), 0, none⟩, ⟨(some 6), (.call (.c (.fn 36)) [(.t 5)]), 0, none⟩, ⟨(some 7), (.un .not (.t 6)), 2, none⟩] none) (.cond (.t 7) (.seq (.reg [⟨(some 8), (.build [(.int .i64 0), (.sl 0 true [])] []), 0, none⟩, ⟨none, (.store 2 (.t 2) (.t 8)), 0, none⟩, ⟨(some 3), (.mv (.c (.int .i64 1))), 0, none⟩] none) .ret) .skip)) (.seq (.reg [⟨(some 9), (.call (.c (.fn 60)) [(.c (.int .i64 (-1)))]), 0, none⟩, ⟨(some 10), (.load true [(.int .i64), (.sl 2)] (.t 1)), 2, none⟩, ⟨(some 11), (.call (.c (.fn 66)) [(.t 9), (.t 10), (.c (.int .i64 (-1)))]), 2, none⟩, ⟨(some 4), (.alloc (.agg [(.int .i64 0), (.sl 0 true [])])), 4, none⟩, ⟨none, (.store 2 (.t 4) (.t 11)), 5, none⟩] (some [[], [], [0, 1], [], [3, 2, 0, 1]])) (.seq (.seq (.reg [⟨(some 12), (.load true [(.int .i64), (.sl 2)] (.t 4)), 0, none⟩, ⟨(some 13), (.call (.c (.fn 36)) [(.t 12)]), 0, none⟩, ⟨(some 14), (.un .not (.t 13)), 2, none⟩] none) (.cond (.t 14) (.seq (.reg [⟨(some 15), (.build [(.int .i64 0), (.sl 0 true [])] []), 0, none⟩, ⟨none, (.store 2 (.t 2) (.t 15)), 0, none⟩, ⟨(some 3), (.mv (.c (.int .i64 3))), 0, none⟩] none) .ret) .skip)) (.seq (.reg [⟨(some 16), (.load true [(.int .i64), (.sl 2)] (.t 4)), 0, none⟩, ⟨none, (.store 2 (.t 2) (.t 16)), 0, none⟩, ⟨(some 3), (.mv (.c (.int .i64 0))), 0, none⟩] none) .ret)))))
def rs_rnegate : List IRes := [(.cell true 2 2), (.tmp 3)]
abbrev nt_rnegate : Nat := 17
def T_rnegate : Tab := tab [(36, .pure (preT (fun x : Lin × Unit => linOk x.1)) (valT (fun x : Lin × Unit => validL x.1))), (60, .pure (preT (fun _ : Int × Unit => true)) (valT (fun x : Int × Unit => (⟨x.1, []⟩ : Lin)))), (66, .pure (preT (fun x : Lin × Lin × Int × Unit => decide (x.1.t.length <= 500000) && decide (x.2.1.t.length <= 500000))) (valT (fun x : Lin × Lin × Int × Unit => timesL x.1 x.2.1 x.2.2.1)))]
theorem rnegate_s {G : PV -> Prop} (g : Lin) (h : (Go.Pl.preT (fun (x : Lin × Unit) => linOk x.1) [(.agg [(.int .i64 g.k), (.sl 2 false (List.map enc g.t))])]) = true ∧ (∃ y0 : Bool, AV.pv (valT (fun (x : Lin × Unit) => validL x.1) [(.agg [(.int .i64 g.k), (.sl 2 false (List.map enc g.t))])]) = AV.pv (enc y0) ∧ (if (!y0) = true then G ((.tup [(.agg [(.int .i64 0), (.sl 0 true [])]), (.int .i64 1)])) else (∃ y1 : Lin, AV.pv (valT (fun (x : Int × Unit) => Lin.mk x.1 []) [(.int .i64 (-1))]) = AV.pv (enc y1) ∧ ((Go.Pl.preT (fun (x : Lin × Lin × Int × Unit) => decide (List.length x.1.t <= 500000) && decide (List.length x.2.1.t <= 500000)) [(.agg [(.int .i64 y1.k), (.sl 2 false (List.map enc y1.t))]), (.agg [(.int .i64 g.k), (.sl 2 false (List.map enc g.t))]), (.int .i64 (-1))]) = true ∧ (∃ y2 : Lin, AV.pv (valT (fun (x : Lin × Lin × Int × Unit) => timesL x.1 x.2.1 x.2.2.1) [(.agg [(.int .i64 y1.k), (.sl 2 false (List.map enc y1.t))]), (.agg [(.int .i64 g.k), (.sl 2 false (List.map enc g.t))]), (.int .i64 (-1))]) = AV.pv (enc y2) ∧ ((Go.Pl.preT (fun (x : Lin × Unit) => linOk x.1) [(.agg [(.int .i64 y2.k), (.sl 2 false (List.map enc y2.t))])]) = true ∧ (∃ y3 : Bool, AV.pv (valT (fun (x : Lin × Unit) => validL x.1) [(.agg [(.int .i64 y2.k), (.sl 2 false (List.map enc y2.t))])]) = AV.pv (enc y3) ∧ (if (!y3) = true then G ((.tup [(.agg [(.int .i64 0), (.sl 0 true [])]), (.int .i64 3)])) else (G ((.tup [(.agg [(.int .i64 y2.k), (.sl 2 false (List.map enc y2.t))]), (.int .i64 0)])))))))))))) : Gets T_rnegate 0 (endP' rs_rnegate G) ic_rnegate [] (st0 17 [enc g]) := Gets.tp (.req (.abs (Bool) (fun YY => AV.pv (enc YY)) (.ask (.nil) (.lit (.abs (Lin) (fun YY => AV.pv (enc YY)) (.req (.abs (Lin) (fun YY => AV.pv (enc YY)) (.req (.abs (Bool) (fun YY => AV.pv (enc YY)) (.ask (.nil) (.nil))))))))))) h (by kernel_rfl)
def ic_rref : IC := (.seq (.reg [⟨(some 3), (.box 5 (.t 1)), 0, none⟩, ⟨(some 4), (.mv (.c (.bool false))), 1, none⟩] none) (.seq (.seq (.reg [⟨(some 11), (.load true [(.int .i64), (.sl 1), (.int .i64), (.sl 2), (.sl 5)] (.t 3)), 0, none⟩, ⟨(some 12), (.call (.c (.fn 115)) [(.t 11)]), 0, none⟩, ⟨(some 13), (.un .not (.t 12)), 2, none⟩] none) (.cond (.t 13) (.seq (.reg [⟨(some 4), (.mv (.c (.bool false))), 0, none⟩] none) .ret) .skip)) (.seq (.seq (.reg [⟨(some 14), (.faddr 0 (.t 3)), 0, none⟩, ⟨(some 15), (.load false [(.int .i64)] (.t 14)), 0, none⟩] none) (.block 0 (.seq (.reg [⟨(some 17), (.bin .num .eql (.t 15) (.c (.int .i64 1))), 0, none⟩, ⟨(some 16), (.mv (.t 17)), 0, none⟩] none) (.cond (.t 16) (.seq (.reg [⟨(some 19), (.mv (.t 0)), 0, none⟩, ⟨(some 20), (.faddr 1 (.t 3)), 0, none⟩, ⟨(some 21), (.load false [(.sl 1)] (.t 20)), 0, none⟩, ⟨(some 22), (.call (.c (.fn 72)) [(.t 19), (.t 21)]), 0, none⟩, ⟨(some 18), (.mv (.t 22)), 2, none⟩, ⟨(some 23), (.extract (.t 18) 0), 2, none⟩, ⟨(some 24), (.extract (.t 18) 1), 2, none⟩, ⟨(some 5), (.alloc (.agg [(.int .i64 0), (.sl 0 true [])])), 2, none⟩, ⟨none, (.store 2 (.t 5) (.t 23)), 3, none⟩, ⟨(some 6), (.mv (.t 24)), 3, none⟩] none) (.seq (.reg [⟨(some 25), (.mv (.t 6)), 0, none⟩, ⟨(some 26), (.mv (.t 25)), 0, none⟩, ⟨(some 27), (.faddr 1 (.t 5)), 0, (some (26, true))⟩, ⟨(some 28), (.load false [(.sl 2)] (.t 27)), 0, (some (26, true))⟩, ⟨(some 29), (.len 1 (.t 28)), 0, (some (26, true))⟩, ⟨(some 30), (.bin .num .eql (.t 29) (.c (.int .i64 0))), 0, (some (26, true))⟩, ⟨(some 31), (.pick (.t 26) (.t 30) (.c (.bool false))), 0, none⟩, ⟨(some 32), (.mv (.t 31)), 0, none⟩, ⟨(some 33), (.faddr 0 (.t 5)), 0, (some (32, true))⟩, ⟨(some 34), (.load false [(.int .i64)] (.t 33)), 0, (some (32, true))⟩, ⟨(some 35), (.bin .num .lss (.t 34) (.c (.int .i64 0))), 0, (some (32, true))⟩, ⟨(some 36), (.pick (.t 32) (.t 35) (.c (.bool false))), 0, none⟩, ⟨(some 4), (.mv (.t 36)), 0, none⟩] none) .ret)) (.seq (.reg [⟨(some 38), (.bin .num .eql (.t 15) (.c (.int .i64 2))), 0, none⟩, ⟨(some 37), (.mv (.t 38)), 0, none⟩] none) (.cond (.t 37) (.seq (.reg [⟨(some 40), (.mv (.t 0)), 0, none⟩, ⟨(some 41), (.faddr 1 (.t 3)), 0, none⟩, ⟨(some 42), (.load false [(.sl 1)] (.t 41)), 0, none⟩, ⟨(some 43), (.call (.c (.fn 27)) [(.t 40), (.t 42)]), 0, none⟩, ⟨(some 39), (.mv (.t 43)), 2, none⟩, ⟨(some 44), (.extract (.t 39) 0), 2, none⟩, ⟨(some 45), (.extract (.t 39) 1), 2, none⟩, ⟨(some 7), (.alloc (.agg [(.int .i64 0), (.sl 0 true [])])), 2, none⟩, ⟨none, (.store 2 (.t 7) (.t 44)), 3, none⟩, ⟨(some 8), (.mv (.t 45)), 3, none⟩] none) (.seq (.reg [⟨(some 46), (.mv (.t 8)), 0, none⟩, ⟨(some 47), (.bin .num .eql (.t 46) (.c (.int .i64 0))), 0, none⟩, ⟨(some 48), (.mv (.t 47)), 0, none⟩, ⟨(some 49), (.bslice 83 3 0 (.agg [(.bool false), (.int .i64 0), (.sl 0 true [])]) []), 0, (some (48, true))⟩, ⟨(some 50), (.mv (.t 0)), 1, (some (48, true))⟩, ⟨(some 51), (.append 83 3 40 (.t 49) (.t 50)), 1, (some (48, true))⟩, ⟨(some 52), (.load true [(.int .i64), (.sl 2)] (.t 7)), 2, (some (48, true))⟩, ⟨(some 53), (.build [(.bool false), (.int .i64 0), (.sl 0 true [])] [(1, (2, (.t 52)))]), 2, (some (48, true))⟩, ⟨(some 54), (.bslice 83 3 1 (.agg [(.bool false), (.int .i64 0), (.sl 0 true [])]) [(0, (.t 53))]), 2, (some (48, true))⟩, ⟨(some 55), (.append 83 3 40 (.t 51) (.t 54)), 3, (some (48, true))⟩, ⟨(some 56), (.faddr 4 (.t 3)), 4, (some (48, true))⟩, ⟨(some 57), (.load false [(.sl 5)] (.t 56)), 4, (some (48, true))⟩, ⟨(some 58), (.iaddr 5 (.t 57) (.c (.int .i64 0))), 4, (some (48, true))⟩, ⟨(some 59), (.load true [(.int .i64), (.sl 1), (.int .i64), (.sl 2), (.sl 5)] (.t 58)), 4, (some (48, true))⟩, ⟨(some 60), (.call (.c (.fn 63)) [(.t 55), (.t 59)]), 4, (some (48, true))⟩, ⟨(some 61), (.pick (.t 48) (.t 60) (.c (.bool false))), 6, none⟩, ⟨(some 4), (.mv (.t 61)), 6, none⟩] (some [[], [0], [1, 0], [2, 1, 0], [2, 1, 0], [3, 4, 2, 1, 0], [2, 1, 0], [6, 2, 1, 0], [7, 2, 6, 1, 0], [5, 8, 2, 3, 4, 1, 0, 7, 6], [2, 1, 0], [10, 2, 1, 0], [11, 2, 10, 1, 0], [12, 2, 11, 10, 1, 0], [9, 13, 2, 5, 8, 3, 4, 1, 0, 7, 6, 12, 11, 10], [2, 14, 1, 0, 9, 13, 5, 8, 3, 4, 7, 6, 12, 11, 10], [15, 14, 0, 1, 2, 3, 4, 5, 6, 7, 8, 9, 10, 11, 12, 13]])) .ret)) .skip)))))) (.seq (.reg [⟨(some 63), (.faddr 2 (.t 3)), 0, none⟩, ⟨(some 64), (.load true [(.int .i64), (.sl 2)] (.t 63)), 0, none⟩, ⟨(some 65), (.call (.c (.fn 22)) [(.t 64)]), 0, none⟩, ⟨(some 62), (.mv (.t 65)), 2, none⟩, ⟨(some 66), (.extract (.t 62) 0), 2, none⟩, ⟨(some 67), (.extract (.t 62) 1), 2, none⟩, ⟨(some 9), (.alloc (.agg [(.int .i64 0), (.sl 0 true [])])), 2, none⟩, ⟨none, (.store 2 (.t 9) (.t 66)), 3, none⟩, ⟨(some 10), (.mv (.t 67)), 3, none⟩] none) (.seq (.reg [⟨(some 68), (.mv (.t 10)), 0, none⟩, ⟨(some 69), (.bin .num .eql (.t 68) (.c (.int .i64 0))), 0, none⟩, ⟨(some 70), (.mv (.t 69)), 0, none⟩, ⟨(some 71), (.bslice 83 3 0 (.agg [(.bool false), (.int .i64 0), (.sl 0 true [])]) []), 0, (some (70, true))⟩, ⟨(some 72), (.mv (.t 0)), 1, (some (70, true))⟩, ⟨(some 73), (.append 83 3 40 (.t 71) (.t 72)), 1, (some (70, true))⟩, ⟨(some 74), (.faddr 2 (.t 3)), 2, (some (70, true))⟩, ⟨(some 75), (.load true [(.int .i64), (.sl 2)] (.t 74)), 2, (some (70, true))⟩, ⟨(some 76), (.build [(.bool false), (.int .i64 0), (.sl 0 true [])] [(1, (2, (.t 75)))]), 2, (some (70, true))⟩, ⟨(some 77), (.bslice 83 3 1 (.agg [(.bool false), (.int .i64 0), (.sl 0 true [])]) [(0, (.t 76))]), 2, (some (70, true))⟩, ⟨(some 78), (.append 83 3 40 (.t 73) (.t 77)), 3, (some (70, true))⟩, ⟨(some 79), (.faddr 4 (.t 3)), 4, (some (70, true))⟩, ⟨(some 80), (.load false [(.sl 5)] (.t 79)), 4, (some (70, true))⟩, ⟨(some 81), (.iaddr 5 (.t 80) (.c (.int .i64 0))), 4, (some (70, true))⟩, ⟨(some 82), (.load true [(.int .i64), (.sl 1), (.int .i64), (.sl 2), (.sl 5)] (.t 81)), 4, (some (70, true))⟩, ⟨(some 83), (.call (.c (.fn 63)) [(.t 78), (.t 82)]), 4, (some (70, true))⟩, ⟨(some 84), (.pick (.t 70) (.t 83) (.c (.bool false))), 6, none⟩, ⟨(some 85), (.mv (.t 84)), 6, none⟩, ⟨(some 86), (.bslice 83 3 0 (.agg [(.bool false), (.int .i64 0), (.sl 0 true [])]) []), 6, (some (85, true))⟩, ⟨(some 87), (.mv (.t 0)), 7, (some (85, true))⟩, ⟨(some 88), (.append 83 3 40 (.t 86) (.t 87)), 7, (some (85, true))⟩, ⟨(some 89), (.load true [(.int .i64), (.sl 2)] (.t 9)), 8, (some (85, true))⟩, ⟨(some 90), (.build [(.bool false), (.int .i64 0), (.sl 0 true [])] [(1, (2, (.t 89)))]), 8, (some (85, true))⟩, ⟨(some 91), (.bslice 83 3 1 (.agg [(.bool false), (.int .i64 0), (.sl 0 true [])]) [(0, (.t 90))]), 8, (some (85, true))⟩, ⟨(some 92), (.append 83 3 40 (.t 88) (.t 91)), 9, (some (85, true))⟩, ⟨(some 93), (.faddr 4 (.t 3)), 10, (some (85, true))⟩, ⟨(some 94), (.load false [(.sl 5)] (.t 93)), 10, (some (85, true))⟩, ⟨(some 95), (.iaddr 5 (.t 94) (.c (.int .i64 1))), 10, (some (85, true))⟩, ⟨(some 96), (.load true [(.int .i64), (.sl 1), (.int .i64), (.sl 2), (.sl 5)] (.t 95)), 10, (some (85, true))⟩, ⟨(some 97), (.call (.c (.fn 63)) [(.t 92), (.t 96)]), 10, (some (85, true))⟩, ⟨(some 98), (.pick (.t 85) (.t 97) (.c (.bool false))), 12, none⟩, ⟨(some 4), (.mv (.t 98)), 12, none⟩] (some [[], [0], [1, 0], [2, 1, 0], [2, 1, 0], [3, 4, 2, 1, 0], [2, 1, 0], [6, 2, 1, 0], [7, 2, 6, 1, 0], [8, 2, 7, 6, 1, 0], [5, 9, 2, 3, 4, 1, 0, 8, 7, 6], [2, 1, 0], [11, 2, 1, 0], [12, 2, 11, 1, 0], [13, 2, 12, 11, 1, 0], [10, 14, 2, 5, 9, 3, 4, 1, 0, 8, 7, 6, 13, 12, 11], [2, 15, 1, 0, 10, 14, 5, 9, 3, 4, 8, 7, 6, 13, 12, 11], [16, 15, 2, 1, 0, 10, 14, 5, 9, 3, 4, 8, 7, 6, 13, 12, 11], [17, 16, 15, 2, 1, 0, 10, 14, 5, 9, 3, 4, 8, 7, 6, 13, 12, 11], [17, 16, 15, 2, 1, 0, 10, 14, 5, 9, 3, 4, 8, 7, 6, 13, 12, 11], [18, 19, 17, 16, 15, 2, 1, 0, 10, 14, 5, 9, 3, 4, 8, 7, 6, 13, 12, 11], [17, 16, 15, 2, 1, 0, 10, 14, 5, 9, 3, 4, 8, 7, 6, 13, 12, 11], [21, 17, 16, 15, 2, 1, 0, 10, 14, 5, 9, 3, 4, 8, 7, 6, 13, 12, 11], [22, 17, 21, 16, 15, 2, 1, 0, 10, 14, 5, 9, 3, 4, 8, 7, 6, 13, 12, 11], [20, 23, 17, 18, 19, 16, 15, 2, 1, 0, 10, 14, 5, 9, 3, 4, 8, 7, 6, 13, 12, 11, 22, 21], [17, 16, 15, 2, 1, 0, 10, 14, 5, 9, 3, 4, 8, 7, 6, 13, 12, 11], [25, 17, 16, 15, 2, 1, 0, 10, 14, 5, 9, 3, 4, 8, 7, 6, 13, 12, 11], [26, 17, 25, 16, 15, 2, 1, 0, 10, 14, 5, 9, 3, 4, 8, 7, 6, 13, 12, 11], [27, 17, 26, 25, 16, 15, 2, 1, 0, 10, 14, 5, 9, 3, 4, 8, 7, 6, 13, 12, 11], [24, 28, 17, 20, 23, 18, 19, 16, 15, 2, 1, 0, 10, 14, 5, 9, 3, 4, 8, 7, 6, 13, 12, 11, 22, 21, 27, 26, 25], [17, 29, 16, 15, 2, 1, 0, 10, 14, 5, 9, 3, 4, 8, 7, 6, 13, 12, 11, 24, 28, 20, 23, 18, 19, 22, 21, 27, 26, 25], [30, 29, 0, 1, 2, 3, 4, 5, 6, 7, 8, 9, 10, 11, 12, 13, 14, 15, 16, 17, 18, 19, 20, 21, 22, 23, 24, 25, 26, 27, 28]])) .ret)))))
def rs_rref : List IRes := [(.tmp 4)]
abbrev nt_rref : Nat := 99
def T_rref (N : Nat) : Tab := tab [(63, .pure (preT (fun x : List Fact × Cert × Unit => (decide (x.1.length + depC x.2.1 <= 300) && valid7 x.1 && cSm x.2.1) && decide (depC x.2.1 < N))) (valT (fun x : List Fact × Cert × Unit => refC x.1 x.2.1))), (115, .pure (preT (fun x : Cert × Unit => cOk x.1)) (valT (fun x : Cert × Unit => plainB x.1))), (72, .own pre_rc val_rcP), (27, .pure (preT (fun x : List Fact × List Int × Unit => factsSm x.1 && decide (x.1.length <= 300))) (valT (fun x : List Fact × List Int × Unit => cutL x.1 x.2.1))), (22, .pure (preT (fun x : Lin × Unit => linSm x.1)) (valT (fun x : Lin × Unit => negL x.1)))]
theorem rref_s {G : PV -> Prop} (N : Nat) (fs : List Fact) (k : Int) (m : List Int) (l : Lin) (ks : List Cert) (h : (Go.Pl.preT (fun (x : Cert × Unit) => cOk x.1) [(.agg [(.int .i64 k), (.sl 1 false (List.map enc m)), (.int .i64 l.k), (.sl 2 false (List.map enc l.t)), (.sl 5 false (List.map enc ks))])]) = true ∧ (∃ y0 : Bool, AV.pv (valT (fun (x : Cert × Unit) => plainB x.1) [(.agg [(.int .i64 k), (.sl 1 false (List.map enc m)), (.int .i64 l.k), (.sl 2 false (List.map enc l.t)), (.sl 5 false (List.map enc ks))])]) = AV.pv (enc y0) ∧ (if (!y0) = true then G ((.bool false)) else (if (k == 1) = true then (pre_rc [(.pv (.sl 3 false (List.map enc fs))), (.pv (.sl 1 false (List.map enc m)))] []) = true ∧ (if (Prod.snd (rcombP (dec (enc fs)) (dec (enc m)))) = true then if ((↑(List.length (List.map enc (Lin.t (Prod.fst (rcombP (dec (enc fs)) (dec (enc m))))))) : Int) == 0) = true then G ((.bool (decide (Lin.k (Prod.fst (rcombP (dec (enc fs)) (dec (enc m)))) < 0)))) else (G ((.bool false))) else (G ((.bool false)))) else (if (k == 2) = true then (Go.Pl.preT (fun (x : List Fact × List Int × Unit) => factsSm x.1 && decide (List.length x.1 <= 300)) [(.sl 3 false (List.map enc fs)), (.sl 1 false (List.map enc m))]) = true ∧ (∃ y1 : Lin × Int, AV.pv (valT (fun (x : List Fact × List Int × Unit) => cutL x.1 x.2.1) [(.sl 3 false (List.map enc fs)), (.sl 1 false (List.map enc m))]) = AV.pv (enc y1) ∧ (if (y1.2 == 0) = true then (List.isEmpty (List.map enc fs) || Enc.sz Fact == 3) = true ∧ ((List.length ([] : List PV) == 0 && 0 == 0 && decide ((0 + List.length (List.map enc fs)) * 40 <= 1099511627776) && decide (0 + List.length (List.map enc fs) <= 1099511627776)) = true ∧ ((List.length (([] : List PV) ++ List.map enc fs) == 0 + List.length (List.map enc fs) && 0 + List.length (List.map enc fs) == 0 + List.length (List.map enc fs) && decide ((0 + List.length (List.map enc fs) + List.length (List.drop 0 (List.take 1 [PV.agg [PV.bool false, enc y1.1.k, enc y1.1.t]]))) * 40 <= 1099511627776) && decide (0 + List.length (List.map enc fs) + List.length (List.drop 0 (List.take 1 [PV.agg [PV.bool false, enc y1.1.k, enc y1.1.t]])) <= 1099511627776)) = true ∧ ((decide (0 <= 0) && decide (Int.toNat 0 < List.length (List.map enc ks)) && Enc.sz Cert == 5) = true ∧ (∃ y2 : Cert, AV.pv (PV.rptr (PV.cells (List.getD (List.map enc ks) (Int.toNat 0) default))) = AV.pv (PV.rptr (PV.cells ((enc) y2))) ∧ ((decide (0 + List.length [Sh.int .i64, Sh.sl 1, Sh.int .i64, Sh.sl 2, Sh.sl 5] <= List.length (PV.cells (enc y2))) && shFit (PV.cells (enc y2)) 0 [Sh.int .i64, Sh.sl 1, Sh.int .i64, Sh.sl 2, Sh.sl 5]) = true ∧ ((List.length (([] : List PV) ++ List.map enc fs ++ List.drop 0 (List.take 1 [PV.agg [PV.bool false, enc y1.1.k, enc y1.1.t]])) == 0 + List.length (List.map enc fs) + List.length (List.drop 0 (List.take 1 [PV.agg [PV.bool false, enc y1.1.k, enc y1.1.t]]))) = true ∧ ((Go.Pl.preT (fun (x : List Fact × Cert × Unit) => decide (List.length x.1 + depC x.2.1 <= 300) && valid7 x.1 && cSm x.2.1 && decide (depC x.2.1 < N)) [(.sl 3 false (List.drop 0 (List.take (0 + List.length (List.map enc fs) + List.length (List.drop 0 (List.take 1 [PV.agg [PV.bool false, enc y1.1.k, enc y1.1.t]]))) (([] : List PV) ++ List.map enc fs ++ List.drop 0 (List.take 1 [PV.agg [PV.bool false, enc y1.1.k, enc y1.1.t]]))))), (.agg [(.int .i64 (PV.asInt (List.getD (PV.cells (enc y2)) 0 default))), (.sl 1 (PV.asT (List.getD (PV.cells (enc y2)) (0 + 1) default)) (PV.asXs (List.getD (PV.cells (enc y2)) (0 + 1) default))), (.int .i64 (PV.asInt (List.getD (PV.cells (enc y2)) (0 + 1 + 1) default))), (.sl 2 (PV.asT (List.getD (PV.cells (enc y2)) (0 + 1 + 1 + 1) default)) (PV.asXs (List.getD (PV.cells (enc y2)) (0 + 1 + 1 + 1) default))), (.sl 5 (PV.asT (List.getD (PV.cells (enc y2)) (0 + 1 + 1 + 1 + 1) default)) (PV.asXs (List.getD (PV.cells (enc y2)) (0 + 1 + 1 + 1 + 1) default)))])]) = true ∧ (∃ y3 : Bool, AV.pv (valT (fun (x : List Fact × Cert × Unit) => refC x.1 x.2.1) [(.sl 3 false (List.drop 0 (List.take (0 + List.length (List.map enc fs) + List.length (List.drop 0 (List.take 1 [PV.agg [PV.bool false, enc y1.1.k, enc y1.1.t]]))) (([] : List PV) ++ List.map enc fs ++ List.drop 0 (List.take 1 [PV.agg [PV.bool false, enc y1.1.k, enc y1.1.t]]))))), (.agg [(.int .i64 (PV.asInt (List.getD (PV.cells (enc y2)) 0 default))), (.sl 1 (PV.asT (List.getD (PV.cells (enc y2)) (0 + 1) default)) (PV.asXs (List.getD (PV.cells (enc y2)) (0 + 1) default))), (.int .i64 (PV.asInt (List.getD (PV.cells (enc y2)) (0 + 1 + 1) default))), (.sl 2 (PV.asT (List.getD (PV.cells (enc y2)) (0 + 1 + 1 + 1) default)) (PV.asXs (List.getD (PV.cells (enc y2)) (0 + 1 + 1 + 1) default))), (.sl 5 (PV.asT (List.getD (PV.cells (enc y2)) (0 + 1 + 1 + 1 + 1) default)) (PV.asXs (List.getD (PV.cells (enc y2)) (0 + 1 + 1 + 1 + 1) default)))])]) = AV.pv (enc y3) ∧ (G ((.bool y3))))))))))) else (G ((.bool false))))) else ((Go.Pl.preT (fun (x : Lin × Unit) => linSm x.1) [(.agg [(.int .i64 l.k), (.sl 2 false (List.map enc l.t))])]) = true ∧ (∃ y4 : Lin × Int, AV.pv (valT (fun (x : Lin × Unit) => negL x.1) [(.agg [(.int .i64 l.k), (.sl 2 false (List.map enc l.t))])]) = AV.pv (enc y4) ∧ (if (y4.2 == 0) = true then (List.isEmpty (List.map enc fs) || Enc.sz Fact == 3) = true ∧ ((List.length ([] : List PV) == 0 && 0 == 0 && decide ((0 + List.length (List.map enc fs)) * 40 <= 1099511627776) && decide (0 + List.length (List.map enc fs) <= 1099511627776)) = true ∧ ((List.length (([] : List PV) ++ List.map enc fs) == 0 + List.length (List.map enc fs) && 0 + List.length (List.map enc fs) == 0 + List.length (List.map enc fs) && decide ((0 + List.length (List.map enc fs) + List.length (List.drop 0 (List.take 1 [PV.agg [PV.bool false, enc l.k, enc l.t]]))) * 40 <= 1099511627776) && decide (0 + List.length (List.map enc fs) + List.length (List.drop 0 (List.take 1 [PV.agg [PV.bool false, enc l.k, enc l.t]])) <= 1099511627776)) = true ∧ ((decide (0 <= 0) && decide (Int.toNat 0 < List.length (List.map enc ks)) && Enc.sz Cert == 5) = true ∧ (∃ y5 : Cert, AV.pv (PV.rptr (PV.cells (List.getD (List.map enc ks) (Int.toNat 0) default))) = AV.pv (PV.rptr (PV.cells ((enc) y5))) ∧ ((decide (0 + List.length [Sh.int .i64, Sh.sl 1, Sh.int .i64, Sh.sl 2, Sh.sl 5] <= List.length (PV.cells (enc y5))) && shFit (PV.cells (enc y5)) 0 [Sh.int .i64, Sh.sl 1, Sh.int .i64, Sh.sl 2, Sh.sl 5]) = true ∧ ((List.length (([] : List PV) ++ List.map enc fs ++ List.drop 0 (List.take 1 [PV.agg [PV.bool false, enc l.k, enc l.t]])) == 0 + List.length (List.map enc fs) + List.length (List.drop 0 (List.take 1 [PV.agg [PV.bool false, enc l.k, enc l.t]]))) = true ∧ ((Go.Pl.preT (fun (x : List Fact × Cert × Unit) => decide (List.length x.1 + depC x.2.1 <= 300) && valid7 x.1 && cSm x.2.1 && decide (depC x.2.1 < N)) [(.sl 3 false (List.drop 0 (List.take (0 + List.length (List.map enc fs) + List.length (List.drop 0 (List.take 1 [PV.agg [PV.bool false, enc l.k, enc l.t]]))) (([] : List PV) ++ List.map enc fs ++ List.drop 0 (List.take 1 [PV.agg [PV.bool false, enc l.k, enc l.t]]))))), (.agg [(.int .i64 (PV.asInt (List.getD (PV.cells (enc y5)) 0 default))), (.sl 1 (PV.asT (List.getD (PV.cells (enc y5)) (0 + 1) default)) (PV.asXs (List.getD (PV.cells (enc y5)) (0 + 1) default))), (.int .i64 (PV.asInt (List.getD (PV.cells (enc y5)) (0 + 1 + 1) default))), (.sl 2 (PV.asT (List.getD (PV.cells (enc y5)) (0 + 1 + 1 + 1) default)) (PV.asXs (List.getD (PV.cells (enc y5)) (0 + 1 + 1 + 1) default))), (.sl 5 (PV.asT (List.getD (PV.cells (enc y5)) (0 + 1 + 1 + 1 + 1) default)) (PV.asXs (List.getD (PV.cells (enc y5)) (0 + 1 + 1 + 1 + 1) default)))])]) = true ∧ (∃ y6 : Bool, AV.pv (valT (fun (x : List Fact × Cert × Unit) => refC x.1 x.2.1) [(.sl 3 false (List.drop 0 (List.take (0 + List.length (List.map enc fs) + List.length (List.drop 0 (List.take 1 [PV.agg [PV.bool false, enc l.k, enc l.t]]))) (([] : List PV) ++ List.map enc fs ++ List.drop 0 (List.take 1 [PV.agg [PV.bool false, enc l.k, enc l.t]]))))), (.agg [(.int .i64 (PV.asInt (List.getD (PV.cells (enc y5)) 0 default))), (.sl 1 (PV.asT (List.getD (PV.cells (enc y5)) (0 + 1) default)) (PV.asXs (List.getD (PV.cells (enc y5)) (0 + 1) default))), (.int .i64 (PV.asInt (List.getD (PV.cells (enc y5)) (0 + 1 + 1) default))), (.sl 2 (PV.asT (List.getD (PV.cells (enc y5)) (0 + 1 + 1 + 1) default)) (PV.asXs (List.getD (PV.cells (enc y5)) (0 + 1 + 1 + 1) default))), (.sl 5 (PV.asT (List.getD (PV.cells (enc y5)) (0 + 1 + 1 + 1 + 1) default)) (PV.asXs (List.getD (PV.cells (enc y5)) (0 + 1 + 1 + 1 + 1) default)))])]) = AV.pv (enc y6) ∧ (if (y6) = true then (List.isEmpty (List.map enc fs) || Enc.sz Fact == 3) = true ∧ ((List.length ([] : List PV) == 0 && 0 == 0 && decide ((0 + List.length (List.map enc fs)) * 40 <= 1099511627776) && decide (0 + List.length (List.map enc fs) <= 1099511627776)) = true ∧ ((List.length (([] : List PV) ++ List.map enc fs) == 0 + List.length (List.map enc fs) && 0 + List.length (List.map enc fs) == 0 + List.length (List.map enc fs) && decide ((0 + List.length (List.map enc fs) + List.length (List.drop 0 (List.take 1 [PV.agg [PV.bool false, enc y4.1.k, enc y4.1.t]]))) * 40 <= 1099511627776) && decide (0 + List.length (List.map enc fs) + List.length (List.drop 0 (List.take 1 [PV.agg [PV.bool false, enc y4.1.k, enc y4.1.t]])) <= 1099511627776)) = true ∧ ((decide (0 <= 1) && decide (Int.toNat 1 < List.length (List.map enc ks)) && Enc.sz Cert == 5) = true ∧ (∃ y7 : Cert, AV.pv (PV.rptr (PV.cells (List.getD (List.map enc ks) (Int.toNat 1) default))) = AV.pv (PV.rptr (PV.cells ((enc) y7))) ∧ ((decide (0 + List.length [Sh.int .i64, Sh.sl 1, Sh.int .i64, Sh.sl 2, Sh.sl 5] <= List.length (PV.cells (enc y7))) && shFit (PV.cells (enc y7)) 0 [Sh.int .i64, Sh.sl 1, Sh.int .i64, Sh.sl 2, Sh.sl 5]) = true ∧ ((List.length (([] : List PV) ++ List.map enc fs ++ List.drop 0 (List.take 1 [PV.agg [PV.bool false, enc y4.1.k, enc y4.1.t]])) == 0 + List.length (List.map enc fs) + List.length (List.drop 0 (List.take 1 [PV.agg [PV.bool false, enc y4.1.k, enc y4.1.t]]))) = true ∧ ((Go.Pl.preT (fun (x : List Fact × Cert × Unit) => decide (List.length x.1 + depC x.2.1 <= 300) && valid7 x.1 && cSm x.2.1 && decide (depC x.2.1 < N)) [(.sl 3 false (List.drop 0 (List.take (0 + List.length (List.map enc fs) + List.length (List.drop 0 (List.take 1 [PV.agg [PV.bool false, enc y4.1.k, enc y4.1.t]]))) (([] : List PV) ++ List.map enc fs ++ List.drop 0 (List.take 1 [PV.agg [PV.bool false, enc y4.1.k, enc y4.1.t]]))))), (.agg [(.int .i64 (PV.asInt (List.getD (PV.cells (enc y7)) 0 default))), (.sl 1 (PV.asT (List.getD (PV.cells (enc y7)) (0 + 1) default)) (PV.asXs (List.getD (PV.cells (enc y7)) (0 + 1) default))), (.int .i64 (PV.asInt (List.getD (PV.cells (enc y7)) (0 + 1 + 1) default))), (.sl 2 (PV.asT (List.getD (PV.cells (enc y7)) (0 + 1 + 1 + 1) default)) (PV.asXs (List.getD (PV.cells (enc y7)) (0 + 1 + 1 + 1) default))), (.sl 5 (PV.asT (List.getD (PV.cells (enc y7)) (0 + 1 + 1 + 1 + 1) default)) (PV.asXs (List.getD (PV.cells (enc y7)) (0 + 1 + 1 + 1 + 1) default)))])]) = true ∧ (∃ y8 : Bool, AV.pv (valT (fun (x : List Fact × Cert × Unit) => refC x.1 x.2.1) [(.sl 3 false (List.drop 0 (List.take (0 + List.length (List.map enc fs) + List.length (List.drop 0 (List.take 1 [PV.agg [PV.bool false, enc y4.1.k, enc y4.1.t]]))) (([] : List PV) ++ List.map enc fs ++ List.drop 0 (List.take 1 [PV.agg [PV.bool false, enc y4.1.k, enc y4.1.t]]))))), (.agg [(.int .i64 (PV.asInt (List.getD (PV.cells (enc y7)) 0 default))), (.sl 1 (PV.asT (List.getD (PV.cells (enc y7)) (0 + 1) default)) (PV.asXs (List.getD (PV.cells (enc y7)) (0 + 1) default))), (.int .i64 (PV.asInt (List.getD (PV.cells (enc y7)) (0 + 1 + 1) default))), (.sl 2 (PV.asT (List.getD (PV.cells (enc y7)) (0 + 1 + 1 + 1) default)) (PV.asXs (List.getD (PV.cells (enc y7)) (0 + 1 + 1 + 1) default))), (.sl 5 (PV.asT (List.getD (PV.cells (enc y7)) (0 + 1 + 1 + 1 + 1) default)) (PV.asXs (List.getD (PV.cells (enc y7)) (0 + 1 + 1 + 1 + 1) default)))])]) = AV.pv (enc y8) ∧ (G ((.bool y8))))))))))) else (G ((.bool false)))))))))))) else (G ((.bool false))))))))))) : Gets (T_rref N) 0 (endP' rs_rref G) ic_rref [] (st0 99 [enc fs, .agg [enc k, enc m, enc l.k, enc l.t, enc ks]]) := Gets.tp (.req (.abs (Bool) (fun YY => AV.pv (enc YY)) (.ask (.nil) (.lit (.ask (.req (.keep (.ask (.lit (.lit (.lit (.lit (.lit (.ask (.lit (.lit (.lit (.lit (.nil))))) (.lit (.lit (.lit (.nil)))))))))) (.lit (.lit (.lit (.lit (.lit (.lit (.lit (.lit (.nil)))))))))))) (.lit (.ask (.req (.abs (Lin × Int) (fun YY => AV.pv (enc YY)) (.lit (.ask (.lit (.lit (.lit (.req (.req (.lit (.lit (.lit (.lit (.lit (.lit (.req (.lit (.lit (.lit (.req (.abs (Cert) (fun YY => AV.pv (PV.rptr (PV.cells ((enc) YY)))) (.lit (.req (.lit (.req (.req (.abs (Bool) (fun YY => AV.pv (enc YY)) (.lit (.nil))))))))))))))))))))))))) (.lit (.lit (.lit (.lit (.lit (.lit (.lit (.lit (.lit (.lit (.lit (.lit (.nil))))))))))))))))) (.req (.abs (Lin × Int) (fun YY => AV.pv (enc YY)) (.lit (.ask (.lit (.lit (.lit (.req (.req (.lit (.lit (.lit (.lit (.lit (.lit (.lit (.req (.lit (.lit (.lit (.req (.abs (Cert) (fun YY => AV.pv (PV.rptr (PV.cells ((enc) YY)))) (.lit (.req (.lit (.req (.req (.abs (Bool) (fun YY => AV.pv (enc YY)) (.lit (.ask (.lit (.lit (.lit (.req (.req (.lit (.lit (.lit (.lit (.lit (.lit (.req (.lit (.lit (.lit (.req (.abs (Cert) (fun YY => AV.pv (PV.rptr (PV.cells ((enc) YY)))) (.lit (.req (.lit (.req (.req (.abs (Bool) (fun YY => AV.pv (enc YY)) (.lit (.nil))))))))))))))))))))))))) (.lit (.lit (.lit (.lit (.lit (.lit (.lit (.lit (.lit (.lit (.lit (.lit (.nil))))))))))))))))))))))))))))))))))))))) (.lit (.lit (.lit (.lit (.lit (.lit (.lit (.lit (.lit (.lit (.lit (.lit (.lit (.lit (.lit (.lit (.lit (.lit (.lit (.lit (.lit (.lit (.lit (.lit (.lit (.lit (.nil)))))))))))))))))))))))))))))))))))))) h (by kernel_rfl)
def ic_rcheck : IC := (.seq (.reg [⟨(some 3), (.box 5 (.t 1)), 0, none⟩, ⟨(some 4), (.mv (.c (.int .i64 0))), 1, none⟩] none) (.seq (.seq (.reg [⟨(some 5), (.mv (.t 0)), 0, none⟩, ⟨(some 6), (.call (.c (.fn 29)) [(.t 5)]), 0, none⟩, ⟨(some 7), (.un .not (.t 6)), 2, none⟩] none) (.cond (.t 7) (.seq (.reg [⟨(some 4), (.mv (.c (.int .i64 1))), 0, none⟩] none) .ret) .skip)) (.seq (.seq (.reg [⟨(some 8), (.mv (.t 0)), 0, none⟩, ⟨(some 9), (.len 1 (.t 8)), 0, none⟩, ⟨(some 10), (.bin .num .gtr (.t 9) (.c (.int .i64 100))), 0, none⟩, ⟨(some 11), (.mv (.t 10)), 0, none⟩, ⟨(some 12), (.load true [(.int .i64), (.sl 1), (.int .i64), (.sl 2), (.sl 5)] (.t 3)), 0, (some (11, false))⟩, ⟨(some 13), (.call (.c (.fn 18)) [(.t 12)]), 0, (some (11, false))⟩, ⟨(some 14), (.bin .num .gtr (.t 13) (.c (.int .i64 1000))), 2, (some (11, false))⟩, ⟨(some 15), (.pick (.t 11) (.c (.bool true)) (.t 14)), 2, none⟩] none) (.cond (.t 15) (.seq (.reg [⟨(some 4), (.mv (.c (.int .i64 3))), 0, none⟩] none) .ret) .skip)) (.seq (.seq (.reg [⟨(some 16), (.mv (.t 0)), 0, none⟩, ⟨(some 17), (.load true [(.int .i64), (.sl 1), (.int .i64), (.sl 2), (.sl 5)] (.t 3)), 0, none⟩, ⟨(some 18), (.call (.c (.fn 63)) [(.t 16), (.t 17)]), 0, none⟩, ⟨(some 19), (.un .not (.t 18)), 2, none⟩] none) (.cond (.t 19) (.seq (.reg [⟨(some 4), (.mv (.c (.int .i64 18))), 0, none⟩] none) .ret) .skip)) (.seq (.reg [⟨(some 4), (.mv (.c (.int .i64 0))), 0, none⟩] none) .ret)))))
def rs_rcheck : List IRes := [(.tmp 4)]
abbrev nt_rcheck : Nat := 20
def T_rcheck : Tab := tab [(29, .pure (preT (fun x : List Fact × Unit => factsSm x.1)) (valT (fun x : List Fact × Unit => valid7 x.1))), (18, .pure (preT (fun x : Cert × Unit => cOk x.1)) (valT (fun x : Cert × Unit => sizeC x.1))), (63, .pure (preT (fun x : List Fact × Cert × Unit => decide (x.1.length + depC x.2.1 <= 300) && valid7 x.1 && cSm x.2.1)) (valT (fun x : List Fact × Cert × Unit => refC x.1 x.2.1)))]
theorem rcheck_s {G : PV -> Prop} (fs : List Fact) (k : Int) (m : List Int) (l : Lin) (ks : List Cert) (h : (Go.Pl.preT (fun (x : List Fact × Unit) => factsSm x.1) [(.sl 3 false (List.map enc fs))]) = true ∧ (∃ y0 : Bool, AV.pv (valT (fun (x : List Fact × Unit) => valid7 x.1) [(.sl 3 false (List.map enc fs))]) = AV.pv (enc y0) ∧ (if (!y0) = true then G ((.int .i64 1)) else (if (decide ((↑(List.length (List.map enc fs)) : Int) > 100)) = true then G ((.int .i64 3)) else ((Go.Pl.preT (fun (x : Cert × Unit) => cOk x.1) [(.agg [(.int .i64 k), (.sl 1 false (List.map enc m)), (.int .i64 l.k), (.sl 2 false (List.map enc l.t)), (.sl 5 false (List.map enc ks))])]) = true ∧ (∃ y1 : Int, AV.pv (valT (fun (x : Cert × Unit) => sizeC x.1) [(.agg [(.int .i64 k), (.sl 1 false (List.map enc m)), (.int .i64 l.k), (.sl 2 false (List.map enc l.t)), (.sl 5 false (List.map enc ks))])]) = AV.pv (enc y1) ∧ (if (decide (y1 > 1000)) = true then G ((.int .i64 3)) else ((Go.Pl.preT (fun (x : List Fact × Cert × Unit) => decide (List.length x.1 + depC x.2.1 <= 300) && valid7 x.1 && cSm x.2.1) [(.sl 3 false (List.map enc fs)), (.agg [(.int .i64 k), (.sl 1 false (List.map enc m)), (.int .i64 l.k), (.sl 2 false (List.map enc l.t)), (.sl 5 false (List.map enc ks))])]) = true ∧ (∃ y2 : Bool, AV.pv (valT (fun (x : List Fact × Cert × Unit) => refC x.1 x.2.1) [(.sl 3 false (List.map enc fs)), (.agg [(.int .i64 k), (.sl 1 false (List.map enc m)), (.int .i64 l.k), (.sl 2 false (List.map enc l.t)), (.sl 5 false (List.map enc ks))])]) = AV.pv (enc y2) ∧ (if (!y2) = true then G ((.int .i64 18)) else (G ((.int .i64 0))))))))))))) : Gets T_rcheck 0 (endP' rs_rcheck G) ic_rcheck [] (st0 20 [enc fs, .agg [enc k, enc m, enc l.k, enc l.t, enc ks]]) := Gets.tp (.req (.abs (Bool) (fun YY => AV.pv (enc YY)) (.ask (.nil) (.lit (.ask (.lit (.lit (.lit (.lit (.nil))))) (.lit (.req (.abs (Int) (fun YY => AV.pv (enc YY)) (.lit (.lit (.lit (.ask (.nil) (.req (.abs (Bool) (fun YY => AV.pv (enc YY)) (.ask (.nil) (.nil)))))))))))))))) h (by kernel_rfl)
end Go.Pl

namespace Go.Pl
open Go.RowKit
open Enc (enc dec is)
open EncL (encL decL isL)
set_option maxRecDepth 100000
def ic_rcombo : IC := (.seq (.reg [⟨(some 4), (.alloc (.agg [(.int .i64 0), (.sl 0 true [])])), 0, none⟩, ⟨(some 5), (.mv (.c (.bool false))), 1, none⟩] none) (.seq (.seq (.reg [⟨(some 8), (.mv (.t 1)), 0, none⟩, ⟨(some 9), (.len 1 (.t 8)), 0, none⟩, ⟨(some 10), (.mv (.t 0)), 0, none⟩, ⟨(some 11), (.len 1 (.t 10)), 0, none⟩, ⟨(some 12), (.bin .num .neq (.t 9) (.t 11)), 0, none⟩] none) (.cond (.t 12) (.seq (.reg [⟨(some 13), (.build [(.int .i64 0), (.sl 0 true [])] []), 0, none⟩, ⟨none, (.store 2 (.t 4) (.t 13)), 0, none⟩, ⟨(some 5), (.mv (.c (.bool false))), 0, none⟩] none) .ret) .skip)) (.seq (.reg [⟨(some 6), (.alloc (.agg [(.int .i64 0), (.sl 0 true [])])), 0, none⟩] none) (.seq (.seq (.reg [⟨(some 7), (.mv (.c (.int .i64 0))), 0, none⟩] none) (.block 0 (.loop [7, 1, 0, 4, 6] (.seq (.seq (.reg [⟨(some 14), (.mv (.t 7)), 0, none⟩, ⟨(some 15), (.mv (.t 1)), 0, none⟩, ⟨(some 16), (.len 1 (.t 15)), 0, none⟩, ⟨(some 17), (.bin .num .lss (.t 14) (.t 16)), 0, none⟩] none) (.cond (.t 17) .skip (.exit 0))) (.seq (.block 1 (.seq (.seq (.reg [⟨(some 20), (.mv (.t 1)), 0, none⟩, ⟨(some 21), (.mv (.t 7)), 0, none⟩, ⟨(some 22), (.iaddr 1 (.t 20) (.t 21)), 0, none⟩, ⟨(some 23), (.load false [(.int .i64)] (.t 22)), 0, none⟩, ⟨(some 24), (.bin .num .lss (.t 23) (.c (.int .i64 (-1000000000)))), 0, none⟩, ⟨(some 25), (.mv (.t 24)), 0, none⟩, ⟨(some 26), (.mv (.t 1)), 0, (some (25, false))⟩, ⟨(some 27), (.mv (.t 7)), 0, (some (25, false))⟩, ⟨(some 28), (.iaddr 1 (.t 26) (.t 27)), 0, (some (25, false))⟩, ⟨(some 29), (.load false [(.int .i64)] (.t 28)), 0, (some (25, false))⟩, ⟨(some 30), (.bin .num .gtr (.t 29) (.c (.int .i64 1000000000))), 0, (some (25, false))⟩, ⟨(some 31), (.pick (.t 25) (.c (.bool true)) (.t 30)), 0, none⟩, ⟨(some 32), (.mv (.t 31)), 0, none⟩, ⟨(some 33), (.mv (.t 1)), 0, (some (32, false))⟩, ⟨(some 34), (.mv (.t 7)), 0, (some (32, false))⟩, ⟨(some 35), (.iaddr 1 (.t 33) (.t 34)), 0, (some (32, false))⟩, ⟨(some 36), (.load false [(.int .i64)] (.t 35)), 0, (some (32, false))⟩, ⟨(some 37), (.bin .num .lss (.t 36) (.c (.int .i64 0))), 0, (some (32, false))⟩, ⟨(some 38), (.mv (.t 37)), 0, (some (32, false))⟩, ⟨(some 39), (.mv (.t 0)), 0, (some (38, true))⟩, ⟨(some 40), (.mv (.t 7)), 0, (some (38, true))⟩, ⟨(some 41), (.iaddr 3 (.t 39) (.t 40)), 0, (some (38, true))⟩, ⟨(some 42), (.faddr 0 (.t 41)), 0, (some (38, true))⟩, ⟨(some 43), (.load false [.bool] (.t 42)), 0, (some (38, true))⟩, ⟨(some 44), (.un .not (.t 43)), 0, (some (38, true))⟩, ⟨(some 45), (.pick (.t 38) (.t 44) (.c (.bool false))), 0, (some (32, false))⟩, ⟨(some 46), (.pick (.t 32) (.c (.bool true)) (.t 45)), 0, none⟩] none) (.cond (.t 46) (.seq (.reg [⟨(some 47), (.build [(.int .i64 0), (.sl 0 true [])] []), 0, none⟩, ⟨none, (.store 2 (.t 4) (.t 47)), 0, none⟩, ⟨(some 5), (.mv (.c (.bool false))), 0, none⟩] none) .ret) .skip)) (.seq (.reg [⟨(some 48), (.mv (.t 1)), 0, none⟩, ⟨(some 49), (.mv (.t 7)), 0, none⟩, ⟨(some 50), (.iaddr 1 (.t 48) (.t 49)), 0, none⟩, ⟨(some 51), (.load false [(.int .i64)] (.t 50)), 0, none⟩, ⟨(some 52), (.bin .num .neq (.t 51) (.c (.int .i64 0))), 0, none⟩] none) (.cond (.t 52) (.reg [⟨(some 53), (.load true [(.int .i64), (.sl 2)] (.t 6)), 0, none⟩, ⟨(some 54), (.mv (.t 0)), 0, none⟩, ⟨(some 55), (.mv (.t 7)), 0, none⟩, ⟨(some 56), (.iaddr 3 (.t 54) (.t 55)), 0, none⟩, ⟨(some 57), (.faddr 1 (.t 56)), 0, none⟩, ⟨(some 58), (.load true [(.int .i64), (.sl 2)] (.t 57)), 0, none⟩, ⟨(some 59), (.mv (.t 1)), 0, none⟩, ⟨(some 60), (.mv (.t 7)), 0, none⟩, ⟨(some 61), (.iaddr 1 (.t 59) (.t 60)), 0, none⟩, ⟨(some 62), (.load false [(.int .i64)] (.t 61)), 0, none⟩, ⟨(some 63), (.call (.c (.fn 66)) [(.t 53), (.t 58), (.t 62)]), 0, none⟩, ⟨none, (.store 2 (.t 6) (.t 63)), 2, none⟩] (some [[], [], [], [1, 2], [3, 1, 2], [4, 3, 1, 2], [], [], [6, 7], [8, 6, 7], [0, 5, 9, 4, 3, 1, 2, 8, 6, 7], [10, 0, 1, 2, 3, 4, 5, 6, 7, 8, 9]])) .skip)))) (.reg [⟨(some 18), (.mv (.t 7)), 0, none⟩, ⟨(some 19), (.bin .num .add (.t 18) (.c (.int .i64 1))), 0, none⟩, ⟨(some 7), (.mv (.t 19)), 0, none⟩] none)))))) (.seq (.reg [⟨(some 64), (.load true [(.int .i64), (.sl 2)] (.t 6)), 0, none⟩, ⟨none, (.store 2 (.t 4) (.t 64)), 0, none⟩, ⟨(some 5), (.mv (.c (.bool true))), 0, none⟩] none) .ret)))))
def rs_rcombo : List IRes := [(.cell true 2 4), (.tmp 5)]
abbrev nt_rcombo : Nat := 65
def T_rcombo : Tab := tab [(66, .own pre_times val_times)]
theorem rcombo_s {G : AV × List AObj × List AObj -> Prop} (fs : List Fact) (ms : List Int) (h : if ((↑(List.length (List.map enc ms)) : Int) != (↑(List.length (List.map enc fs)) : Int)) = true then G (((.tup [(.pv (.agg [(.int .i64 0), (.sl 0 true [])])), (.pv (.bool false))]), ([], []))) else (At T_rcombo 0 (endO' 0 rs_rcombo G) ic_rcombo 0 65 [(0, (.pv (.sl 3 false (List.map enc fs)))), (1, (.pv (.sl 1 false (List.map enc ms)))), (4, (.ptr 0 0)), (6, (.ptr 1 0)), (7, (.pv (.int .i64 0)))] [(.obj (.box [(.pv (.int .i64 0)), (.pv (.sl 0 true []))])), (.obj (.box [(.pv (.int .i64 0)), (.pv (.sl 0 true []))]))])) : Gets T_rcombo 0 (endO' 0 rs_rcombo G) ic_rcombo [] (st0O 65 [.pv (enc fs), .pv (enc ms)] []) := Gets.to (.lit (.ask (.nil) (.nil))) h (by kernel_rfl)
theorem rcombo_h0a {G : AV × List AObj × List AObj -> Prop} (fs : List Fact) (ms : List Int) (i : Int) (h : if (decide (i < (↑(List.length (List.map enc ms)) : Int))) = true then (decide (0 <= i) && decide (Int.toNat i < List.length (List.map enc ms)) && Enc.sz Int == 1) = true ∧ (∃ y0 : Int, AV.pv (PV.rptr (PV.cells (List.getD (List.map enc ms) (Int.toNat i) default))) = AV.pv (PV.rptr (PV.cells ((enc) y0))) ∧ (if (decide (PV.asInt (List.getD (PV.cells (enc y0)) 0 default) < (-1000000000 : Int))) = true then G (((.tup [(.pv (.agg [(.int .i64 0), (.sl 0 true [])])), (.pv (.bool false))]), ([], []))) else ((decide (0 <= i) && decide (Int.toNat i < List.length (List.map enc ms)) && Enc.sz Int == 1) = true ∧ (∃ y1 : Int, AV.pv (PV.rptr (PV.cells (List.getD (List.map enc ms) (Int.toNat i) default))) = AV.pv (PV.rptr (PV.cells ((enc) y1))) ∧ (if (decide (PV.asInt (List.getD (PV.cells (enc y1)) 0 default) > 1000000000)) = true then G (((.tup [(.pv (.agg [(.int .i64 0), (.sl 0 true [])])), (.pv (.bool false))]), ([], []))) else ((decide (0 <= i) && decide (Int.toNat i < List.length (List.map enc ms)) && Enc.sz Int == 1) = true ∧ (∃ y2 : Int, AV.pv (PV.rptr (PV.cells (List.getD (List.map enc ms) (Int.toNat i) default))) = AV.pv (PV.rptr (PV.cells ((enc) y2))) ∧ (if (decide (PV.asInt (List.getD (PV.cells (enc y2)) 0 default) < 0)) = true then (decide (0 <= i) && decide (Int.toNat i < List.length (List.map enc fs)) && Enc.sz Fact == 3) = true ∧ (∃ y3 : Fact, AV.pv (PV.rptr (PV.cells (List.getD (List.map enc fs) (Int.toNat i) default))) = AV.pv (PV.rptr (PV.cells ((enc) y3))) ∧ (if (!PV.asBool (List.getD (List.drop 0 (PV.cells (enc y3))) 0 default)) = true then G (((.tup [(.pv (.agg [(.int .i64 0), (.sl 0 true [])])), (.pv (.bool false))]), ([], []))) else ((decide (0 <= i) && decide (Int.toNat i < List.length (List.map enc ms)) && Enc.sz Int == 1) = true ∧ (∃ y4 : Int, AV.pv (PV.rptr (PV.cells (List.getD (List.map enc ms) (Int.toNat i) default))) = AV.pv (PV.rptr (PV.cells ((enc) y4))) ∧ (if (PV.asInt (List.getD (PV.cells (enc y4)) 0 default) != 0) = true then (decide (0 <= i) && decide (Int.toNat i < List.length (List.map enc fs)) && Enc.sz Fact == 3) = true ∧ (∃ y5 : Fact, AV.pv (PV.rptr (PV.cells (List.getD (List.map enc fs) (Int.toNat i) default))) = AV.pv (PV.rptr (PV.cells ((enc) y5))) ∧ ((decide (0 <= i) && decide (Int.toNat i < List.length (List.map enc ms)) && Enc.sz Int == 1) = true ∧ (∃ y6 : Int, AV.pv (PV.rptr (PV.cells (List.getD (List.map enc ms) (Int.toNat i) default))) = AV.pv (PV.rptr (PV.cells ((enc) y6))) ∧ ((pre_times [(.pv (.agg [(.int .i64 0), (.sl 0 true [])])), (.pv (.agg [(.int .i64 (PV.asInt (List.getD (List.drop 1 (PV.cells (enc y5))) 0 default))), (.sl 2 false (PV.asXs (List.getD (List.drop 1 (PV.cells (enc y5))) (0 + 1) default)))])), (.pv (.int .i64 (PV.asInt (List.getD (PV.cells (enc y6)) 0 default))))] []) = true ∧ (At T_rcombo 0 (endO' 0 rs_rcombo G) ic_rcombo 0 65 [(0, (.pv (.sl 3 false (List.map enc fs)))), (1, (.pv (.sl 1 false (List.map enc ms)))), (4, (.ptr 0 0)), (6, (.ptr 1 0)), (7, (.pv (.int .i64 (IntKind.wrap IntKind.i64 (i + 1)))))] [(.obj (.box [(.pv (.int .i64 0)), (.pv (.sl 0 true []))])), (.obj (.box [(.pv (.int .i64 (LR.k (timesR (dec (PV.agg [PV.int .i64 0, PV.sl 0 true []])) (dec (PV.agg (shAll (List.drop 1 (PV.cells (enc y5))) 0 [Sh.int .i64, Sh.sl 2]))) (PV.asInt (List.getD (PV.cells (enc y6)) 0 default)))))), (.row 2 (List.length (LR.ts (timesR (dec (PV.agg [PV.int .i64 0, PV.sl 0 true []])) (dec (PV.agg (shAll (List.drop 1 (PV.cells (enc y5))) 0 [Sh.int .i64, Sh.sl 2]))) (PV.asInt (List.getD (PV.cells (enc y6)) 0 default))))) 0 (LR.w (timesR (dec (PV.agg [PV.int .i64 0, PV.sl 0 true []])) (dec (PV.agg (shAll (List.drop 1 (PV.cells (enc y5))) 0 [Sh.int .i64, Sh.sl 2]))) (PV.asInt (List.getD (PV.cells (enc y6)) 0 default)))))])), (.obj (.row false 87 2 (List.map enc (LR.ts (timesR (dec (PV.agg [PV.int .i64 0, PV.sl 0 true []])) (dec (PV.agg (shAll (List.drop 1 (PV.cells (enc y5))) 0 [Sh.int .i64, Sh.sl 2]))) (PV.asInt (List.getD (PV.cells (enc y6)) 0 default)))))))]))))) else (At T_rcombo 0 (endO' 0 rs_rcombo G) ic_rcombo 0 65 [(0, (.pv (.sl 3 false (List.map enc fs)))), (1, (.pv (.sl 1 false (List.map enc ms)))), (4, (.ptr 0 0)), (6, (.ptr 1 0)), (7, (.pv (.int .i64 (IntKind.wrap IntKind.i64 (i + 1)))))] [(.obj (.box [(.pv (.int .i64 0)), (.pv (.sl 0 true []))])), (.obj (.box [(.pv (.int .i64 0)), (.pv (.sl 0 true []))]))])))))) else ((decide (0 <= i) && decide (Int.toNat i < List.length (List.map enc ms)) && Enc.sz Int == 1) = true ∧ (∃ y7 : Int, AV.pv (PV.rptr (PV.cells (List.getD (List.map enc ms) (Int.toNat i) default))) = AV.pv (PV.rptr (PV.cells ((enc) y7))) ∧ (if (PV.asInt (List.getD (PV.cells (enc y7)) 0 default) != 0) = true then (decide (0 <= i) && decide (Int.toNat i < List.length (List.map enc fs)) && Enc.sz Fact == 3) = true ∧ (∃ y8 : Fact, AV.pv (PV.rptr (PV.cells (List.getD (List.map enc fs) (Int.toNat i) default))) = AV.pv (PV.rptr (PV.cells ((enc) y8))) ∧ ((decide (0 <= i) && decide (Int.toNat i < List.length (List.map enc ms)) && Enc.sz Int == 1) = true ∧ (∃ y9 : Int, AV.pv (PV.rptr (PV.cells (List.getD (List.map enc ms) (Int.toNat i) default))) = AV.pv (PV.rptr (PV.cells ((enc) y9))) ∧ ((pre_times [(.pv (.agg [(.int .i64 0), (.sl 0 true [])])), (.pv (.agg [(.int .i64 (PV.asInt (List.getD (List.drop 1 (PV.cells (enc y8))) 0 default))), (.sl 2 false (PV.asXs (List.getD (List.drop 1 (PV.cells (enc y8))) (0 + 1) default)))])), (.pv (.int .i64 (PV.asInt (List.getD (PV.cells (enc y9)) 0 default))))] []) = true ∧ (At T_rcombo 0 (endO' 0 rs_rcombo G) ic_rcombo 0 65 [(0, (.pv (.sl 3 false (List.map enc fs)))), (1, (.pv (.sl 1 false (List.map enc ms)))), (4, (.ptr 0 0)), (6, (.ptr 1 0)), (7, (.pv (.int .i64 (IntKind.wrap IntKind.i64 (i + 1)))))] [(.obj (.box [(.pv (.int .i64 0)), (.pv (.sl 0 true []))])), (.obj (.box [(.pv (.int .i64 (LR.k (timesR (dec (PV.agg [PV.int .i64 0, PV.sl 0 true []])) (dec (PV.agg (shAll (List.drop 1 (PV.cells (enc y8))) 0 [Sh.int .i64, Sh.sl 2]))) (PV.asInt (List.getD (PV.cells (enc y9)) 0 default)))))), (.row 2 (List.length (LR.ts (timesR (dec (PV.agg [PV.int .i64 0, PV.sl 0 true []])) (dec (PV.agg (shAll (List.drop 1 (PV.cells (enc y8))) 0 [Sh.int .i64, Sh.sl 2]))) (PV.asInt (List.getD (PV.cells (enc y9)) 0 default))))) 0 (LR.w (timesR (dec (PV.agg [PV.int .i64 0, PV.sl 0 true []])) (dec (PV.agg (shAll (List.drop 1 (PV.cells (enc y8))) 0 [Sh.int .i64, Sh.sl 2]))) (PV.asInt (List.getD (PV.cells (enc y9)) 0 default)))))])), (.obj (.row false 87 2 (List.map enc (LR.ts (timesR (dec (PV.agg [PV.int .i64 0, PV.sl 0 true []])) (dec (PV.agg (shAll (List.drop 1 (PV.cells (enc y8))) 0 [Sh.int .i64, Sh.sl 2]))) (PV.asInt (List.getD (PV.cells (enc y9)) 0 default)))))))]))))) else (At T_rcombo 0 (endO' 0 rs_rcombo G) ic_rcombo 0 65 [(0, (.pv (.sl 3 false (List.map enc fs)))), (1, (.pv (.sl 1 false (List.map enc ms)))), (4, (.ptr 0 0)), (6, (.ptr 1 0)), (7, (.pv (.int .i64 (IntKind.wrap IntKind.i64 (i + 1)))))] [(.obj (.box [(.pv (.int .i64 0)), (.pv (.sl 0 true []))])), (.obj (.box [(.pv (.int .i64 0)), (.pv (.sl 0 true []))]))])))))))))))) else (G (((.tup [(.pv (.agg [(.int .i64 0), (.sl 0 true [])])), (.pv (.bool true))]), ([], []))))) : At T_rcombo 0 (endO' 0 rs_rcombo G) ic_rcombo 0 65 [(0, .pv (enc fs)), (1, .pv (enc ms)), (4, .ptr 0 0), (6, .ptr 1 0), (7, .pv (.int .i64 i))] [.obj (.box [.pv (.int .i64 0), .pv (.sl 0 true [])]), .obj (.box [.pv (.int .i64 0), .pv (.sl 0 true [])])] := At.to (.lit (.ask (.req (.abs (Int) (fun YY => AV.pv (PV.rptr (PV.cells ((enc) YY)))) (.lit (.lit (.ask (.lit (.lit (.lit (.lit (.lit (.lit (.lit (.lit (.lit (.lit (.lit (.lit (.lit (.lit (.nil))))))))))))))) (.lit (.lit (.req (.abs (Int) (fun YY => AV.pv (PV.rptr (PV.cells ((enc) YY)))) (.lit (.lit (.lit (.lit (.lit (.ask (.lit (.lit (.lit (.lit (.lit (.lit (.lit (.lit (.nil))))))))) (.lit (.lit (.req (.abs (Int) (fun YY => AV.pv (PV.rptr (PV.cells ((enc) YY)))) (.lit (.lit (.lit (.lit (.lit (.ask (.lit (.lit (.req (.abs (Fact) (fun YY => AV.pv (PV.rptr (PV.cells ((enc) YY)))) (.lit (.lit (.lit (.lit (.lit (.lit (.lit (.ask (.nil) (.req (.abs (Int) (fun YY => AV.pv (PV.rptr (PV.cells ((enc) YY)))) (.lit (.lit (.ask (.req (.abs (Fact) (fun YY => AV.pv (PV.rptr (PV.cells ((enc) YY)))) (.lit (.req (.abs (Int) (fun YY => AV.pv (PV.rptr (PV.cells ((enc) YY)))) (.lit (.req (.keep (.lit (.nil)))))))))) (.lit (.nil))))))))))))))))))) (.lit (.lit (.lit (.lit (.lit (.lit (.lit (.lit (.lit (.req (.abs (Int) (fun YY => AV.pv (PV.rptr (PV.cells ((enc) YY)))) (.lit (.lit (.ask (.req (.abs (Fact) (fun YY => AV.pv (PV.rptr (PV.cells ((enc) YY)))) (.lit (.req (.abs (Int) (fun YY => AV.pv (PV.rptr (PV.cells ((enc) YY)))) (.lit (.req (.keep (.lit (.nil)))))))))) (.lit (.nil))))))))))))))))))))))))))))))))))))))))) (.nil))) h (by kernel_rfl)
theorem rcombo_h0b {G : AV × List AObj × List AObj -> Prop} (fs : List Fact) (ms : List Int) (c : Int) (q w : Nat) (ts : List Coef) (i : Int) (h : if (decide (i < (↑(List.length (List.map enc ms)) : Int))) = true then (decide (0 <= i) && decide (Int.toNat i < List.length (List.map enc ms)) && Enc.sz Int == 1) = true ∧ (∃ y0 : Int, AV.pv (PV.rptr (PV.cells (List.getD (List.map enc ms) (Int.toNat i) default))) = AV.pv (PV.rptr (PV.cells ((enc) y0))) ∧ (if (decide (PV.asInt (List.getD (PV.cells (enc y0)) 0 default) < (-1000000000 : Int))) = true then G (((.tup [(.pv (.agg [(.int .i64 0), (.sl 0 true [])])), (.pv (.bool false))]), ([], []))) else ((decide (0 <= i) && decide (Int.toNat i < List.length (List.map enc ms)) && Enc.sz Int == 1) = true ∧ (∃ y1 : Int, AV.pv (PV.rptr (PV.cells (List.getD (List.map enc ms) (Int.toNat i) default))) = AV.pv (PV.rptr (PV.cells ((enc) y1))) ∧ (if (decide (PV.asInt (List.getD (PV.cells (enc y1)) 0 default) > 1000000000)) = true then G (((.tup [(.pv (.agg [(.int .i64 0), (.sl 0 true [])])), (.pv (.bool false))]), ([], []))) else ((decide (0 <= i) && decide (Int.toNat i < List.length (List.map enc ms)) && Enc.sz Int == 1) = true ∧ (∃ y2 : Int, AV.pv (PV.rptr (PV.cells (List.getD (List.map enc ms) (Int.toNat i) default))) = AV.pv (PV.rptr (PV.cells ((enc) y2))) ∧ (if (decide (PV.asInt (List.getD (PV.cells (enc y2)) 0 default) < 0)) = true then (decide (0 <= i) && decide (Int.toNat i < List.length (List.map enc fs)) && Enc.sz Fact == 3) = true ∧ (∃ y3 : Fact, AV.pv (PV.rptr (PV.cells (List.getD (List.map enc fs) (Int.toNat i) default))) = AV.pv (PV.rptr (PV.cells ((enc) y3))) ∧ (if (!PV.asBool (List.getD (List.drop 0 (PV.cells (enc y3))) 0 default)) = true then G (((.tup [(.pv (.agg [(.int .i64 0), (.sl 0 true [])])), (.pv (.bool false))]), ([], []))) else ((decide (0 <= i) && decide (Int.toNat i < List.length (List.map enc ms)) && Enc.sz Int == 1) = true ∧ (∃ y4 : Int, AV.pv (PV.rptr (PV.cells (List.getD (List.map enc ms) (Int.toNat i) default))) = AV.pv (PV.rptr (PV.cells ((enc) y4))) ∧ (if (PV.asInt (List.getD (PV.cells (enc y4)) 0 default) != 0) = true then (decide (0 <= i) && decide (Int.toNat i < List.length (List.map enc fs)) && Enc.sz Fact == 3) = true ∧ (∃ y5 : Fact, AV.pv (PV.rptr (PV.cells (List.getD (List.map enc fs) (Int.toNat i) default))) = AV.pv (PV.rptr (PV.cells ((enc) y5))) ∧ ((decide (0 <= i) && decide (Int.toNat i < List.length (List.map enc ms)) && Enc.sz Int == 1) = true ∧ (∃ y6 : Int, AV.pv (PV.rptr (PV.cells (List.getD (List.map enc ms) (Int.toNat i) default))) = AV.pv (PV.rptr (PV.cells ((enc) y6))) ∧ ((pre_times [(.agg [(.pv (.int .i64 c)), (.row 0 q 0 w)]), (.pv (.agg [(.int .i64 (PV.asInt (List.getD (List.drop 1 (PV.cells (enc y5))) 0 default))), (.sl 2 false (PV.asXs (List.getD (List.drop 1 (PV.cells (enc y5))) (0 + 1) default)))])), (.pv (.int .i64 (PV.asInt (List.getD (PV.cells (enc y6)) 0 default))))] [(.row false 87 2 (List.map enc ts))]) = true ∧ (At T_rcombo 0 (endO' 0 rs_rcombo G) ic_rcombo 0 65 [(0, (.pv (.sl 3 false (List.map enc fs)))), (1, (.pv (.sl 1 false (List.map enc ms)))), (4, (.ptr 0 0)), (6, (.ptr 1 0)), (7, (.pv (.int .i64 (IntKind.wrap IntKind.i64 (i + 1)))))] [(.obj (.box [(.pv (.int .i64 0)), (.pv (.sl 0 true []))])), (.obj (.box [(.pv (.int .i64 (LR.k (timesR (linW c w (List.map enc ts)) (dec (PV.agg (shAll (List.drop 1 (PV.cells (enc y5))) 0 [Sh.int .i64, Sh.sl 2]))) (PV.asInt (List.getD (PV.cells (enc y6)) 0 default)))))), (.row 2 (List.length (LR.ts (timesR (linW c w (List.map enc ts)) (dec (PV.agg (shAll (List.drop 1 (PV.cells (enc y5))) 0 [Sh.int .i64, Sh.sl 2]))) (PV.asInt (List.getD (PV.cells (enc y6)) 0 default))))) 0 (LR.w (timesR (linW c w (List.map enc ts)) (dec (PV.agg (shAll (List.drop 1 (PV.cells (enc y5))) 0 [Sh.int .i64, Sh.sl 2]))) (PV.asInt (List.getD (PV.cells (enc y6)) 0 default)))))])), (.obj (.row false 87 2 (List.map enc (LR.ts (timesR (linW c w (List.map enc ts)) (dec (PV.agg (shAll (List.drop 1 (PV.cells (enc y5))) 0 [Sh.int .i64, Sh.sl 2]))) (PV.asInt (List.getD (PV.cells (enc y6)) 0 default)))))))]))))) else (At T_rcombo 0 (endO' 0 rs_rcombo G) ic_rcombo 0 65 [(0, (.pv (.sl 3 false (List.map enc fs)))), (1, (.pv (.sl 1 false (List.map enc ms)))), (4, (.ptr 0 0)), (6, (.ptr 1 0)), (7, (.pv (.int .i64 (IntKind.wrap IntKind.i64 (i + 1)))))] [(.obj (.box [(.pv (.int .i64 0)), (.pv (.sl 0 true []))])), (.obj (.box [(.pv (.int .i64 c)), (.row 2 q 0 w)])), (.obj (.row false 87 2 (List.map enc ts)))])))))) else ((decide (0 <= i) && decide (Int.toNat i < List.length (List.map enc ms)) && Enc.sz Int == 1) = true ∧ (∃ y7 : Int, AV.pv (PV.rptr (PV.cells (List.getD (List.map enc ms) (Int.toNat i) default))) = AV.pv (PV.rptr (PV.cells ((enc) y7))) ∧ (if (PV.asInt (List.getD (PV.cells (enc y7)) 0 default) != 0) = true then (decide (0 <= i) && decide (Int.toNat i < List.length (List.map enc fs)) && Enc.sz Fact == 3) = true ∧ (∃ y8 : Fact, AV.pv (PV.rptr (PV.cells (List.getD (List.map enc fs) (Int.toNat i) default))) = AV.pv (PV.rptr (PV.cells ((enc) y8))) ∧ ((decide (0 <= i) && decide (Int.toNat i < List.length (List.map enc ms)) && Enc.sz Int == 1) = true ∧ (∃ y9 : Int, AV.pv (PV.rptr (PV.cells (List.getD (List.map enc ms) (Int.toNat i) default))) = AV.pv (PV.rptr (PV.cells ((enc) y9))) ∧ ((pre_times [(.agg [(.pv (.int .i64 c)), (.row 0 q 0 w)]), (.pv (.agg [(.int .i64 (PV.asInt (List.getD (List.drop 1 (PV.cells (enc y8))) 0 default))), (.sl 2 false (PV.asXs (List.getD (List.drop 1 (PV.cells (enc y8))) (0 + 1) default)))])), (.pv (.int .i64 (PV.asInt (List.getD (PV.cells (enc y9)) 0 default))))] [(.row false 87 2 (List.map enc ts))]) = true ∧ (At T_rcombo 0 (endO' 0 rs_rcombo G) ic_rcombo 0 65 [(0, (.pv (.sl 3 false (List.map enc fs)))), (1, (.pv (.sl 1 false (List.map enc ms)))), (4, (.ptr 0 0)), (6, (.ptr 1 0)), (7, (.pv (.int .i64 (IntKind.wrap IntKind.i64 (i + 1)))))] [(.obj (.box [(.pv (.int .i64 0)), (.pv (.sl 0 true []))])), (.obj (.box [(.pv (.int .i64 (LR.k (timesR (linW c w (List.map enc ts)) (dec (PV.agg (shAll (List.drop 1 (PV.cells (enc y8))) 0 [Sh.int .i64, Sh.sl 2]))) (PV.asInt (List.getD (PV.cells (enc y9)) 0 default)))))), (.row 2 (List.length (LR.ts (timesR (linW c w (List.map enc ts)) (dec (PV.agg (shAll (List.drop 1 (PV.cells (enc y8))) 0 [Sh.int .i64, Sh.sl 2]))) (PV.asInt (List.getD (PV.cells (enc y9)) 0 default))))) 0 (LR.w (timesR (linW c w (List.map enc ts)) (dec (PV.agg (shAll (List.drop 1 (PV.cells (enc y8))) 0 [Sh.int .i64, Sh.sl 2]))) (PV.asInt (List.getD (PV.cells (enc y9)) 0 default)))))])), (.obj (.row false 87 2 (List.map enc (LR.ts (timesR (linW c w (List.map enc ts)) (dec (PV.agg (shAll (List.drop 1 (PV.cells (enc y8))) 0 [Sh.int .i64, Sh.sl 2]))) (PV.asInt (List.getD (PV.cells (enc y9)) 0 default)))))))]))))) else (At T_rcombo 0 (endO' 0 rs_rcombo G) ic_rcombo 0 65 [(0, (.pv (.sl 3 false (List.map enc fs)))), (1, (.pv (.sl 1 false (List.map enc ms)))), (4, (.ptr 0 0)), (6, (.ptr 1 0)), (7, (.pv (.int .i64 (IntKind.wrap IntKind.i64 (i + 1)))))] [(.obj (.box [(.pv (.int .i64 0)), (.pv (.sl 0 true []))])), (.obj (.box [(.pv (.int .i64 c)), (.row 2 q 0 w)])), (.obj (.row false 87 2 (List.map enc ts)))])))))))))))) else (G (((.tup [(.agg [(.pv (.int .i64 c)), (.row 0 q 0 w)]), (.pv (.bool true))]), ([], [(.row false 87 2 (List.map enc ts))]))))) : At T_rcombo 0 (endO' 0 rs_rcombo G) ic_rcombo 0 65 [(0, .pv (enc fs)), (1, .pv (enc ms)), (4, .ptr 0 0), (6, .ptr 1 0), (7, .pv (.int .i64 i))] [.obj (.box [.pv (.int .i64 0), .pv (.sl 0 true [])]), .obj (.box [.pv (.int .i64 c), .row 2 q 0 w]), .obj (.row false 87 2 (ts.map enc))] := At.to (.lit (.ask (.req (.abs (Int) (fun YY => AV.pv (PV.rptr (PV.cells ((enc) YY)))) (.lit (.lit (.ask (.lit (.lit (.lit (.lit (.lit (.lit (.lit (.lit (.lit (.lit (.lit (.lit (.lit (.lit (.nil))))))))))))))) (.lit (.lit (.req (.abs (Int) (fun YY => AV.pv (PV.rptr (PV.cells ((enc) YY)))) (.lit (.lit (.lit (.lit (.lit (.ask (.lit (.lit (.lit (.lit (.lit (.lit (.lit (.lit (.nil))))))))) (.lit (.lit (.req (.abs (Int) (fun YY => AV.pv (PV.rptr (PV.cells ((enc) YY)))) (.lit (.lit (.lit (.lit (.lit (.ask (.lit (.lit (.req (.abs (Fact) (fun YY => AV.pv (PV.rptr (PV.cells ((enc) YY)))) (.lit (.lit (.lit (.lit (.lit (.lit (.lit (.ask (.nil) (.req (.abs (Int) (fun YY => AV.pv (PV.rptr (PV.cells ((enc) YY)))) (.lit (.lit (.ask (.req (.abs (Fact) (fun YY => AV.pv (PV.rptr (PV.cells ((enc) YY)))) (.lit (.req (.abs (Int) (fun YY => AV.pv (PV.rptr (PV.cells ((enc) YY)))) (.lit (.req (.keep (.lit (.nil)))))))))) (.lit (.nil))))))))))))))))))) (.lit (.lit (.lit (.lit (.lit (.lit (.lit (.lit (.lit (.req (.abs (Int) (fun YY => AV.pv (PV.rptr (PV.cells ((enc) YY)))) (.lit (.lit (.ask (.req (.abs (Fact) (fun YY => AV.pv (PV.rptr (PV.cells ((enc) YY)))) (.lit (.req (.abs (Int) (fun YY => AV.pv (PV.rptr (PV.cells ((enc) YY)))) (.lit (.req (.keep (.lit (.nil)))))))))) (.lit (.nil))))))))))))))))))))))))))))))))))))))))) (.nil))) h (by kernel_rfl)
end Go.Pl

namespace Go.Pl
open Go.RowKit
open Enc (enc dec is)
open EncL (encL decL isL)
def heapC (s : Option LR) : List Slot := .obj (.box [.pv (.int .i64 0), .pv (.sl 0 true [])]) :: match s with
 | none => [.obj (.box [.pv (.int .i64 0), .pv (.sl 0 true [])])]
 | some r => [.obj (.box [.pv (.int .i64 r.k), .row 2 r.ts.length 0 r.w]), .obj (.row false 87 2 (r.ts.map enc))]
def okS (n : Nat) : Option LR -> Prop
 | none => True
 | some r => r.w <= r.ts.length ∧ r.w <= n
theorem timesR_w (k : Int) : ∀ (x : List Coef) (r : LR) (n : Nat), r.w <= r.ts.length -> r.w <= n -> (x.foldl (plusRN k) r).w <= (x.foldl (plusRN k) r).ts.length ∧ (x.foldl (plusRN k) r).w <= n + x.length
 | [], r, n, h1, h2 => ⟨h1, h2⟩
 | t :: x, r, n, h1, h2 => by
  have hp := plusR_w r.view t.v (w64 (k * t.c))
  have hv : r.view.t.length <= r.w := by show (r.ts.take r.w).length <= _; simp; omega
  have := timesR_w k x (plusRN k r t) (n + 1) hp.1 (by have := hp.2; show (plusR r.view t.v (w64 (k * t.c))).w <= _; omega)
  rw [List.foldl_cons, List.length_cons]
  exact ⟨this.1, by omega⟩
theorem timesR_len (l x : Lin) (k : Int) : (timesR l x k).w <= (timesR l x k).ts.length ∧ (timesR l x k).w <= l.t.length + x.t.length := timesR_w k x.t _ _ (Nat.le_refl _) (Nat.le_refl _)
def restC (s : Option LR) (qs : List (Int × Fact)) : AV × List AObj × List AObj := if qs.all okQ then outR (qs.foldl rstep s) else rcombN
theorem dec_factL (f : Fact) : (dec (PV.agg (shAll (List.drop 1 (PV.cells (enc f))) 0 [Sh.int .i64, Sh.sl 2])) : Lin) = f.l := Enc.dec_enc f.l
theorem restC_bad {s : Option LR} {q : Int × Fact} {qs : List (Int × Fact)} (h : okQ q = false) : restC s (q :: qs) = rcombN := by simp [restC, h]
theorem restC_ok {s : Option LR} {q : Int × Fact} {qs : List (Int × Fact)} (h : okQ q = true) : restC s (q :: qs) = restC (rstep s q) qs := by
 unfold restC
 rw [List.all_cons, h, Bool.true_and, List.foldl_cons]
theorem rcombo_loop (fs : List Fact) (ms : List Int) (hl : ms.length = fs.length) (hf : fs.length <= 300) (hv : valid7 fs = true) : ∀ (m i : Nat) (s : Option LR), m + i = ms.length -> okS (12 * i) s ->
    At T_rcombo 0 (endO' 0 rs_rcombo (fun z => z = restC s ((ms.zip fs).drop i))) ic_rcombo 0 65 [(0, .pv (enc fs)), (1, .pv (enc ms)), (4, .ptr 0 0), (6, .ptr 1 0), (7, .pv (.int .i64 i))] (heapC s) := by
  intro m
  induction m with
  | zero =>
    intro i s hi hs
    have hd : (ms.zip fs).drop i = [] := List.drop_of_length_le (by simp; omega)
    rw [hd]
    cases s with
    | none => exact rcombo_h0a fs ms i (iteF (lt_no (by omega)) rfl)
    | some r => exact rcombo_h0b fs ms r.k r.ts.length r.w r.ts i (iteF (lt_no (by omega)) rfl)
  | succ m ih =>
    intro i s hi hs
    have hlt : i < ms.length := by omega
    have hlf : i < fs.length := by omega
    have hd : (ms.zip fs).drop i = (ms[i], fs[i]) :: (ms.zip fs).drop (i + 1) := by
      rw [List.drop_eq_getElem_cons (by simp; omega)]
      simp
    rw [hd]
    have hvf : validL fs[i].l = true := by
      simp only [valid7, List.all_eq_true] at hv
      exact hv _ (List.getElem_mem hlf)
    have hlen := valid_len hvf
    have hn : okS (12 * (i + 1)) (rstep s (ms[i], fs[i])) := by
      unfold rstep
      split
      · cases s with
        | none => trivial
        | some r => exact ⟨hs.1, by have := hs.2; omega⟩
      · have ht := timesR_len ((s.map LR.view).getD ⟨0, []⟩) fs[i].l ms[i]
        refine ⟨ht.1, ?_⟩
        have h2 : ((s.map LR.view).getD ⟨0, []⟩).t.length <= 12 * i := by
          cases s with
          | none => exact Nat.zero_le _
          | some r => show (r.ts.take r.w).length <= _; have := hs.2; simp; omega
        exact Nat.le_trans ht.2 (by show _ + fs[i].l.t.length <= _; omega)
    have go := ih (i + 1) (rstep s (ms[i], fs[i])) (by omega) hn
    have bad : (okQ (ms[i], fs[i]) = false) -> (restC s ((ms[i], fs[i]) :: (ms.zip fs).drop (i + 1)) = rcombN) := fun h => restC_bad h
    rw [<- next (show i < 9223372036854775807 by omega)] at go
    cases s with
    | none =>
      refine rcombo_h0a fs ms i (iteT (lt_ok hlt) ⟨idx_ok hlt rfl, el_ex hlt (iteD (fun h1 => ?_) fun h1 => ⟨idx_ok hlt rfl, el_ex hlt (iteD (fun h2 => ?_) fun h2 => ⟨idx_ok hlt rfl, el_ex hlt (iteD (fun h3 => ⟨idx_ok hlf rfl, el_ex hlf (iteN (fun h4 => ?_) fun h4 => ?_)⟩) fun h3 => ?_)⟩)⟩)⟩)
      · have h1 : ms[i] < -1000000000 := h1
        exact (bad (by simp [okQ, h1])).symm
      · have h2 : ms[i] > 1000000000 := h2
        exact (bad (by simp [okQ, h2])).symm
      · have h3 : ms[i] < 0 := h3
        have h4 : fs[i].eq = false := h4
        exact (bad (by simp [okQ, h3, h4])).symm
      all_goals
        have h1 : ¬ ms[i] < -1000000000 := h1
        have h2 : ¬ ms[i] > 1000000000 := h2
        have hok : okQ (ms[i], fs[i]) = true := by
          first
          | (have h4 : fs[i].eq = true := h4
             simp [okQ, h1, h2, h4])
          | (have h3 : ¬ ms[i] < 0 := h3
             simp [okQ, h1, h2, h3])
        rw [restC_ok hok]
        refine ⟨idx_ok hlt rfl, el_ex hlt (iteC (fun hm => ⟨idx_ok hlf rfl, el_ex hlf ⟨idx_ok hlt rfl, el_ex hlt ⟨?_, ?_⟩⟩⟩) fun hm => ?_)⟩
        · have hp : pre_times [.pv zeroL, .pv (enc fs[i].l), .pv (.int .i64 ms[i])] [] = true := by
            show (true && can Lin (enc fs[i].l) && true && decide ((dec (enc fs[i].l : PV) : Lin).t.length <= 500000)) = true
            rw [can_enc, Enc.dec_enc]
            simp; omega
          exact hp
        · have hm : ms[i] ≠ 0 := by
            intro e
            have : (ms[i] != 0) = true := hm
            simp [e] at this
          have e : rstep none (ms[i], fs[i]) = some (timesR ⟨0, []⟩ fs[i].l ms[i]) := if_neg hm
          rw [e] at go ⊢
          rw [dec_factL, show (dec (PV.agg [PV.int .i64 0, PV.sl 0 true []]) : Lin) = ⟨0, []⟩ from rfl]
          exact go
        · have hm : ms[i] = 0 := by
            have : ¬ (ms[i] != 0) = true := hm
            simpa using this
          have e : rstep none (ms[i], fs[i]) = none := if_pos hm
          rw [e] at go ⊢
          exact go
    | some r =>
      refine rcombo_h0b fs ms r.k r.ts.length r.w r.ts i (iteT (lt_ok hlt) ⟨idx_ok hlt rfl, el_ex hlt (iteD (fun h1 => ?_) fun h1 => ⟨idx_ok hlt rfl, el_ex hlt (iteD (fun h2 => ?_) fun h2 => ⟨idx_ok hlt rfl, el_ex hlt (iteD (fun h3 => ⟨idx_ok hlf rfl, el_ex hlf (iteN (fun h4 => ?_) fun h4 => ?_)⟩) fun h3 => ?_)⟩)⟩)⟩)
      · have h1 : ms[i] < -1000000000 := h1
        exact (bad (by simp [okQ, h1])).symm
      · have h2 : ms[i] > 1000000000 := h2
        exact (bad (by simp [okQ, h2])).symm
      · have h3 : ms[i] < 0 := h3
        have h4 : fs[i].eq = false := h4
        exact (bad (by simp [okQ, h3, h4])).symm
      all_goals
        have h1 : ¬ ms[i] < -1000000000 := h1
        have h2 : ¬ ms[i] > 1000000000 := h2
        have hok : okQ (ms[i], fs[i]) = true := by
          first
          | (have h4 : fs[i].eq = true := h4
             simp [okQ, h1, h2, h4])
          | (have h3 : ¬ ms[i] < 0 := h3
             simp [okQ, h1, h2, h3])
        rw [restC_ok hok]
        refine ⟨idx_ok hlt rfl, el_ex hlt (iteC (fun hm => ⟨idx_ok hlf rfl, el_ex hlf ⟨idx_ok hlt rfl, el_ex hlt ⟨?_, ?_⟩⟩⟩) fun hm => ?_)⟩
        · have hp : pre_times [.agg [.pv (.int .i64 r.k), .row 0 r.ts.length 0 r.w], .pv (enc fs[i].l), .pv (.int .i64 ms[i])] [.row false 87 2 (r.ts.map enc)] = true := by
            show (can (List Coef) (.sl 2 false (r.ts.map enc)) && can Lin (enc fs[i].l) && (r.ts.map (enc : Coef -> PV)).length == r.ts.length && decide (r.w <= r.ts.length) && decide (r.w <= 500000) && decide ((dec (enc fs[i].l : PV) : Lin).t.length <= 500000)) = true
            have hw1 := hs.1
            have hw2 := hs.2
            rw [can_row, can_enc, Enc.dec_enc, List.length_map, decide_eq_true hw1, decide_eq_true (show r.w <= 500000 by omega), decide_eq_true (show fs[i].l.t.length <= 500000 by omega)]
            simp
          exact hp
        · have hm : ms[i] ≠ 0 := by
            intro e
            have : (ms[i] != 0) = true := hm
            simp [e] at this
          have e : rstep (some r) (ms[i], fs[i]) = some (timesR r.view fs[i].l ms[i]) := if_neg hm
          rw [e] at go ⊢
          rw [dec_factL, linW_eq]
          exact go
        · have hm : ms[i] = 0 := by
            have : ¬ (ms[i] != 0) = true := hm
            simpa using this
          have e : rstep (some r) (ms[i], fs[i]) = some r := if_pos hm
          rw [e] at go ⊢
          exact go
theorem rcombo_get (fs : List Fact) (ms : List Int) (hf : fs.length <= 300) (hv : valid7 fs = true) : Gets T_rcombo 0 (endO' 0 rs_rcombo (fun z => z = if okC fs ms then outR (rfold fs ms) else rcombN)) ic_rcombo [] (st0O nt_rcombo [.pv (enc fs), .pv (enc ms)] []) := by
 refine rcombo_s fs ms (iteC (fun h => ?_) fun h => ?_)
 ·have hne : ¬ ms.length = fs.length := by
   intro e
   simp [e] at h
  have : okC fs ms = false := by simp [okC, hne]
  rw [this]; rfl
 ·have he : ms.length = fs.length := by
   have : ((ms.length : Int)) = (fs.length : Int) := by simpa using h
   omega
  have := rcombo_loop fs ms he hf hv ms.length 0 none (by omega) trivial
  have e : restC none ((ms.zip fs).drop 0) = if okC fs ms then outR (rfold fs ms) else rcombN := by
   rw [List.drop_zero, restC, okC, decide_eq_true he, Bool.true_and]
   rfl
  rw [e] at this
  exact this
end Go.Pl

namespace Go.Pl
open Go.RowKit
open Enc (enc dec is)
open EncL (encL decL isL)
theorem gcd_inR {a b : Int} (ha : inR a = true) (hb : inR b = true) : inR ((Int.gcd a b : Nat) : Int) = true := by
 simp only [inR, Bool.and_eq_true, decide_eq_true_eq] at *
 by_cases h : a = 0
 ·subst h
  rw [Int.gcd_zero_left]
  omega
 ·have h1 : (Int.gcd a b) <= a.natAbs := Nat.le_of_dvd (by omega) (Nat.gcd_dvd_left _ _)
  omega
theorem rcut_l0 (fs : List Fact) (ms : List Int) (V : PV -> Prop) (c : Int) (w : Nat) (ts : List Coef) (hw : w <= ts.length) (hb : w <= 1000000) (hin : ∀ t ∈ ts.take w, inR t.c = true) : ∀ (m i : Nat) (g : Int), m + i = w -> inR g = true ->
  At T_rcutr 0 (endP' rs_rcutr V) ic_rcutr 1 78 [(4, .ptr 0 0), (6, .ptr 1 0), (8, .pv (.int .i64 ((((ts.take w).map (·.c)).drop i).foldl (fun g n => (Int.gcd g n : Int)) g))), (10, .pv (.int .i64 0))] [.obj (.box [.pv (.int .i64 0), .pv (.sl 0 true [])]), .obj (.box [.pv (.int .i64 c), .row 2 ts.length 0 w]), .obj (.row false 87 2 (ts.map enc))] ->
  At T_rcutr 0 (endP' rs_rcutr V) ic_rcutr 0 78 [(4, .ptr 0 0), (6, .ptr 1 0), (8, .pv (.int .i64 g)), (9, .pv (.int .i64 i))] [.obj (.box [.pv (.int .i64 0), .pv (.sl 0 true [])]), .obj (.box [.pv (.int .i64 c), .row 2 ts.length 0 w]), .obj (.row false 87 2 (ts.map enc))] := by
 intro m
 induction m with
 | zero =>
  intro i g hi hg H
  rw [List.drop_of_length_le (by simp; omega)] at H
  exact rcutr_h0 fs ms c ts.length w ts g i (iteF (by simp; omega) H)
 | succ m ih =>
  intro i g hi hg H
  have hlt : i < ts.length := by omega
  have hd : ((ts.take w).map (·.c)).drop i = ts[i].c :: ((ts.take w).map (·.c)).drop (i + 1) := by
   rw [List.drop_eq_getElem_cons (by simp; omega)]
   simp
  rw [hd, List.foldl_cons] at H
  have hc : inR ts[i].c = true := hin _ (by
   have : (ts.take w)[i]'(by simp; omega) = ts[i] := by simp
   rw [<- this]; exact List.getElem_mem _)
  refine rcutr_h0 fs ms c ts.length w ts g i ?_
  simp only [getD_z enc hlt]
  refine iteT (by simp; omega) ⟨by simp; omega, by simp; omega, rfl, pre_enc (g, ts[i].c, ()) rfl (by show (inR g && inR ts[i].c) = true; rw [hg, hc]; rfl), ex_enc (g, ts[i].c, ()) rfl ?_⟩
  rw [next (by omega)]
  exact ih (i + 1) _ (by omega) (gcd_inR hg hc) H
theorem set_c (ts : List Coef) (i : Nat) (h : i < ts.length) (v : Int) : List.set (List.map enc ts) i (PV.withCells (enc ts[i]) (splice (PV.cells (enc ts[i])) (0 + 1) (PV.cells (PV.int .i64 v)))) = List.map enc (ts.set i ⟨ts[i].v, v⟩) := by
 rw [List.map_set]
 rfl
def cutV (k : Int) (g : Int) (vs : List Coef) : Lin × Int := if validL ⟨(divI k g).1, vs⟩ then (⟨(divI k g).1, vs⟩, 0) else (⟨0, []⟩, 3)
theorem rcut_l1 (fs : List Fact) (ms : List Int) (c : Int) (w : Nat) (o : List Coef) (hw : w <= o.length) (hb : w <= 1000000) (g : Int) (hg : g ≠ 0) : ∀ (m i : Nat) (ts : List Coef), m + i = w -> ts.length = o.length -> ts.take i = (o.take i).map (fun t => ⟨t.v, w64 (t.c.tdiv g)⟩) -> ts.drop i = o.drop i ->
  At T_rcutr 0 (endP' rs_rcutr (Fits (cutV c g ((o.take w).map fun t => ⟨t.v, w64 (t.c.tdiv g)⟩)))) ic_rcutr 1 78 [(4, .ptr 0 0), (6, .ptr 1 0), (8, .pv (.int .i64 g)), (10, .pv (.int .i64 i))] [.obj (.box [.pv (.int .i64 0), .pv (.sl 0 true [])]), .obj (.box [.pv (.int .i64 c), .row 2 o.length 0 w]), .obj (.row false 87 2 (ts.map enc))] := by
 intro m
 induction m with
 | zero =>
  intro i ts hi hts h1 h2
  have hi : i = w := by omega
  subst hi
  refine rcutr_h1 fs ms c o.length i ts g i (iteF (by simp) (ex_enc (c, g, ()) rfl ?_))
  have e : List.drop 0 (List.take i (List.map (enc : Coef -> PV) ts)) = ((o.take i).map fun t => (⟨t.v, w64 (t.c.tdiv g)⟩ : Coef)).map enc := by rw [List.drop_zero, <- List.map_take, h1]
  rw [e]
  have hl : (List.map (enc : Coef -> PV) ts).length = o.length := by simp [hts]
  rw [hl]
  have hlen : ((o.take i).map fun t => (⟨t.v, w64 (t.c.tdiv g)⟩ : Coef)).length <= 1000000 := by simp; omega
  generalize (o.take i).map (fun t => (⟨t.v, w64 (t.c.tdiv g)⟩ : Coef)) = vs at hlen ⊢
  refine ⟨by simp, pre_enc ((⟨(divI c g).1, vs⟩ : Lin), ()) rfl (decide_eq_true (by show vs.length <= _; omega)), ex_enc ((⟨(divI c g).1, vs⟩ : Lin), ()) rfl (iteN (fun hv => ?_) fun hv => ⟨by simp, ?_⟩)⟩
  ·have hv : validL ⟨(divI c g).1, vs⟩ = false := hv
   have : cutV c g vs = (⟨0, []⟩, 3) := by unfold cutV; rw [hv]; rfl
   rw [this]
   exact ⟨rfl, rfl⟩
  ·have hv : validL ⟨(divI c g).1, vs⟩ = true := hv
   have : cutV c g vs = (⟨(divI c g).1, vs⟩, 0) := by unfold cutV; rw [hv]; rfl
   rw [this]
   exact fits_of (x := ((⟨(divI c g).1, vs⟩, 0) : Lin × Int)) rfl
 | succ m ih =>
  intro i ts hi hts h1 h2
  have hlo : i < o.length := by omega
  have hlt : i < ts.length := by omega
  have ei : ts[i] = o[i] := by
   have : (ts.drop i)[0]? = (o.drop i)[0]? := by rw [h2]
   simpa [hlt, hlo] using this
  refine rcutr_h1 fs ms c o.length w ts g i ?_
  simp only [getD_z enc hlt]
  refine iteT (by simp; omega) ⟨by simp [hts]; omega, by simp [hts]; omega, rfl, by simpa using hg, by simp [hts]; omega, ?_, ?_⟩
  ·simp only [List.length_map, hts, beq_self_eq_true, Bool.true_and, Nat.zero_add, Int.toNat_natCast, decide_eq_true hlo]
   rfl
  ·rw [Nat.zero_add, Int.toNat_natCast]
   have es := set_c ts i hlt (w64 (ts[i].c.tdiv g))
   rw [Nat.zero_add] at es
   have H := ih (i + 1) (ts.set i ⟨ts[i].v, w64 (ts[i].c.tdiv g)⟩) (by omega) (by simp [hts]) ?_ ?_
   ·rw [<- es] at H
    rw [next (by omega)]
    exact H
   ·rw [List.take_add_one, List.getElem?_set_self hlt, List.take_set_of_le (Nat.le_refl i), h1, List.take_add_one, List.getElem?_eq_getElem hlo, List.map_append, ei]
    rfl
   ·rw [List.drop_set_of_lt (by omega)]
    have := congrArg (List.drop 1) h2
    simpa [List.drop_drop, Nat.add_comm] using this
theorem terms_in {m : List (Str × Int)} (hd : (keysM m).Nodup) (h : (valsM (nzM m)).all inR = true) : ∀ t ∈ termsM m, inR t.c = true := by
 intro t ht
 rw [terms_names] at ht
 obtain ⟨s, hs, rfl⟩ := List.mem_map.1 ht
 have hs := ((List.mergeSort_perm _ _).mem_iff).1 hs
 obtain ⟨p, hp, rfl⟩ := List.mem_map.1 hs
 have e := atM_mem hd p (List.mem_filter.1 hp).1
 show inR (atM m p.1.s) = true
 rw [e]
 simp only [List.all_eq_true] at h
 exact h _ (List.mem_map.2 ⟨p, hp, rfl⟩)
theorem fold_okS : ∀ (qs : List (Int × Fact)) (s : Option LR) (n : Nat), okS n s -> (∀ q ∈ qs, q.2.l.t.length <= 12) -> okS (n + 12 * qs.length) (qs.foldl rstep s)
 | [], s, n, h, _ => h
 | q :: qs, s, n, h, hq => by
  have h1 : okS (n + 12) (rstep s q) := by
   unfold rstep
   split
   ·cases s with
    | none => trivial
    | some r => exact ⟨h.1, by have := h.2; omega⟩
   ·have ht := timesR_len ((s.map LR.view).getD ⟨0, []⟩) q.2.l q.1
    have hl := hq q (by simp)
    have h2 : ((s.map LR.view).getD ⟨0, []⟩).t.length <= n := by
     cases s with
     | none => exact Nat.zero_le _
     | some r => show (r.ts.take r.w).length <= _; have := h.2; simp; omega
    exact ⟨ht.1, Nat.le_trans ht.2 (by omega)⟩
  have := fold_okS qs (rstep s q) (n + 12) h1 fun r hr => hq r (by simp [hr])
  rw [List.foldl_cons, List.length_cons]
  rw [show n + 12 * (qs.length + 1) = n + 12 + 12 * qs.length by omega]
  exact this
theorem rcutn_run (fs : List Fact) (ms : List Int) (hf : factsSm fs = true) (hn : fs.length <= 300) (hc : okC fs ms = false) : Gets T_rcutn 0 (endP' rs_rcutn (Fits (cutL fs ms))) ic_rcutn [] (st0 nt_rcutn (encL ((fs, ms, ()) : List Fact × List Int × Unit))) := by
 refine rcutn_s fs ms ⟨pre_enc (fs, ()) rfl hf, ex_enc (fs, ()) rfl (iteN (fun hv => ?_) fun hv => ⟨?_, ?_⟩)⟩
 ·have hv : valid7 fs = false := hv
  have : cutL fs ms = (⟨0, []⟩, 1) := by unfold cutL; rw [hv]; rfl
  rw [this]
  exact ⟨rfl, rfl⟩
 ·have hv : valid7 fs = true := hv
  show (rcPre (enc fs) (enc ms) && !okC (dec (enc fs : PV)) (dec (enc ms : PV))) = true
  rw [rcPre_enc hn hv, Enc.dec_enc, Enc.dec_enc, hc]; rfl
 ·have hv : valid7 fs = true := hv
  have : cutL fs ms = (⟨0, []⟩, 18) := by unfold cutL; rw [hv, hc]; rfl
  rw [this]
  exact ⟨rfl, rfl⟩
theorem rcutz_run (fs : List Fact) (ms : List Int) (hf : factsSm fs = true) (hn : fs.length <= 300) (hc : okC fs ms = true) (hz : (rfold fs ms).isNone = true) : Gets T_rcutz 0 (endP' rs_rcutz (Fits (cutL fs ms))) ic_rcutz [] (st0 nt_rcutz (encL ((fs, ms, ()) : List Fact × List Int × Unit))) := by
 refine rcutz_s fs ms ⟨pre_enc (fs, ()) rfl hf, ex_enc (fs, ()) rfl (iteN (fun hv => ?_) fun hv => ⟨?_, ?_⟩)⟩
 ·have hv : valid7 fs = false := hv
  have : cutL fs ms = (⟨0, []⟩, 1) := by unfold cutL; rw [hv]; rfl
  rw [this]
  exact ⟨rfl, rfl⟩
 ·have hv : valid7 fs = true := hv
  show (rcPre (enc fs) (enc ms) && okC (dec (enc fs : PV)) (dec (enc ms : PV)) && (rfold (dec (enc fs : PV)) (dec (enc ms : PV))).isNone) = true
  rw [rcPre_enc hn hv, Enc.dec_enc, Enc.dec_enc, hc, hz]; rfl
 ·have hv : valid7 fs = true := hv
  have hr : (rcomb fs ms).t = [] := by unfold rcomb; rw [Option.isNone_iff_eq_none.1 hz]; rfl
  have : cutL fs ms = (⟨0, []⟩, 18) := by rw [<- rcut_eq]; unfold rcutL; rw [hv, hc, if_pos rfl, if_pos rfl, if_pos hr]
  rw [this]
  exact ⟨rfl, rfl⟩
theorem rcutr_run (fs : List Fact) (ms : List Int) (hf : factsSm fs = true) (hn : fs.length <= 300) (hc : okC fs ms = true) (hz : (rfold fs ms).isSome = true) : Gets T_rcutr 0 (endP' rs_rcutr (Fits (cutL fs ms))) ic_rcutr [] (st0 nt_rcutr (encL ((fs, ms, ()) : List Fact × List Int × Unit))) := by
 refine rcutr_s fs ms ⟨pre_enc (fs, ()) rfl hf, ex_enc (fs, ()) rfl (iteN (fun hv => ?_) fun hv => ⟨?_, ?_⟩)⟩
 ·have hv : valid7 fs = false := hv
  have : cutL fs ms = (⟨0, []⟩, 1) := by unfold cutL; rw [hv]; rfl
  rw [this]
  exact ⟨rfl, rfl⟩
 ·have hv : valid7 fs = true := hv
  show (rcPre (enc fs) (enc ms) && okC (dec (enc fs : PV)) (dec (enc ms : PV)) && (rfold (dec (enc fs : PV)) (dec (enc ms : PV))).isSome) = true
  rw [rcPre_enc hn hv, Enc.dec_enc, Enc.dec_enc, hc, hz]; rfl
 ·have hv : valid7 fs = true := hv
  obtain ⟨r, hr⟩ := Option.isSome_iff_exists.1 hz
  have et : theR (dec (enc fs : PV)) (dec (enc ms : PV)) = r := by unfold theR; rw [Enc.dec_enc, Enc.dec_enc, hr]; rfl
  rw [et]
  have ev : rcomb fs ms = r.view := by unfold rcomb viewO; rw [hr]; rfl
  obtain ⟨b1, b2, _⟩ := cut_hb hn hc hv
  obtain ⟨e1, e2⟩ := rcomb_eq (ms := ms) hv
  have hd : (keysM (cfold fs ms).2).Nodup := fold_nodup _ _ _ (by simp [keysM])
  have hin := terms_in hd b2
  rw [<- e2] at hin
  have hnz : ∀ t ∈ (rcomb fs ms).t, t.c ≠ 0 := by rw [e2]; exact (terms_rep hd).2
  have hok : okS (0 + 12 * (ms.zip fs).length) (rfold fs ms) := fold_okS (ms.zip fs) none 0 trivial fun q hq => by
   have hm := (List.of_mem_zip (a := q.1) (b := q.2) hq).2
   simp only [valid7, List.all_eq_true] at hv
   exact valid_len (hv _ hm)
  rw [hr] at hok
  have hw : r.w <= r.ts.length := hok.1
  have hb : r.w <= 1000000 := by have := hok.2; simp at this; omega
  have eC : cutL fs ms = if r.view.t = [] then (⟨0, []⟩, 18) else cutV r.k (gcdsI (r.view.t.map (·.c))) (r.view.t.map fun t => ⟨t.v, w64 (t.c.tdiv (gcdsI (r.view.t.map (·.c))))⟩) := by
   rw [<- rcut_eq]; unfold rcutL; rw [hv, hc, if_pos rfl, if_pos rfl, ev]; rfl
  rw [ev] at hin hnz
  have hvl : r.view.t.length = r.w := by show (r.ts.take r.w).length = _; simp; omega
  rw [eC]
  refine iteC (fun h0 => ?_) fun h0 => ?_
  ·have h0 : r.view.t = [] := by
    have h : ((r.w - 0 : Nat) : Int) = 0 := by simpa using h0
    exact List.length_eq_zero_iff.1 (by omega)
   rw [if_pos h0]
   exact ⟨rfl, rfl⟩
  ·have h0 : r.view.t ≠ [] := by
    intro e
    have e : r.w = 0 := by rw [<- hvl, e]; rfl
    simp [e] at h0
   rw [if_neg h0]
   have hg : gcdsI (r.view.t.map (·.c)) ≠ 0 := gcds_ne (by
    cases h : r.view.t with
    | nil => exact absurd h h0
    | cons t l => exact ⟨t.c, by simp, hnz t (by rw [h]; simp)⟩)
   have h1 := rcut_l1 fs ms r.k r.w r.ts hw hb (gcdsI (r.view.t.map (·.c))) hg r.w 0 r.ts (by omega) rfl (by simp) rfl
   exact rcut_l0 fs ms _ r.k r.w r.ts hw hb hin r.w 0 0 (by omega) rfl h1
end Go.Pl

namespace Go.Pl
open Go.RowKit
open Enc (enc dec is)
open EncL (encL decL isL)
theorem eq0_len {α β : Type} (f : α -> β) (l : List α) (n : Nat) : (((List.map f l).length : Int) == (n : Int)) = decide (l.length = n) := by
 rw [List.length_map]
 by_cases h : l.length = n
 ·simp [h]
 ·have : ¬ ((l.length : Int) = (n : Int)) := by omega
  simp [h, this]
theorem plainB_eq (k : Int) (m : List Int) (l : Lin) (ks : List Cert) : plainB (.mk k m l ks) = if k = 1 then (l.t.isEmpty && decide (l.k = 0)) && decide (ks.length = 0) else if k = 2 then (l.t.isEmpty && decide (l.k = 0)) && decide (ks.length = 1) else if k = 3 then decide (m.length = 0) && decide (ks.length = 2) else false := rfl
theorem rplain_run : ∀ a : Cert × Unit, cOk a.1 = true -> Gets T_rplain 0 (endP' rs_rplain (Fits (plainB a.1))) ic_rplain [] (st0 nt_rplain (encL a)) := by
 rintro ⟨⟨k, m, l, ks⟩, ⟨⟩⟩ h
 have e : (encL ((Cert.mk k m l ks, ()) : Cert × Unit) : List PV) = [PV.agg [enc k, enc m, enc l.k, enc l.t, enc ks]] := by
  show [enc (Cert.mk k m l ks)] = _
  rw [enc_cert]
 rw [e]
 have hl : linOk l = true := by
  simp only [cOk, Bool.and_eq_true] at h
  exact h.1.1.2
 have e0 : (((List.map (enc : Cert -> PV) ks).length : Int) == 0) = decide (ks.length = 0) := eq0_len enc ks 0
 have e1 : (((List.map (enc : Cert -> PV) ks).length : Int) == 1) = decide (ks.length = 1) := eq0_len enc ks 1
 have e2 : (((List.map (enc : Cert -> PV) ks).length : Int) == 2) = decide (ks.length = 2) := eq0_len enc ks 2
 have e3 : (((List.map (enc : Int -> PV) m).length : Int) == 0) = decide (m.length = 0) := eq0_len enc m 0
 have ep : plainB (Cert.mk k m l ks) = if k = 1 then (l.t.isEmpty && decide (l.k = 0)) && decide (ks.length = 0) else if k = 2 then (l.t.isEmpty && decide (l.k = 0)) && decide (ks.length = 1) else if k = 3 then decide (m.length = 0) && decide (ks.length = 2) else false := rfl
 show Gets T_rplain 0 (endP' rs_rplain (Fits (plainB (Cert.mk k m l ks)))) _ _ _
 rw [ep]
 refine rplain_s k m l ks ⟨?_, ex_val (l, (⟨0, []⟩ : Lin), ()) ?_ ?_⟩
 ·have hp : isL (Lin × Lin × Unit) [enc l, PV.agg [.int .i64 0, .sl 0 true []]] = true := by
   show (is Lin (enc l) && (is Lin (PV.agg [.int .i64 0, .sl 0 true []]) && true)) = true
   rw [Enc.is_enc]; rfl
  have hq : (decL [enc l, PV.agg [.int .i64 0, .sl 0 true []]] : Lin × Lin × Unit) = (l, ⟨0, []⟩, ()) := by
   show ((dec (enc l : PV) : Lin), (dec (PV.agg [.int .i64 0, .sl 0 true []]) : Lin), ()) = _
   rw [Enc.dec_enc]; rfl
  show (isL (Lin × Lin × Unit) [enc l, PV.agg [.int .i64 0, .sl 0 true []]] && linOk (decL [enc l, PV.agg [.int .i64 0, .sl 0 true []]] : Lin × Lin × Unit).1) = true
  rw [hp, hq]
  exact hl
 ·show ((dec (enc l : PV) : Lin), (dec (PV.agg [.int .i64 0, .sl 0 true []]) : Lin), ()) = _
  rw [Enc.dec_enc]; rfl
 show if (k == 1) = true then if (cmpL l ⟨0, []⟩ == 0) = true then _ else _ else if (k == 2) = true then if (cmpL l ⟨0, []⟩ == 0) = true then _ else _ else _
 rw [cmp_zero l, e0, e1, e2, e3]
 refine iteE (fun h1 => ?_) fun h1 => iteE (fun h2 => ?_) fun h2 => iteE (fun h3 => ?_) fun h3 => ?_
 ·rw [if_pos h1]
  exact iteB (fun h => fitB (by rw [h, Bool.true_and])) fun h => fitB (by rw [h, Bool.false_and])
 ·rw [if_neg h1, if_pos h2]
  exact iteB (fun h => fitB (by rw [h, Bool.true_and])) fun h => fitB (by rw [h, Bool.false_and])
 ·rw [if_neg h1, if_neg h2, if_pos h3]
  exact iteB (fun h => fitB (by rw [h, Bool.true_and])) fun h => fitB (by rw [h, Bool.false_and])
 ·rw [if_neg h1, if_neg h2, if_neg h3]
  exact fitB rfl
theorem times_len (x : List Coef) (k : Int) : ∀ l : Lin, (x.foldl (fun o t => plusL o t.v (w64 (k * t.c))) l).t.length <= l.t.length + x.length := by
 induction x with
 | nil => intro l; exact Nat.le_refl _
 | cons t x ih =>
  intro l
  have h1 := ih (plusL l t.v (w64 (k * t.c)))
  have h2 := plus_len l t.v (w64 (k * t.c))
  rw [List.foldl_cons, List.length_cons]
  omega
theorem rnegate_run : ∀ a : Lin × Unit, linSm a.1 = true -> Gets T_rnegate 0 (endP' rs_rnegate (Fits (negL a.1))) ic_rnegate [] (st0 nt_rnegate (encL a)) := by
 rintro ⟨g, ⟨⟩⟩ h1
 have h1 : linSm g = true := h1
 have hok : linOk g = true := by
  simp only [linSm, Bool.and_eq_true] at h1
  exact h1.1
 rw [neg_times]
 have hd : ∀ l : Lin, (PV.agg [.int .i64 l.k, .sl 2 false (List.map enc l.t)]) = enc l := fun l => rfl
 refine rnegate_s g ⟨pre_enc (g, ()) rfl hok, ex_enc (g, ()) rfl (iteN (fun hv => ?_) fun hv => ex_enc ((-1 : Int), ()) rfl ⟨pre_enc ((⟨-1, []⟩ : Lin), g, (-1 : Int), ()) rfl (by show (true && decide (g.t.length <= 500000)) = true; have := valid_len (show validL g = true from hv); rw [decide_eq_true (by omega)]; rfl), ex_enc ((⟨-1, []⟩ : Lin), g, (-1 : Int), ()) rfl ⟨pre_enc (timesL ⟨-1, []⟩ g (-1), ()) rfl ?_, ex_enc (timesL ⟨-1, []⟩ g (-1), ()) rfl (iteN (fun hw => ?_) fun hw => ?_)⟩⟩)⟩
 ·have hv : validL g = false := hv
  rw [hv]
  exact ⟨rfl, rfl⟩
 ·have : (timesL ⟨-1, []⟩ g (-1)).t.length <= 0 + g.t.length := times_len g.t (-1) _
  have := valid_len (show validL g = true from hv)
  exact decide_eq_true (by show (timesL ⟨-1, []⟩ g (-1)).t.length <= _; omega)
 all_goals
  have hv : validL g = true := hv
  rw [hv, if_pos rfl]
 ·have hw : validL (timesL ⟨-1, []⟩ g (-1)) = false := hw
  have : limL (timesL ⟨-1, []⟩ g (-1)) = (⟨0, []⟩, 3) := by unfold limL; rw [hw]; rfl
  rw [this]
  exact ⟨rfl, rfl⟩
 ·have hw : validL (timesL ⟨-1, []⟩ g (-1)) = true := hw
  have : limL (timesL ⟨-1, []⟩ g (-1)) = (timesL ⟨-1, []⟩ g (-1), 0) := by unfold limL; rw [hw]; rfl
  rw [this]
  exact fits_of (x := ((timesL ⟨-1, []⟩ g (-1), 0) : Lin × Int)) rfl
end Go.Pl

namespace Go.Pl
open Go.RowKit
open Enc (enc dec is)
open EncL (encL decL isL)
theorem bareB_t (k : Int) (m : List Int) (l : Lin) (ks : List Cert) (n : Int) : bareB (.mk k m l ks) n true = (decide ((ks.length : Int) = n) && (l.t.isEmpty && decide (l.k = 0))) := rfl
theorem bareB_f (k : Int) (m : List Int) (l : Lin) (ks : List Cert) (n : Int) : bareB (.mk k m l ks) n false = (decide ((ks.length : Int) = n) && m.isEmpty) := rfl
theorem plain_no {k : Int} {m : List Int} {l : Lin} {ks : List Cert} (fs : List Fact) (h : plainB (.mk k m l ks) = false) : refC fs (.mk k m l ks) = false := by
 rw [plainB_eq] at h
 by_cases h1 : k = 1
 ·subst h1
  rw [if_pos rfl] at h
  rw [refC1]
  have : bareB (.mk 1 m l ks) 0 true = false := by
   rw [bareB_t, Bool.and_comm]
   have e : decide ((ks.length : Int) = 0) = decide (ks.length = 0) := by simp
   rw [e]; exact h
  rw [this]; rfl
 ·rw [if_neg h1] at h
  by_cases h2 : k = 2
  ·subst h2
   rw [if_pos rfl] at h
   refine refC2n fs m l ks ?_
   rw [bareB_t, Bool.and_comm]
   have e : decide ((ks.length : Int) = 1) = decide (ks.length = 1) := by simp; omega
   rw [e]; exact h
  ·rw [if_neg h2] at h
   by_cases h3 : k = 3
   ·subst h3
    rw [if_pos rfl] at h
    refine refC3n fs m l ks ?_
    rw [bareB_f, Bool.and_comm]
    have e : decide ((ks.length : Int) = 2) = decide (ks.length = 2) := by simp; omega
    have e2 : m.isEmpty = decide (m.length = 0) := by cases m <;> simp
    rw [e, e2]; exact h
   ·exact refC0 fs k m l ks h1 h2 h3
theorem one_of {α : Type} : ∀ {ks : List α}, ks.length = 1 -> ∃ a, ks = [a]
 | [a], _ => ⟨a, rfl⟩
theorem two_of' {α : Type} : ∀ {ks : List α}, ks.length = 2 -> ∃ a b, ks = [a, b]
 | [a, b], _ => ⟨a, b, rfl⟩
theorem rm1 {fs : List Fact} (h : fs.length <= 300) : (List.length ([] : List PV) == 0 && 0 == 0 && decide ((0 + List.length (List.map (enc : Fact -> PV) fs)) * 40 <= 1099511627776) && decide (0 + List.length (List.map (enc : Fact -> PV) fs) <= 1099511627776)) = true := by simp; omega
theorem rm2 {fs : List Fact} (l : Lin) (h : fs.length <= 300) : (List.length (([] : List PV) ++ List.map (enc : Fact -> PV) fs) == 0 + List.length (List.map (enc : Fact -> PV) fs) && 0 + List.length (List.map (enc : Fact -> PV) fs) == 0 + List.length (List.map (enc : Fact -> PV) fs) && decide ((0 + List.length (List.map (enc : Fact -> PV) fs) + List.length (List.drop 0 (List.take 1 [PV.agg [PV.bool false, enc l.k, enc l.t]]))) * 40 <= 1099511627776) && decide (0 + List.length (List.map (enc : Fact -> PV) fs) + List.length (List.drop 0 (List.take 1 [PV.agg [PV.bool false, enc l.k, enc l.t]])) <= 1099511627776)) = true := by simp; omega
def refP (N : Nat) (x : List Fact × Cert × Unit) : Bool := (decide (x.1.length + depC x.2.1 <= 300) && valid7 x.1 && cSm x.2.1) && decide (depC x.2.1 < N)
theorem ref_next {N : Nat} {fs : List Fact} {l : Lin} {c : Cert} (hv : valid7 fs = true) (hl : validL l = true) (hc : cSm c = true) (hn : fs.length + 1 + depC c <= 300) (hN : depC c < N) : refP N (moreF fs l, c, ()) = true := by
 unfold refP
 simp only
 rw [more_valid hv hl, hc, more_len, decide_eq_true hn, decide_eq_true hN]; rfl
theorem rref_run (N : Nat) : ∀ a : List Fact × Cert × Unit, ((decide (a.1.length + depC a.2.1 <= 300) && valid7 a.1 && cSm a.2.1) && decide (depC a.2.1 < N + 1)) = true -> Gets (T_rref N) 0 (endP' rs_rref (Fits (refC a.1 a.2.1))) ic_rref [] (st0 nt_rref (encL a)) := by
 rintro ⟨fs, ⟨k, m, l, ks⟩, ⟨⟩⟩ h
 simp only [Bool.and_eq_true, decide_eq_true_eq] at h
 obtain ⟨⟨⟨hn, hv⟩, hc⟩, hN⟩ := h
 have hc' := hc
 simp only [cSm, Bool.and_eq_true, decide_eq_true_eq] at hc'
 obtain ⟨⟨⟨hm, hl⟩, hk⟩, hks⟩ := hc'
 have hf300 : fs.length <= 300 := by omega
 have hsm := facts_sm hv (by omega)
 have e : (encL ((fs, Cert.mk k m l ks, ()) : List Fact × Cert × Unit) : List PV) = [enc fs, PV.agg [enc k, enc m, enc l.k, enc l.t, enc ks]] := by
  show [enc fs, enc (Cert.mk k m l ks)] = _
  rw [enc_cert]
 rw [e]
 have ec : (.agg [.int .i64 k, .sl 1 false (List.map enc m), .int .i64 l.k, .sl 2 false (List.map enc l.t), .sl 5 false (List.map enc ks)] : PV) = enc (Cert.mk k m l ks) := (enc_cert k m l ks).symm
 refine rref_s N fs k m l ks ?_
 simp only [ec]
 refine ⟨pre_enc (Cert.mk k m l ks, ()) rfl (cSm_ok hc), ex_enc (Cert.mk k m l ks, ()) rfl (iteN (fun hp => ?_) fun hp => ?_)⟩
 ·exact fitB (plain_no fs hp).symm
 have hp : plainB (.mk k m l ks) = true := hp
 rw [plainB_eq] at hp
 refine iteE (fun h1 => ?_) fun h1 => iteE (fun h2 => ?_) fun h2 => ?_
 ·subst h1
  rw [if_pos rfl] at hp
  have er : rcombP (dec (enc fs : PV)) (dec (enc m : PV)) = rcombP fs m := by rw [Enc.dec_enc, Enc.dec_enc]
  have hb : bareB (.mk 1 m l ks) 0 true = true := by
   rw [bareB_t, Bool.and_comm]
   have e : decide ((ks.length : Int) = 0) = decide (ks.length = 0) := by simp
   rw [e]; exact hp
  have hs := rsum_eq (ms := m) hv
  refine ⟨rcPre_enc hf300 hv, ?_⟩
  show if (rcombP (dec (enc fs : PV)) (dec (enc m : PV))).2 = true then _ else _
  rw [er]
  have e0 : (((List.map (enc : Coef -> PV) (rcombP fs m).1.t).length : Int) == 0) = decide ((rcombP fs m).1.t.length = 0) := eq0_len enc _ 0
  rw [e0]
  have ez : (rcomb fs m).t.isEmpty = decide ((rcomb fs m).t.length = 0) := by cases (rcomb fs m).t <;> simp
  rw [ez] at hs
  show if (rcombP fs m).2 = true then (if decide ((rcombP fs m).1.t.length = 0) = true then Fits (refC fs (.mk 1 m l ks)) _ else Fits (refC fs (.mk 1 m l ks)) _) else Fits (refC fs (.mk 1 m l ks)) _
  rw [refC1, hb, Bool.true_and, <- hs]
  unfold rcombP
  cases hok : okC fs m
  ·exact fitB rfl
  ·rw [if_pos rfl]
   refine iteT rfl (iteB (fun hz => fitB (by rw [hz]; rfl)) fun hz => fitB (by rw [hz]; rfl))
 ·subst h2
  rw [if_neg h1, if_pos rfl, Bool.and_eq_true] at hp
  obtain ⟨c, rfl⟩ := one_of (of_decide_eq_true hp.2)
  have hb : bareB (.mk 2 m l [c]) 1 true = true := by
   rw [bareB_t]
   show (true && _) = true
   rw [Bool.true_and]
   exact hp.1
  have hcc : cSm c = true := cSms_mem hks (by simp)
  have hdc : depC c + 1 <= depC (.mk 2 m l [c]) := by simp only [depC, depCs]; omega
  show _ ∧ _
  refine ⟨pre_enc (fs, m, ()) rfl (by show (factsSm fs && decide (fs.length <= 300)) = true; rw [hsm, decide_eq_true hf300]; rfl), ex_enc (fs, m, ()) rfl (iteE (fun h0 => ?_) fun h0 => ?_)⟩
  ·have h0 : (cutL fs m).2 = 0 := h0
   refine ⟨by simp [Enc.sz], rm1 hf300, rm2 _ hf300, by simp [Enc.sz], c, rfl, cert_fit c, room3 fs _, ?_⟩
   rw [take_more, cert_args]
   refine ⟨pre_enc (moreF fs (cutL fs m).1, c, ()) rfl (ref_next hv (cut_valid h0) hcc (by omega) (by omega)), ex_enc (moreF fs (cutL fs m).1, c, ()) rfl (fitB ?_)⟩
   show _ = refC fs (.mk 2 m l [c])
   rw [refC2, hb, decide_eq_true h0]; rfl
  ·have h0 : (cutL fs m).2 ≠ 0 := h0
   refine fitB ?_
   show _ = refC fs (.mk 2 m l [c])
   rw [refC2, hb, decide_eq_false h0]; rfl
 ·by_cases h3 : k = 3
  ·subst h3
   rw [if_neg h1, if_neg h2, if_pos rfl, Bool.and_eq_true] at hp
   obtain ⟨c, d, rfl⟩ := two_of' (of_decide_eq_true hp.2)
   have hb : bareB (.mk 3 m l [c, d]) 2 false = true := by
    rw [bareB_f]
    have e2 : m.isEmpty = decide (m.length = 0) := by cases m <;> simp
    rw [e2]
    show (true && _) = true
    rw [Bool.true_and]
    exact hp.1
   have hcc : cSm c = true := cSms_mem hks (by simp)
   have hcd : cSm d = true := cSms_mem hks (by simp)
   have hdc : depC c + 1 <= depC (.mk 3 m l [c, d]) := by simp only [depC, depCs]; omega
   have hdd : depC d + 1 <= depC (.mk 3 m l [c, d]) := by simp only [depC, depCs]; omega
   refine ⟨pre_enc (l, ()) rfl hl, ex_enc (l, ()) rfl (iteE (fun h0 => ?_) fun h0 => ?_)⟩
   ·have h0 : (negL l).2 = 0 := h0
    refine ⟨by simp [Enc.sz], rm1 hf300, rm2 _ hf300, by simp [Enc.sz], c, rfl, cert_fit c, room3 fs _, ?_⟩
    rw [take_more, cert_args]
    refine ⟨pre_enc (moreF fs l, c, ()) rfl (ref_next hv (neg_valid h0).1 hcc (by omega) (by omega)), ex_enc (moreF fs l, c, ()) rfl (iteB (fun hq => ?_) fun hq => ?_)⟩
    ·refine ⟨by simp [Enc.sz], rm1 hf300, rm2 _ hf300, by simp [Enc.sz], d, rfl, cert_fit d, room3 fs _, ?_⟩
     rw [take_more, cert_args]
     refine ⟨pre_enc (moreF fs (negL l).1, d, ()) rfl (ref_next hv (neg_valid h0).2 hcd (by omega) (by omega)), ex_enc (moreF fs (negL l).1, d, ()) rfl (fitB ?_)⟩
     have hq : refC (moreF fs l) c = true := hq
     show _ = refC fs (.mk 3 m l [c, d])
     rw [refC3, hb, decide_eq_true h0, hq]; rfl
    ·have hq : refC (moreF fs l) c = false := hq
     refine fitB ?_
     show _ = refC fs (.mk 3 m l [c, d])
     rw [refC3, hb, hq]
     simp
   ·have h0 : (negL l).2 ≠ 0 := h0
    refine fitB ?_
    show _ = refC fs (.mk 3 m l [c, d])
    rw [refC3, hb, decide_eq_false h0]; rfl
  ·rw [if_neg h1, if_neg h2, if_neg h3] at hp
   cases hp
end Go.Pl

namespace Go.Pl
open Go.RowKit
open Enc (enc dec is)
open EncL (encL decL isL)
set_option maxRecDepth 100000
def ic_lsmall : IC := (.seq (.reg [⟨(some 4), (.mv (.c (.bool false))), 0, none⟩] none) (.seq (.reg [⟨(some 5), (.mv (.t 0)), 0, none⟩, ⟨(some 6), (.call (.c (.fn 64)) [(.t 5)]), 0, none⟩, ⟨(some 7), (.mv (.t 1)), 2, none⟩, ⟨(some 8), (.call (.c (.fn 13)) [(.t 6), (.t 7)]), 2, none⟩, ⟨(some 4), (.mv (.t 8)), 4, none⟩] none) .ret))
def rs_lsmall : List IRes := [(.tmp 4)]
abbrev nt_lsmall : Nat := 9
def T_lsmall : Tab := tab [(64, .pure (preT (fun x : List Lin × Unit => decide (x.1.length <= 2000000))) (valT (fun x : List Lin × Unit => factsL x.1))), (13, .pure (preT (fun x : List Fact × Int × Unit => factsOk x.1)) (valT (fun x : List Fact × Int × Unit => few7 x.1 x.2.1)))]
theorem lsmall_s {G : PV -> Prop} (hs : List Lin) (n : Int) (h : (Go.Pl.preT (fun (x : List Lin × Unit) => decide (List.length x.1 <= 2000000)) [(.sl 2 false (List.map enc hs))]) = true ∧ (∃ y0 : List Fact, AV.pv (valT (fun (x : List Lin × Unit) => factsL x.1) [(.sl 2 false (List.map enc hs))]) = AV.pv (enc y0) ∧ ((Go.Pl.preT (fun (x : List Fact × Int × Unit) => factsOk x.1) [(.sl 3 false (List.map enc y0)), (.int .i64 n)]) = true ∧ (∃ y1 : Bool, AV.pv (valT (fun (x : List Fact × Int × Unit) => few7 x.1 x.2.1) [(.sl 3 false (List.map enc y0)), (.int .i64 n)]) = AV.pv (enc y1) ∧ (G ((.bool y1))))))) : Gets T_lsmall 0 (endP' rs_lsmall G) ic_lsmall [] (st0 9 [enc hs, enc n]) := Gets.tp (.req (.abs (List Fact) (fun YY => AV.pv (enc YY)) (.req (.abs (Bool) (fun YY => AV.pv (enc YY)) (.nil))))) h (by kernel_rfl)
def ic_lproves : IC := (.seq (.reg [⟨(some 4), (.box 2 (.t 1)), 0, none⟩, ⟨(some 5), (.box 5 (.t 2)), 1, none⟩, ⟨(some 6), (.mv (.c (.bool false))), 2, none⟩] none) (.seq (.seq (.reg [⟨(some 11), (.call (.c (.fn 12)) []), 0, none⟩, ⟨(some 12), (.un .not (.t 11)), 2, none⟩] none) (.cond (.t 12) (.seq (.reg [⟨(some 6), (.mv (.c (.bool false))), 0, none⟩] none) .ret) .skip)) (.seq (.seq (.reg [⟨(some 13), (.mv (.t 0)), 0, none⟩, ⟨(some 14), (.call (.c (.fn 19)) [(.t 13), (.c (.int .i64 8))]), 0, none⟩, ⟨(some 15), (.un .not (.t 14)), 2, none⟩, ⟨(some 16), (.mv (.t 15)), 2, none⟩, ⟨(some 17), (.load true [(.int .i64), (.sl 2)] (.t 4)), 2, (some (16, false))⟩, ⟨(some 18), (.call (.c (.fn 20)) [(.t 17), (.c (.int .i64 8))]), 2, (some (16, false))⟩, ⟨(some 19), (.un .not (.t 18)), 4, (some (16, false))⟩, ⟨(some 20), (.pick (.t 16) (.c (.bool true)) (.t 19)), 4, none⟩, ⟨(some 21), (.mv (.t 20)), 4, none⟩, ⟨(some 22), (.load true [(.int .i64), (.sl 1), (.int .i64), (.sl 2), (.sl 5)] (.t 5)), 4, (some (21, false))⟩, ⟨(some 23), (.call (.c (.fn 14)) [(.t 22), (.c (.int .i64 12))]), 4, (some (21, false))⟩, ⟨(some 24), (.un .not (.t 23)), 6, (some (21, false))⟩, ⟨(some 25), (.pick (.t 21) (.c (.bool true)) (.t 24)), 6, none⟩] none) (.cond (.t 25) (.seq (.reg [⟨(some 6), (.mv (.c (.bool true))), 0, none⟩] none) .ret) .skip)) (.seq (.reg [⟨(some 27), (.load true [(.int .i64), (.sl 2)] (.t 4)), 0, none⟩, ⟨(some 28), (.call (.c (.fn 21)) [(.t 27)]), 0, none⟩, ⟨(some 26), (.mv (.t 28)), 2, none⟩, ⟨(some 29), (.extract (.t 26) 0), 2, none⟩, ⟨(some 30), (.extract (.t 26) 1), 2, none⟩, ⟨(some 7), (.alloc (.agg [(.int .i64 0), (.sl 0 true [])])), 2, none⟩, ⟨none, (.store 2 (.t 7) (.t 29)), 3, none⟩, ⟨(some 8), (.mv (.t 30)), 3, none⟩] none) (.seq (.reg [⟨(some 32), (.load true [(.int .i64), (.sl 2)] (.t 4)), 0, none⟩, ⟨(some 33), (.call (.c (.fn 22)) [(.t 32)]), 0, none⟩, ⟨(some 31), (.mv (.t 33)), 2, none⟩, ⟨(some 34), (.extract (.t 31) 0), 2, none⟩, ⟨(some 35), (.extract (.t 31) 1), 2, none⟩, ⟨(some 9), (.alloc (.agg [(.int .i64 0), (.sl 0 true [])])), 2, none⟩, ⟨none, (.store 2 (.t 9) (.t 34)), 3, none⟩, ⟨(some 10), (.mv (.t 35)), 3, none⟩] none) (.seq (.reg [⟨(some 36), (.load true [(.int .i64), (.sl 2)] (.t 7)), 0, none⟩, ⟨(some 37), (.load true [(.int .i64), (.sl 2)] (.t 9)), 0, none⟩, ⟨(some 38), (.call (.c (.fn 23)) [(.t 36), (.t 37)]), 0, none⟩, ⟨(some 39), (.mv (.t 38)), 2, none⟩, ⟨(some 40), (.mv (.t 8)), 2, (some (39, true))⟩, ⟨(some 41), (.mv (.t 10)), 2, (some (39, true))⟩, ⟨(some 42), (.bin .num .eql (.t 40) (.t 41)), 2, (some (39, true))⟩, ⟨(some 43), (.pick (.t 39) (.t 42) (.c (.bool false))), 2, none⟩, ⟨(some 44), (.mv (.t 43)), 2, none⟩, ⟨(some 45), (.mv (.t 0)), 2, (some (44, true))⟩, ⟨(some 46), (.load true [(.int .i64), (.sl 2)] (.t 4)), 2, (some (44, true))⟩, ⟨(some 47), (.load true [(.int .i64), (.sl 1), (.int .i64), (.sl 2), (.sl 5)] (.t 5)), 2, (some (44, true))⟩, ⟨(some 48), (.call (.c (.fn 24)) [(.t 45), (.t 46), (.t 47)]), 2, (some (44, true))⟩, ⟨(some 49), (.mv (.t 0)), 4, (some (44, true))⟩, ⟨(some 50), (.load true [(.int .i64), (.sl 2)] (.t 4)), 4, (some (44, true))⟩, ⟨(some 51), (.load true [(.int .i64), (.sl 1), (.int .i64), (.sl 2), (.sl 5)] (.t 5)), 4, (some (44, true))⟩, ⟨(some 52), (.call (.c (.fn 25)) [(.t 49), (.t 50), (.t 51)]), 4, (some (44, true))⟩, ⟨(some 53), (.bin .num .eql (.t 48) (.t 52)), 6, (some (44, true))⟩, ⟨(some 54), (.pick (.t 44) (.t 53) (.c (.bool false))), 6, none⟩, ⟨(some 6), (.mv (.t 54)), 6, none⟩] (some [[], [], [0, 1], [2, 0, 1], [3, 2, 0, 1], [3, 2, 0, 1], [4, 5, 3, 2, 0, 1], [3, 6, 2, 0, 1, 4, 5], [7, 3, 6, 2, 0, 1, 4, 5], [8, 7, 3, 6, 2, 0, 1, 4, 5], [8, 7, 3, 6, 2, 0, 1, 4, 5], [8, 7, 3, 6, 2, 0, 1, 4, 5], [9, 10, 11, 8, 7, 3, 6, 2, 0, 1, 4, 5], [8, 7, 3, 6, 2, 0, 1, 4, 5], [8, 7, 3, 6, 2, 0, 1, 4, 5], [8, 7, 3, 6, 2, 0, 1, 4, 5], [13, 14, 15, 12, 8, 7, 3, 6, 2, 0, 1, 4, 5, 9, 10, 11], [12, 16, 8, 9, 10, 11, 7, 3, 6, 2, 0, 1, 4, 5, 13, 14, 15], [8, 17, 7, 3, 6, 2, 0, 1, 4, 5, 12, 16, 9, 10, 11, 13, 14, 15], [18, 16, 0, 1, 2, 3, 4, 5, 6, 7, 8, 9, 10, 11, 12, 13, 14, 15, 17]])) .ret))))))
def rs_lproves : List IRes := [(.tmp 6)]
abbrev nt_lproves : Nat := 55
def T_lproves : Tab := tab [(12, .pure (preT (fun _ : Unit => true)) (valT (fun _ : Unit => true))), (19, .pure (preT (fun x : List Lin × Int × Unit => decide (x.1.length <= 2000000) && x.1.all linOk)) (valT (fun x : List Lin × Int × Unit => few7 (factsL x.1) x.2.1))), (20, .pure (preT (fun x : Lin × Int × Unit => linOk x.1)) (valT (fun x : Lin × Int × Unit => few4 x.1 x.2.1))), (14, .pure (preT (fun x : Cert × Int × Unit => cOk x.1)) (valT (fun x : Cert × Int × Unit => smallC x.1 x.2.1))), (21, .pure (preT (fun x : Lin × Unit => linSm x.1)) (valT (fun x : Lin × Unit => negL x.1))), (22, .pure (preT (fun x : Lin × Unit => linSm x.1)) (valT (fun x : Lin × Unit => negL x.1))), (23, .pure (preT (fun x : Lin × Lin × Unit => linOk x.1)) (valT (fun x : Lin × Lin × Unit => cmpL x.1 x.2.1 == 0))), (24, .pure (preT (fun x : List Lin × Lin × Cert × Unit => provesPre x.1 x.2.1 x.2.2.1)) (valT (fun x : List Lin × Lin × Cert × Unit => provesC x.1 x.2.1 x.2.2.1))), (25, .pure (preT (fun x : List Lin × Lin × Cert × Unit => provesPre x.1 x.2.1 x.2.2.1)) (valT (fun x : List Lin × Lin × Cert × Unit => provesC x.1 x.2.1 x.2.2.1)))]
theorem lproves_s {G : PV -> Prop} (hs : List Lin) (g : Lin) (k : Int) (m : List Int) (l : Lin) (ks : List Cert) (h : ∃ y0 : Bool, AV.pv (valT (fun (x : Unit) => true) []) = AV.pv (enc y0) ∧ (if (!y0) = true then G ((.bool false)) else ((Go.Pl.preT (fun (x : List Lin × Int × Unit) => decide (List.length x.1 <= 2000000) && List.all x.1 linOk) [(.sl 2 false (List.map enc hs)), (.int .i64 8)]) = true ∧ (∃ y1 : Bool, AV.pv (valT (fun (x : List Lin × Int × Unit) => few7 (factsL x.1) x.2.1) [(.sl 2 false (List.map enc hs)), (.int .i64 8)]) = AV.pv (enc y1) ∧ (if (!y1) = true then G ((.bool true)) else ((Go.Pl.preT (fun (x : Lin × Int × Unit) => linOk x.1) [(.agg [(.int .i64 g.k), (.sl 2 false (List.map enc g.t))]), (.int .i64 8)]) = true ∧ (∃ y2 : Bool, AV.pv (valT (fun (x : Lin × Int × Unit) => few4 x.1 x.2.1) [(.agg [(.int .i64 g.k), (.sl 2 false (List.map enc g.t))]), (.int .i64 8)]) = AV.pv (enc y2) ∧ (if (!y2) = true then G ((.bool true)) else ((Go.Pl.preT (fun (x : Cert × Int × Unit) => cOk x.1) [(.agg [(.int .i64 k), (.sl 1 false (List.map enc m)), (.int .i64 l.k), (.sl 2 false (List.map enc l.t)), (.sl 5 false (List.map enc ks))]), (.int .i64 12)]) = true ∧ (∃ y3 : Bool, AV.pv (valT (fun (x : Cert × Int × Unit) => smallC x.1 x.2.1) [(.agg [(.int .i64 k), (.sl 1 false (List.map enc m)), (.int .i64 l.k), (.sl 2 false (List.map enc l.t)), (.sl 5 false (List.map enc ks))]), (.int .i64 12)]) = AV.pv (enc y3) ∧ (if (!y3) = true then G ((.bool true)) else ((Go.Pl.preT (fun (x : Lin × Unit) => linSm x.1) [(.agg [(.int .i64 g.k), (.sl 2 false (List.map enc g.t))])]) = true ∧ (∃ y4 : Lin × Int, AV.pv (valT (fun (x : Lin × Unit) => negL x.1) [(.agg [(.int .i64 g.k), (.sl 2 false (List.map enc g.t))])]) = AV.pv (enc y4) ∧ ((Go.Pl.preT (fun (x : Lin × Unit) => linSm x.1) [(.agg [(.int .i64 g.k), (.sl 2 false (List.map enc g.t))])]) = true ∧ (∃ y5 : Lin × Int, AV.pv (valT (fun (x : Lin × Unit) => negL x.1) [(.agg [(.int .i64 g.k), (.sl 2 false (List.map enc g.t))])]) = AV.pv (enc y5) ∧ ((Go.Pl.preT (fun (x : Lin × Lin × Unit) => linOk x.1) [(.agg [(.int .i64 y4.1.k), (.sl 2 false (List.map enc y4.1.t))]), (.agg [(.int .i64 y5.1.k), (.sl 2 false (List.map enc y5.1.t))])]) = true ∧ (∃ y6 : Bool, AV.pv (valT (fun (x : Lin × Lin × Unit) => cmpL x.1 x.2.1 == 0) [(.agg [(.int .i64 y4.1.k), (.sl 2 false (List.map enc y4.1.t))]), (.agg [(.int .i64 y5.1.k), (.sl 2 false (List.map enc y5.1.t))])]) = AV.pv (enc y6) ∧ (if (y6) = true then if (y4.2 == y5.2) = true then (Go.Pl.preT (fun (x : List Lin × Lin × Cert × Unit) => provesPre x.1 x.2.1 x.2.2.1) [(.sl 2 false (List.map enc hs)), (.agg [(.int .i64 g.k), (.sl 2 false (List.map enc g.t))]), (.agg [(.int .i64 k), (.sl 1 false (List.map enc m)), (.int .i64 l.k), (.sl 2 false (List.map enc l.t)), (.sl 5 false (List.map enc ks))])]) = true ∧ (∃ y7 : Int, AV.pv (valT (fun (x : List Lin × Lin × Cert × Unit) => provesC x.1 x.2.1 x.2.2.1) [(.sl 2 false (List.map enc hs)), (.agg [(.int .i64 g.k), (.sl 2 false (List.map enc g.t))]), (.agg [(.int .i64 k), (.sl 1 false (List.map enc m)), (.int .i64 l.k), (.sl 2 false (List.map enc l.t)), (.sl 5 false (List.map enc ks))])]) = AV.pv (enc y7) ∧ ((Go.Pl.preT (fun (x : List Lin × Lin × Cert × Unit) => provesPre x.1 x.2.1 x.2.2.1) [(.sl 2 false (List.map enc hs)), (.agg [(.int .i64 g.k), (.sl 2 false (List.map enc g.t))]), (.agg [(.int .i64 k), (.sl 1 false (List.map enc m)), (.int .i64 l.k), (.sl 2 false (List.map enc l.t)), (.sl 5 false (List.map enc ks))])]) = true ∧ (∃ y8 : Int, AV.pv (valT (fun (x : List Lin × Lin × Cert × Unit) => provesC x.1 x.2.1 x.2.2.1) [(.sl 2 false (List.map enc hs)), (.agg [(.int .i64 g.k), (.sl 2 false (List.map enc g.t))]), (.agg [(.int .i64 k), (.sl 1 false (List.map enc m)), (.int .i64 l.k), (.sl 2 false (List.map enc l.t)), (.sl 5 false (List.map enc ks))])]) = AV.pv (enc y8) ∧ (G ((.bool (y7 == y8))))))) else (G ((.bool false))) else (G ((.bool false))))))))))))))))))))) : Gets T_lproves 0 (endP' rs_lproves G) ic_lproves [] (st0 55 [enc hs, enc g, .agg [enc k, enc m, enc l.k, enc l.t, enc ks]]) := Gets.tp (.lit (.abs (Bool) (fun YY => AV.pv (enc YY)) (.ask (.nil) (.req (.abs (Bool) (fun YY => AV.pv (enc YY)) (.ask (.lit (.lit (.lit (.lit (.lit (.lit (.lit (.lit (.nil))))))))) (.lit (.req (.abs (Bool) (fun YY => AV.pv (enc YY)) (.lit (.lit (.ask (.lit (.lit (.lit (.lit (.nil))))) (.lit (.req (.abs (Bool) (fun YY => AV.pv (enc YY)) (.lit (.lit (.ask (.nil) (.req (.abs (Lin × Int) (fun YY => AV.pv (enc YY)) (.req (.abs (Lin × Int) (fun YY => AV.pv (enc YY)) (.req (.abs (Bool) (fun YY => AV.pv (enc YY)) (.ask (.lit (.lit (.lit (.lit (.ask (.lit (.lit (.lit (.req (.abs (Int) (fun YY => AV.pv (enc YY)) (.lit (.lit (.lit (.lit (.req (.abs (Int) (fun YY => AV.pv (enc YY)) (.lit (.lit (.lit (.nil))))))))))))))) (.lit (.lit (.lit (.lit (.lit (.lit (.lit (.lit (.lit (.nil))))))))))))))) (.lit (.lit (.lit (.lit (.lit (.lit (.lit (.lit (.lit (.lit (.lit (.lit (.lit (.nil))))))))))))))))))))))))))))))))))))))) h (by kernel_rfl)
end Go.Pl

namespace Go.Pl
open Go.RowKit
open Enc (enc dec is)
open EncL (encL decL isL)
theorem cmpT_self : ∀ l : List Coef, cmpT l l = 0
 | [] => rfl
 | x :: l => by
  have h1 : ¬ x.v.s < x.v.s := List.lt_irrefl _
  have h2 : ¬ x.c < x.c := by omega
  rw [cmpT, if_neg (by rintro (h | ⟨_, h⟩); exact h1 h; exact h2 h), if_pos rfl, cmpT_self l]
theorem cmp_self (l : Lin) : (cmpL l l == 0) = true := by
 have : cmpL l l = 0 := by
  simp [cmpL, cmpT_self, cmpK]
 rw [this]; rfl
theorem rcheck_run : ∀ a : List Fact × Cert × Unit, (factsSm a.1 && cSm a.2.1 && decide (a.1.length + depC a.2.1 <= 300)) = true -> Gets T_rcheck 0 (endP' rs_rcheck (Fits (checkC a.1 a.2.1))) ic_rcheck [] (st0 nt_rcheck (encL a)) := by
 rintro ⟨fs, ⟨k, m, l, ks⟩, ⟨⟩⟩ h
 simp only [Bool.and_eq_true, decide_eq_true_eq] at h
 obtain ⟨⟨h1, h2⟩, h3⟩ := h
 have e : (encL ((fs, Cert.mk k m l ks, ()) : List Fact × Cert × Unit) : List PV) = [enc fs, PV.agg [enc k, enc m, enc l.k, enc l.t, enc ks]] := by
  show [enc fs, enc (Cert.mk k m l ks)] = _
  rw [enc_cert]
 rw [e]
 have ec : (.agg [.int .i64 k, .sl 1 false (List.map enc m), .int .i64 l.k, .sl 2 false (List.map enc l.t), .sl 5 false (List.map enc ks)] : PV) = enc (Cert.mk k m l ks) := (enc_cert k m l ks).symm
 have eC : checkC fs (Cert.mk k m l ks) = if valid7 fs then (if (fs.length : Int) > 100 then 3 else if sizeC (Cert.mk k m l ks) > 1000 then 3 else if refC fs (Cert.mk k m l ks) then 0 else 18) else 1 := rfl
 show Gets T_rcheck 0 (endP' rs_rcheck (Fits (checkC fs (Cert.mk k m l ks)))) _ _ _
 rw [eC]
 refine rcheck_s fs k m l ks ?_
 simp only [ec]
 have el : (List.map (enc : Fact -> PV) fs).length = fs.length := by simp
 rw [el]
 refine ⟨pre_enc (fs, ()) rfl h1, ex_enc (fs, ()) rfl (iteN (fun hv => ?_) fun hv => iteD (fun h4 => ?_) fun h4 => ⟨pre_enc (Cert.mk k m l ks, ()) rfl (cSm_ok h2), ex_enc (Cert.mk k m l ks, ()) rfl (iteD (fun h5 => ?_) fun h5 => ?_)⟩)⟩
 ·have hv : valid7 fs = false := hv
  rw [hv]
  exact ⟨rfl, rfl⟩
 all_goals
  have hv : valid7 fs = true := hv
  rw [hv, if_pos rfl]
 ·rw [if_pos h4]
  exact ⟨rfl, rfl⟩
 ·rw [if_neg h4, if_pos (show sizeC (Cert.mk k m l ks) > 1000 from h5)]
  exact ⟨rfl, rfl⟩
 ·rw [if_neg h4, if_neg (show ¬ sizeC (Cert.mk k m l ks) > 1000 from h5)]
  refine ⟨pre_enc (fs, Cert.mk k m l ks, ()) rfl ?_, ex_enc (fs, Cert.mk k m l ks, ()) rfl (iteN (fun hr => ?_) fun hr => ?_)⟩
  ·show (decide (fs.length + depC (Cert.mk k m l ks) <= 300) && valid7 fs && cSm (Cert.mk k m l ks)) = true
   rw [hv, h2, decide_eq_true h3]; rfl
  ·have hr : refC fs (Cert.mk k m l ks) = false := hr
   rw [hr]
   exact ⟨rfl, rfl⟩
  ·have hr : refC fs (Cert.mk k m l ks) = true := hr
   rw [hr]
   exact ⟨rfl, rfl⟩
end Go.Pl

namespace Go.Pl
open Go.RowKit
open Enc (enc dec is)
open EncL (encL decL isL)
theorem rcPre_of {a b : PV} (h : rcPre a b = true) : ∃ (fs : List Fact) (ms : List Int), a = enc fs ∧ b = enc ms ∧ fs.length <= 300 ∧ valid7 fs = true := by
 simp only [rcPre, Bool.and_eq_true, decide_eq_true_eq] at h
 obtain ⟨⟨⟨ha, hb⟩, h1⟩, h2⟩ := h
 obtain ⟨fs, rfl⟩ := can_eq ha
 obtain ⟨ms, rfl⟩ := can_eq hb
 rw [Enc.dec_enc] at h1 h2
 exact ⟨fs, ms, rfl, rfl, h1, h2⟩
theorem val_rc_enc (fs : List Fact) (ms : List Int) : val_rc [.pv (enc fs), .pv (enc ms)] [] = if okC fs ms then outR (rfold fs ms) else rcombN := by
 show (if okC (dec (enc fs : PV)) (dec (enc ms : PV)) then outR (rfold (dec (enc fs : PV)) (dec (enc ms : PV))) else rcombN) = _
 rw [Enc.dec_enc, Enc.dec_enc]
theorem rcombo_run : ∀ args os, pre_rc args os = true -> Gets T_rcombo os.length (endO' os.length rs_rcombo fun r => r = val_rc args os) ic_rcombo [] (st0O nt_rcombo args os) := by
 intro args os h
 unfold pre_rc at h
 split at h
 ·obtain ⟨fs, ms, rfl, rfl, h1, h2⟩ := rcPre_of h
  rw [val_rc_enc]
  exact rcombo_get fs ms h1 h2
 ·cases h
theorem rc_N {P : Program} {f : Nat} (h : OwnOK P f pre_rc val_rc) : OwnOK P f pre_rcN val_rcN := OwnOK.congr h
 (fun a o hp => by
  unfold pre_rcN at hp
  split at hp
  ·simp only [Bool.and_eq_true] at hp
   exact hp.1
  ·cases hp)
 fun a o hp => by
  unfold pre_rcN at hp
  split at hp
  ·simp only [Bool.and_eq_true, Bool.not_eq_true'] at hp
   show (if _ then _ else _) = _
   rw [hp.2]; rfl
  ·cases hp
theorem rc_Z {P : Program} {f : Nat} (h : OwnOK P f pre_rc val_rc) : OwnOK P f pre_rcZ val_rcZ := OwnOK.congr h
 (fun a o hp => by
  unfold pre_rcZ at hp
  split at hp
  ·simp only [Bool.and_eq_true] at hp
   exact hp.1.1
  ·cases hp)
 fun a o hp => by
  unfold pre_rcZ at hp
  split at hp
  ·simp only [Bool.and_eq_true] at hp
   show (if _ then _ else _) = _
   rw [hp.1.2, if_pos rfl, Option.isNone_iff_eq_none.1 hp.2]; rfl
  ·cases hp
theorem rc_R {P : Program} {f : Nat} (h : OwnOK P f pre_rc val_rc) : OwnOK P f pre_rcR val_rcR := OwnOK.congr h
 (fun a o hp => by
  unfold pre_rcR at hp
  split at hp
  ·simp only [Bool.and_eq_true] at hp
   exact hp.1.1
  ·cases hp)
 fun a o hp => by
  unfold pre_rcR at hp
  split at hp
  ·rename_i a b
   simp only [Bool.and_eq_true] at hp
   obtain ⟨r, hr⟩ := Option.isSome_iff_exists.1 hp.2
   show (if okC (dec a) (dec b) then outR (rfold (dec a) (dec b)) else rcombN) = (.tup [(theR (dec a) (dec b)).av 0, .pv (.bool true)], [], [(theR (dec a) (dec b)).ob])
   rw [hp.1.2, if_pos rfl]
   unfold theR
   rw [hr]; rfl
  ·cases hp
theorem sub_zero (b : Bool) : Sub (.tup [zeroL, .bool b]) (enc (((⟨0, []⟩ : Lin), b) : Lin × Bool)) := Sub.pair (Sub.agg_cons (.refl _) (Sub.agg_cons (.sl0 _ _ _) Sub.agg_nil)) (.refl _)
theorem rc_P {P : Program} {f : Nat} (h : OwnOK P f pre_rc val_rc) : OwnOK P f pre_rc val_rcP := OwnOK.frz h fun args os hp => by
 unfold pre_rc at hp
 split at hp
 ·obtain ⟨fs, ms, rfl, rfl, h1, h2⟩ := rcPre_of hp
  rw [val_rc_enc]
  have ev : val_rcP [.pv (enc fs), .pv (enc ms)] [] = (.pv (enc (rcombP fs ms)), [], []) := by
   show (AV.pv (enc (rcombP (dec (enc fs : PV)) (dec (enc ms : PV)))), _, _) = _
   rw [Enc.dec_enc, Enc.dec_enc]
  rw [ev]
  unfold rcombP
  cases hc : okC fs ms
  ·exact ⟨.tup [.pv zeroL, .pv (.bool false)], [], [], .tup [zeroL, .bool false], [], [], [], _, rfl, rfl, rfl, sub_zero false, rfl⟩
  ·rw [if_pos rfl, if_pos rfl]
   cases hr : rfold fs ms with
   | none =>
    have e : rcomb fs ms = ⟨0, []⟩ := by unfold rcomb; rw [hr]; rfl
    rw [e]
    exact ⟨.tup [.pv zeroL, .pv (.bool true)], [], [], .tup [zeroL, .bool true], [], [], [], _, rfl, rfl, rfl, sub_zero true, rfl⟩
   | some r =>
    have e : rcomb fs ms = r.view := by unfold rcomb viewO; rw [hr]; rfl
    rw [e]
    refine ⟨.tup [r.av 0, .pv (.bool true)], [], [r.ob], .tup [.agg [.int .i64 r.k, .sl 2 false (List.drop 0 (List.take r.w (r.ts.map enc)))], .bool true], [.obj (.row true 87 2 (r.ts.map enc))], [], [], _, rfl, ?_, rfl, ?_, rfl⟩
    ·simp [frz, frzL, HM.bind, HM.run, objs, LR.av, LR.ob]
    ·have : (PV.tup [.agg [.int .i64 r.k, .sl 2 false (List.drop 0 (List.take r.w (r.ts.map enc)))], .bool true]) = enc ((r.view, true) : Lin × Bool) := by
      rw [List.drop_zero, <- List.map_take]; rfl
     rw [this]
     exact .refl _
 ·cases hp
end Go.Pl

namespace Go.Pl
open Go.RowKit
open Enc (enc dec is)
open EncL (encL decL isL)
def pre_fcR : List AV -> List AObj -> Bool
 | [.pv a], [] => can (List Lin) a && decide ((dec a : List Lin).length <= 2000000) && !(dec a : List Lin).isEmpty
 | _, _ => false
def linsD (p : PV) : List Lin := dec p
def factsV (ls : List Lin) : AV × List AObj × List AObj := (.row 0 ls.length 0 ls.length, [], [.row false 83 3 ((factsL ls).map enc)])
def val_fcR : List AV -> List AObj -> AV × List AObj × List AObj
 | [.pv a], _ => factsV (linsD a)
 | _, _ => combN
def pre_fcZ : List AV -> List AObj -> Bool
 | [.pv a], [] => can (List Lin) a && (dec a : List Lin).isEmpty
 | _, _ => false
def val_fcZ : List AV -> List AObj -> AV × List AObj × List AObj := fun _ _ => (.pv (.sl 0 true []), [], [])
end Go.Pl

namespace Go.Pl
open Go.RowKit
open Enc (enc dec is)
open EncL (encL decL isL)
set_option maxRecDepth 100000
def ic_rvr : IC := ic_rval7
def rs_rvr : List IRes := [(.tmp 2)]
abbrev nt_rvr : Nat := 17
def T_rvr : Tab := tab [(36, .pure (preT (fun x : Lin × Unit => linOk x.1)) (valT (fun x : Lin × Unit => validL x.1)))]
theorem rvr_s {G : AV × List AObj × List AObj -> Prop} (l : List Fact) (n : Nat) (h : At T_rvr 1 (endO' 1 rs_rvr G) ic_rvr 0 17 [(0, (.row 0 n 0 n)), (3, (.pv (.int .i64 0)))] [(.obj (.row false 83 3 (List.map enc l)))]) : Gets T_rvr 1 (endO' 1 rs_rvr G) ic_rvr [] (st0O 17 [.row 0 n 0 n] [.row false 83 3 (l.map enc)]) := Gets.to (.nil) h (by kernel_rfl)
theorem rvr_h0 {G : AV × List AObj × List AObj -> Prop} (l : List Fact) (n : Nat) (i : Int) (h : if (decide (i < (↑(n - 0) : Int))) = true then (decide (0 <= i) && decide (0 + Int.toNat i < n) && List.length (List.map enc l) == n) = true ∧ ((List.length (List.map enc l) == n && decide (0 + Int.toNat i < List.length (List.map enc l))) = true ∧ ((decide (0 + 1 + List.length [Sh.int .i64, Sh.sl 2] <= List.length (PV.cells (List.getD (List.map enc l) (0 + Int.toNat i) default))) && shFit (PV.cells (List.getD (List.map enc l) (0 + Int.toNat i) default)) (0 + 1) [Sh.int .i64, Sh.sl 2]) = true ∧ ((Go.Pl.preT (fun (x : Lin × Unit) => linOk x.1) [(.agg [(.int .i64 (PV.asInt (List.getD (PV.cells (List.getD (List.map enc l) (0 + Int.toNat i) default)) (0 + 1) default))), (.sl 2 (PV.asT (List.getD (PV.cells (List.getD (List.map enc l) (0 + Int.toNat i) default)) (0 + 1 + 1) default)) (PV.asXs (List.getD (PV.cells (List.getD (List.map enc l) (0 + Int.toNat i) default)) (0 + 1 + 1) default)))])]) = true ∧ (∃ y0 : Bool, AV.pv (valT (fun (x : Lin × Unit) => validL x.1) [(.agg [(.int .i64 (PV.asInt (List.getD (PV.cells (List.getD (List.map enc l) (0 + Int.toNat i) default)) (0 + 1) default))), (.sl 2 (PV.asT (List.getD (PV.cells (List.getD (List.map enc l) (0 + Int.toNat i) default)) (0 + 1 + 1) default)) (PV.asXs (List.getD (PV.cells (List.getD (List.map enc l) (0 + Int.toNat i) default)) (0 + 1 + 1) default)))])]) = AV.pv (enc y0) ∧ (if (!y0) = true then G (((.pv (.bool false)), ([(.row false 83 3 (List.map enc l))], []))) else (At T_rvr 1 (endO' 1 rs_rvr G) ic_rvr 0 17 [(0, (.row 0 n 0 n)), (3, (.pv (.int .i64 (IntKind.wrap IntKind.i64 (i + 1)))))] [(.obj (.row false 83 3 (List.map enc l)))])))))) else (G (((.pv (.bool true)), ([(.row false 83 3 (List.map enc l))], []))))) : At T_rvr 1 (endO' 1 rs_rvr G) ic_rvr 0 17 [(0, .row 0 n 0 n), (3, .pv (.int .i64 i))] [.obj (.row false 83 3 (l.map enc))] := At.to (.lit (.ask (.req (.keep (.req (.req (.req (.abs (Bool) (fun YY => AV.pv (enc YY)) (.ask (.nil) (.lit (.nil))))))))) (.nil))) h (by kernel_rfl)
def ic_rfco : IC := ic_rfacts
def rs_rfco : List IRes := [(.tmp 2)]
abbrev nt_rfco : Nat := 20
def T_rfco : Tab := tab []
theorem rfco_s {G : AV × List AObj × List AObj -> Prop} (ls : List Lin) (h : At T_rfco 0 (endO' 0 rs_rfco G) ic_rfco 0 20 [(0, (.pv (.sl 2 false (List.map enc ls)))), (3, (.pv (.sl 0 true []))), (4, (.pv (.int .i64 0)))] []) : Gets T_rfco 0 (endO' 0 rs_rfco G) ic_rfco [] (st0O 20 [.pv (enc ls)] []) := Gets.to (.nil) h (by kernel_rfl)
theorem rfco_h0a {G : AV × List AObj × List AObj -> Prop} (ls : List Lin) (i : Int) (h : if (decide (i < (↑(List.length (List.map enc ls)) : Int))) = true then (decide (0 <= i) && decide (Int.toNat i < List.length (List.map enc ls)) && Enc.sz Lin == 2) = true ∧ (∃ y0 : Lin, AV.pv (PV.rptr (PV.cells (List.getD (List.map enc ls) (Int.toNat i) default))) = AV.pv (PV.rptr (PV.cells ((enc) y0))) ∧ (At T_rfco 0 (endO' 0 rs_rfco G) ic_rfco 0 20 [(0, (.pv (.sl 2 false (List.map enc ls)))), (3, (.row 0 1 0 1)), (4, (.pv (.int .i64 (IntKind.wrap IntKind.i64 (i + 1)))))] [(.obj (.row false 83 3 [(.agg [(.bool false), (.int .i64 (PV.asInt (List.getD (PV.cells (enc y0)) 0 default))), (.sl 2 false (PV.asXs (List.getD (PV.cells (enc y0)) (0 + 1) default)))])]))])) else (G (((.pv (.sl 0 true [])), ([], []))))) : At T_rfco 0 (endO' 0 rs_rfco G) ic_rfco 0 20 [(0, .pv (enc ls)), (3, .pv (.sl 0 true [])), (4, .pv (.int .i64 i))] [] := At.to (.lit (.ask (.req (.abs (Lin) (fun YY => AV.pv (PV.rptr (PV.cells ((enc) YY)))) (.lit (.lit (.lit (.lit (.lit (.lit (.lit (.nil)))))))))) (.nil))) h (by kernel_rfl)
theorem rfco_h0b {G : AV × List AObj × List AObj -> Prop} (ls : List Lin) (q : Nat) (ts : List Fact) (i : Int) (h : if (decide (i < (↑(List.length (List.map enc ls)) : Int))) = true then (decide (0 <= i) && decide (Int.toNat i < List.length (List.map enc ls)) && Enc.sz Lin == 2) = true ∧ (∃ y0 : Lin, AV.pv (PV.rptr (PV.cells (List.getD (List.map enc ls) (Int.toNat i) default))) = AV.pv (PV.rptr (PV.cells ((enc) y0))) ∧ ((List.length (List.map enc ts) == q && q == q && decide ((q + List.length (List.drop 0 (List.take 1 [PV.agg [PV.bool false, Sh.co (Sh.int .i64) (List.getD (PV.cells (enc y0)) 0 default), Sh.co (Sh.sl 2) (List.getD (PV.cells (enc y0)) (0 + 1) default)]]))) * 40 <= 1099511627776) && decide (q + List.length (List.drop 0 (List.take 1 [PV.agg [PV.bool false, Sh.co (Sh.int .i64) (List.getD (PV.cells (enc y0)) 0 default), Sh.co (Sh.sl 2) (List.getD (PV.cells (enc y0)) (0 + 1) default)]])) <= 1099511627776)) = true ∧ (At T_rfco 0 (endO' 0 rs_rfco G) ic_rfco 0 20 [(0, (.pv (.sl 2 false (List.map enc ls)))), (3, (.row 0 (q + List.length (List.drop 0 (List.take 1 [PV.agg [PV.bool false, Sh.co (Sh.int .i64) (List.getD (PV.cells (enc y0)) 0 default), Sh.co (Sh.sl 2) (List.getD (PV.cells (enc y0)) (0 + 1) default)]]))) 0 (q + List.length (List.drop 0 (List.take 1 [PV.agg [PV.bool false, Sh.co (Sh.int .i64) (List.getD (PV.cells (enc y0)) 0 default), Sh.co (Sh.sl 2) (List.getD (PV.cells (enc y0)) (0 + 1) default)]]))))), (4, (.pv (.int .i64 (IntKind.wrap IntKind.i64 (i + 1)))))] [(.obj (.row false 83 3 (List.map enc ts ++ List.drop 0 (List.take 1 [PV.agg [PV.bool false, Sh.co (Sh.int .i64) (List.getD (PV.cells (enc y0)) 0 default), Sh.co (Sh.sl 2) (List.getD (PV.cells (enc y0)) (0 + 1) default)]]))))]))) else (G (((.row 0 q 0 q), ([], [(.row false 83 3 (List.map enc ts))]))))) : At T_rfco 0 (endO' 0 rs_rfco G) ic_rfco 0 20 [(0, .pv (enc ls)), (3, .row 0 q 0 q), (4, .pv (.int .i64 i))] [.obj (.row false 83 3 (ts.map enc))] := At.to (.lit (.ask (.req (.abs (Lin) (fun YY => AV.pv (PV.rptr (PV.cells ((enc) YY)))) (.lit (.lit (.lit (.req (.lit (.nil)))))))) (.nil))) h (by kernel_rfl)
def ic_rprovr : IC := (.seq (.reg [⟨(some 4), (.box 2 (.t 1)), 0, none⟩, ⟨(some 5), (.box 5 (.t 2)), 1, none⟩, ⟨(some 6), (.mv (.c (.int .i64 0))), 2, none⟩] none) (.seq (.reg [⟨(some 10), (.mv (.t 0)), 0, none⟩, ⟨(some 11), (.call (.c (.fn 64)) [(.t 10)]), 0, none⟩, ⟨(some 7), (.mv (.t 11)), 2, none⟩] none) (.seq (.reg [⟨(some 13), (.load true [(.int .i64), (.sl 2)] (.t 4)), 0, none⟩, ⟨(some 14), (.call (.c (.fn 22)) [(.t 13)]), 0, none⟩, ⟨(some 12), (.mv (.t 14)), 2, none⟩, ⟨(some 15), (.extract (.t 12) 0), 2, none⟩, ⟨(some 16), (.extract (.t 12) 1), 2, none⟩, ⟨(some 8), (.alloc (.agg [(.int .i64 0), (.sl 0 true [])])), 2, none⟩, ⟨none, (.store 2 (.t 8) (.t 15)), 3, none⟩, ⟨(some 9), (.mv (.t 16)), 3, none⟩] none) (.seq (.seq (.reg [⟨(some 17), (.mv (.t 7)), 0, none⟩, ⟨(some 18), (.call (.c (.fn 29)) [(.t 17)]), 0, none⟩, ⟨(some 19), (.un .not (.t 18)), 2, none⟩, ⟨(some 20), (.mv (.t 19)), 2, none⟩, ⟨(some 21), (.mv (.t 9)), 2, (some (20, false))⟩, ⟨(some 22), (.bin .num .eql (.t 21) (.c (.int .i64 1))), 2, (some (20, false))⟩, ⟨(some 23), (.pick (.t 20) (.c (.bool true)) (.t 22)), 2, none⟩] none) (.cond (.t 23) (.seq (.reg [⟨(some 6), (.mv (.c (.int .i64 1))), 0, none⟩] none) .ret) .skip)) (.seq (.seq (.reg [⟨(some 24), (.mv (.t 9)), 0, none⟩, ⟨(some 25), (.bin .num .neq (.t 24) (.c (.int .i64 0))), 0, none⟩] none) (.cond (.t 25) (.seq (.reg [⟨(some 26), (.mv (.t 9)), 0, none⟩, ⟨(some 6), (.mv (.t 26)), 0, none⟩] none) .ret) .skip)) (.seq (.reg [⟨(some 27), (.mv (.t 7)), 0, none⟩, ⟨(some 28), (.load true [(.int .i64), (.sl 2)] (.t 8)), 0, none⟩, ⟨(some 29), (.build [(.bool false), (.int .i64 0), (.sl 0 true [])] [(1, (2, (.t 28)))]), 0, none⟩, ⟨(some 30), (.bslice 83 3 1 (.agg [(.bool false), (.int .i64 0), (.sl 0 true [])]) [(0, (.t 29))]), 0, none⟩, ⟨(some 31), (.append 83 3 40 (.t 27) (.t 30)), 1, none⟩, ⟨(some 32), (.load true [(.int .i64), (.sl 1), (.int .i64), (.sl 2), (.sl 5)] (.t 5)), 2, none⟩, ⟨(some 33), (.call (.c (.fn 16)) [(.t 31), (.t 32)]), 2, none⟩, ⟨(some 6), (.mv (.t 33)), 4, none⟩] (some [[], [], [1], [2, 1], [0, 3, 2, 1], [], [4, 5, 0, 3, 2, 1], [6, 0, 1, 2, 3, 4, 5]])) .ret))))))
def rs_rprovr : List IRes := [(.tmp 6)]
abbrev nt_rprovr : Nat := 34
def T_rprovr : Tab := tab [(64, .own pre_fcR val_fcR), (22, .pure (preT (fun x : Lin × Unit => linSm x.1)) (valT (fun x : Lin × Unit => negL x.1))), (29, .own pre_cvR val_cvR), (16, .pure (preT (fun x : List Fact × Cert × Unit => factsSm x.1 && cSm x.2.1 && decide (x.1.length + depC x.2.1 <= 300))) (valT (fun x : List Fact × Cert × Unit => checkC x.1 x.2.1)))]
theorem rprovr_s {G : PV -> Prop} (hs : List Lin) (g : Lin) (k : Int) (m : List Int) (l : Lin) (ks : List Cert) (h : (pre_fcR [(.pv (.sl 2 false (List.map enc hs)))] []) = true ∧ ((Go.Pl.preT (fun (x : Lin × Unit) => linSm x.1) [(.agg [(.int .i64 g.k), (.sl 2 false (List.map enc g.t))])]) = true ∧ (∃ y0 : Lin × Int, AV.pv (valT (fun (x : Lin × Unit) => negL x.1) [(.agg [(.int .i64 g.k), (.sl 2 false (List.map enc g.t))])]) = AV.pv (enc y0) ∧ ((pre_cvR [(.row 0 (List.length (linsD (enc hs))) 0 (List.length (linsD (enc hs))))] [(.row false 83 3 (List.map enc (factsL (linsD (enc hs)))))]) = true ∧ (if (!valid7 (facR (List.map enc (factsL (linsD (enc hs)))))) = true then G ((.int .i64 1)) else (if (y0.2 == 1) = true then G ((.int .i64 1)) else (if (y0.2 != 0) = true then G ((.int .i64 y0.2)) else ((List.length (List.map enc (factsL (linsD (enc hs)))) == List.length (linsD (enc hs)) && List.length (linsD (enc hs)) == List.length (linsD (enc hs)) && decide ((List.length (linsD (enc hs)) + List.length (List.drop 0 (List.take 1 [PV.agg [PV.bool false, enc y0.1.k, enc y0.1.t]]))) * 40 <= 1099511627776) && decide (List.length (linsD (enc hs)) + List.length (List.drop 0 (List.take 1 [PV.agg [PV.bool false, enc y0.1.k, enc y0.1.t]])) <= 1099511627776)) = true ∧ ((List.length (List.map enc (factsL (linsD (enc hs))) ++ List.drop 0 (List.take 1 [PV.agg [PV.bool false, enc y0.1.k, enc y0.1.t]])) == List.length (linsD (enc hs)) + List.length (List.drop 0 (List.take 1 [PV.agg [PV.bool false, enc y0.1.k, enc y0.1.t]]))) = true ∧ ((Go.Pl.preT (fun (x : List Fact × Cert × Unit) => factsSm x.1 && cSm x.2.1 && decide (List.length x.1 + depC x.2.1 <= 300)) [(.sl 3 false (List.drop 0 (List.take (List.length (linsD (enc hs)) + List.length (List.drop 0 (List.take 1 [PV.agg [PV.bool false, enc y0.1.k, enc y0.1.t]]))) (List.map enc (factsL (linsD (enc hs))) ++ List.drop 0 (List.take 1 [PV.agg [PV.bool false, enc y0.1.k, enc y0.1.t]]))))), (.agg [(.int .i64 k), (.sl 1 false (List.map enc m)), (.int .i64 l.k), (.sl 2 false (List.map enc l.t)), (.sl 5 false (List.map enc ks))])]) = true ∧ (∃ y1 : Int, AV.pv (valT (fun (x : List Fact × Cert × Unit) => checkC x.1 x.2.1) [(.sl 3 false (List.drop 0 (List.take (List.length (linsD (enc hs)) + List.length (List.drop 0 (List.take 1 [PV.agg [PV.bool false, enc y0.1.k, enc y0.1.t]]))) (List.map enc (factsL (linsD (enc hs))) ++ List.drop 0 (List.take 1 [PV.agg [PV.bool false, enc y0.1.k, enc y0.1.t]]))))), (.agg [(.int .i64 k), (.sl 1 false (List.map enc m)), (.int .i64 l.k), (.sl 2 false (List.map enc l.t)), (.sl 5 false (List.map enc ks))])]) = AV.pv (enc y1) ∧ (G ((.int .i64 y1)))))))))))))) : Gets T_rprovr 0 (endP' rs_rprovr G) ic_rprovr [] (st0 34 [enc hs, enc g, .agg [enc k, enc m, enc l.k, enc l.t, enc ks]]) := Gets.tp (.req (.keep (.req (.abs (Lin × Int) (fun YY => AV.pv (enc YY)) (.req (.keep (.ask (.lit (.lit (.lit (.nil)))) (.lit (.lit (.lit (.ask (.nil) (.lit (.ask (.nil) (.lit (.lit (.req (.req (.req (.abs (Int) (fun YY => AV.pv (enc YY)) (.nil)))))))))))))))))))) h (by kernel_rfl)
def ic_rprovz : IC := ic_rprovr
def rs_rprovz : List IRes := [(.tmp 6)]
abbrev nt_rprovz : Nat := 34
def T_rprovz : Tab := tab [(64, .own pre_fcZ val_fcZ), (22, .pure (preT (fun x : Lin × Unit => linSm x.1)) (valT (fun x : Lin × Unit => negL x.1))), (29, .pure (preT (fun x : List Fact × Unit => factsSm x.1)) (valT (fun x : List Fact × Unit => valid7 x.1))), (16, .pure (preT (fun x : List Fact × Cert × Unit => factsSm x.1 && cSm x.2.1 && decide (x.1.length + depC x.2.1 <= 300))) (valT (fun x : List Fact × Cert × Unit => checkC x.1 x.2.1)))]
theorem rprovz_s {G : PV -> Prop} (hs : List Lin) (g : Lin) (k : Int) (m : List Int) (l : Lin) (ks : List Cert) (h : (pre_fcZ [(.pv (.sl 2 false (List.map enc hs)))] []) = true ∧ ((Go.Pl.preT (fun (x : Lin × Unit) => linSm x.1) [(.agg [(.int .i64 g.k), (.sl 2 false (List.map enc g.t))])]) = true ∧ (∃ y0 : Lin × Int, AV.pv (valT (fun (x : Lin × Unit) => negL x.1) [(.agg [(.int .i64 g.k), (.sl 2 false (List.map enc g.t))])]) = AV.pv (enc y0) ∧ (∃ y1 : Bool, AV.pv (valT (fun (x : List Fact × Unit) => valid7 x.1) [(.sl 0 true [])]) = AV.pv (enc y1) ∧ (if (!y1) = true then G ((.int .i64 1)) else (if (y0.2 == 1) = true then G ((.int .i64 1)) else (if (y0.2 != 0) = true then G ((.int .i64 y0.2)) else ((Go.Pl.preT (fun (x : List Fact × Cert × Unit) => factsSm x.1 && cSm x.2.1 && decide (List.length x.1 + depC x.2.1 <= 300)) [(.sl 3 false [(.agg [(.bool false), (.int .i64 y0.1.k), (.sl 2 false (List.map enc y0.1.t))])]), (.agg [(.int .i64 k), (.sl 1 false (List.map enc m)), (.int .i64 l.k), (.sl 2 false (List.map enc l.t)), (.sl 5 false (List.map enc ks))])]) = true ∧ (∃ y2 : Int, AV.pv (valT (fun (x : List Fact × Cert × Unit) => checkC x.1 x.2.1) [(.sl 3 false [(.agg [(.bool false), (.int .i64 y0.1.k), (.sl 2 false (List.map enc y0.1.t))])]), (.agg [(.int .i64 k), (.sl 1 false (List.map enc m)), (.int .i64 l.k), (.sl 2 false (List.map enc l.t)), (.sl 5 false (List.map enc ks))])]) = AV.pv (enc y2) ∧ (G ((.int .i64 y2)))))))))))) : Gets T_rprovz 0 (endP' rs_rprovz G) ic_rprovz [] (st0 34 [enc hs, enc g, .agg [enc k, enc m, enc l.k, enc l.t, enc ks]]) := Gets.tp (.req (.keep (.req (.abs (Lin × Int) (fun YY => AV.pv (enc YY)) (.lit (.abs (Bool) (fun YY => AV.pv (enc YY)) (.ask (.lit (.lit (.lit (.nil)))) (.lit (.lit (.lit (.ask (.nil) (.lit (.ask (.nil) (.lit (.lit (.lit (.lit (.lit (.lit (.req (.abs (Int) (fun YY => AV.pv (enc YY)) (.nil)))))))))))))))))))))) h (by kernel_rfl)
end Go.Pl

namespace Go.Pl
open Go.RowKit
open Enc (enc dec is)
open EncL (encL decL isL)
theorem lin_of_cells (f : Fact) : (PV.agg [.int .i64 (PV.asInt (List.getD (PV.cells (enc f)) (0 + 1) default)), .sl 2 (PV.asT (List.getD (PV.cells (enc f)) (0 + 1 + 1) default)) (PV.asXs (List.getD (PV.cells (enc f)) (0 + 1 + 1) default))]) = enc f.l := rfl
theorem rvr_loop (l : List Fact) (n : Nat) (hn : l.length = n) (hl : factsSm l = true) : ∀ (j i : Nat), j + i = n ->
  At T_rvr 1 (endO' 1 rs_rvr fun r => r = (.pv (.bool (valid7 (l.drop i))), [.row false 83 3 (l.map enc)], [])) ic_rvr 0 17 [(0, .row 0 n 0 n), (3, .pv (.int .i64 i))] [.obj (.row false 83 3 (l.map enc))] := by
 have h1 : n <= 9223372036854775807 := by
  simp only [factsSm, Bool.and_eq_true, decide_eq_true_eq] at hl
  omega
 intro j
 induction j with
 | zero =>
  intro i hi
  have e : l.drop i = [] := List.drop_of_length_le (by omega)
  rw [e]
  exact rvr_h0 l n i (iteF (by simp; omega) rfl)
 | succ j ih =>
  intro i hi
  have hlt : i < l.length := by omega
  have hsm : linOk l[i].l = true := by
   simp only [factsSm, Bool.and_eq_true, List.all_eq_true] at hl
   have := hl.2 _ (List.getElem_mem hlt)
   simp only [linSm, Bool.and_eq_true] at this
   exact this.1
  refine rvr_h0 l n i ?_
  simp only [get_row hlt, lin_of_cells]
  have hd : valid7 (l.drop i) = (validL l[i].l && valid7 (l.drop (i + 1))) := by
   rw [List.drop_eq_getElem_cons hlt]; rfl
  rw [hd]
  refine iteT (by simp; omega) ⟨by simp [hn]; omega, by simp [hn]; omega, rfl, pre_enc (l[i].l, ()) rfl hsm, ex_enc (l[i].l, ()) rfl (iteN (fun hv => ?_) fun hv => ?_)⟩
  ·have hv : validL l[i].l = false := hv
   rw [hv]; rfl
  ·have hv : validL l[i].l = true := hv
   rw [hv, Bool.true_and, next (by omega)]
   exact ih (i + 1) (by omega)
theorem rvr_run : ∀ args os, pre_cvR args os = true -> Gets T_rvr os.length (endO' os.length rs_rvr fun r => r = val_cvR args os) ic_rvr [] (st0O nt_rvr args os) := by
 intro args os h
 unfold pre_cvR at h
 split at h
 ·rename_i n m ty xs
  simp only [Bool.and_eq_true, beq_iff_eq] at h
  obtain ⟨rfl, h3⟩ := h
  obtain ⟨l, rfl, rfl, hn, hl⟩ := rowR_eq h3
  have hz := rvr_loop l m hn hl m 0 (by omega)
  rw [List.drop_zero] at hz
  have ev : val_cvR [.row 0 m 0 m] [.row false 83 3 (l.map enc)] = (.pv (.bool (valid7 l)), [.row false 83 3 (l.map enc)], []) := by
   show (AV.pv (.bool (valid7 (facR (l.map enc)))), _, _) = _
   rw [facR_enc]
  rw [ev]
  exact rvr_s l m hz
 ·cases h
theorem rfco_loop (ls : List Lin) (hl : ls.length <= 2000000) : ∀ (j i : Nat), j + i = ls.length -> 0 < i ->
  At T_rfco 0 (endO' 0 rs_rfco fun r => r = factsV ls) ic_rfco 0 20 [(0, .pv (enc ls)), (3, .row 0 i 0 i), (4, .pv (.int .i64 i))] [.obj (.row false 83 3 ((factsL (ls.take i)).map enc))] := by
 intro j
 induction j with
 | zero =>
  intro i hi h0
  have e : ls.take i = ls := List.take_of_length_le (by omega)
  have hi : i = ls.length := by omega
  rw [e]
  refine rfco_h0b ls i (factsL ls) i (iteF (lt_no (by omega)) ?_)
  rw [hi]; rfl
 | succ j ih =>
  intro i hi h0
  have hlt : i < ls.length := by omega
  refine rfco_h0b ls i (factsL (ls.take i)) i (iteT (lt_ok hlt) ⟨idx_ok hlt rfl, el_ex hlt ⟨by simp [factsL]; omega, ?_⟩⟩)
  have h := ih (i + 1) (by omega) (by omega)
  have et : factsL (ls.take (i + 1)) = factsL (ls.take i) ++ [⟨false, ls[i]⟩] := by
   unfold factsL
   rw [List.take_add_one, List.getElem?_eq_getElem hlt, List.map_append]
   rfl
  rw [et, List.map_append] at h
  rw [next (by omega)]
  exact h
theorem rfco_run : ∀ args os, pre_fcR args os = true -> Gets T_rfco os.length (endO' os.length rs_rfco fun r => r = val_fcR args os) ic_rfco [] (st0O nt_rfco args os) := by
 intro args os h
 unfold pre_fcR at h
 split at h
 ·simp only [Bool.and_eq_true, decide_eq_true_eq, Bool.not_eq_true'] at h
  obtain ⟨⟨hc, h1⟩, h2⟩ := h
  obtain ⟨ls, rfl⟩ := can_eq hc
  rw [Enc.dec_enc] at h1 h2
  have ev : val_fcR [.pv (enc ls)] [] = factsV ls := by
   show factsV (dec (enc ls : PV) : List Lin) = _
   rw [Enc.dec_enc]
  rw [ev]
  have hlt : 0 < ls.length := by
   cases ls with
   | nil => cases h2
   | cons a r => simp
  refine rfco_s ls (rfco_h0a ls 0 (iteT (by simp; omega) ⟨idx_ok (i := 0) hlt rfl, el_ex (i := 0) hlt ?_⟩))
  have h := rfco_loop ls h1 (ls.length - 1) 1 (by omega) (by omega)
  have et : factsL (ls.take 1) = [⟨false, ls[0]⟩] := by
   cases ls with
   | nil => cases hlt
   | cons a r => rfl
  rw [et] at h
  exact h
 ·cases h
theorem rfcz_run : ∀ args os, pre_fcZ args os = true -> Gets T_rfco os.length (endO' os.length rs_rfco fun r => r = val_fcZ args os) ic_rfco [] (st0O nt_rfco args os) := by
 intro args os h
 unfold pre_fcZ at h
 split at h
 ·simp only [Bool.and_eq_true] at h
  obtain ⟨hc, h2⟩ := h
  obtain ⟨ls, rfl⟩ := can_eq hc
  rw [Enc.dec_enc] at h2
  obtain rfl : ls = [] := List.isEmpty_iff.1 h2
  exact rfco_s [] (rfco_h0a [] 0 (iteF (by decide) rfl))
 ·cases h
theorem neg_one {g : Lin} : (negL g).2 = 1 ↔ validL g = false := by
 rw [neg_times]
 cases hv : validL g
 ·simp
 ·rw [if_pos rfl]
  unfold limL
  split <;> simp
theorem neg_not {g : Lin} (hn : (negL g).2 ≠ 1) : validL g = true := by
 cases h : validL g
 ·exact absurd (neg_one.2 h) hn
 ·rfl
theorem rprovr_run (hs : List Lin) (g : Lin) (c : Cert) (hp : provesPre hs g c = true) (h0 : hs ≠ []) : Gets T_rprovr 0 (endP' rs_rprovr (Fits (provesC hs g c))) ic_rprovr [] (st0 nt_rprovr (encL (hs, g, c, ()))) := by
 obtain ⟨k, m, l, ks⟩ := c
 have hp' := hp
 simp only [provesPre, Bool.and_eq_true, decide_eq_true_eq] at hp'
 obtain ⟨⟨⟨⟨h1, h2⟩, h3⟩, h4⟩, h5⟩ := hp'
 have e : (encL ((hs, g, Cert.mk k m l ks, ()) : List Lin × Lin × Cert × Unit) : List PV) = [enc hs, enc g, PV.agg [enc k, enc m, enc l.k, enc l.t, enc ks]] := by
  show [enc hs, enc g, enc (Cert.mk k m l ks)] = _
  rw [enc_cert]
 rw [e]
 have ec : (.agg [.int .i64 k, .sl 1 false (List.map enc m), .int .i64 l.k, .sl 2 false (List.map enc l.t), .sl 5 false (List.map enc ks)] : PV) = enc (Cert.mk k m l ks) := (enc_cert k m l ks).symm
 have ed : linsD (enc hs) = hs := Enc.dec_enc hs
 have ed' : (dec (enc hs : PV) : List Lin) = hs := Enc.dec_enc hs
 have hlen : (factsL hs).length = hs.length := by simp [factsL]
 refine rprovr_s hs g k m l ks ?_
 rw [ed]
 refine ⟨?_, pre_enc (g, ()) rfl h3, ex_enc (g, ()) rfl ⟨by simp only [pre_cvR, rowR_mk hlen (factsL_sm h1 h2)]; rfl, ?_⟩⟩
 ·show (can (List Lin) (enc hs) && decide ((dec (enc hs : PV) : List Lin).length <= 2000000) && !(dec (enc hs : PV) : List Lin).isEmpty) = true
  rw [can_enc, ed', decide_eq_true h1]
  simpa using h0
 rw [facR_enc]
 refine iteN (fun hv => ?_) fun hv => iteE (fun hn => ?_) fun hn => iteC (fun hz => ?_) fun hz => ?_
 ·exact fitI (by simp [provesC, hv])
 ·have hg : validL g = false := neg_one.1 hn
  exact fitI (by simp [provesC, hv, hg])
 all_goals have hg : validL g = true := neg_not hn
 ·have hz : (negL g).2 ≠ 0 := by simpa using hz
  exact fitI (by simp [provesC, hv, hg, hz])
 ·have hz : (negL g).2 = 0 := by simpa using hz
  have e2 : List.drop 0 (List.take 1 [PV.agg [PV.bool false, enc (negL g).1.k, enc (negL g).1.t]]) = [enc (⟨false, (negL g).1⟩ : Fact)] := rfl
  have e3 : List.map (enc : Fact -> PV) (factsL hs) ++ [enc (⟨false, (negL g).1⟩ : Fact)] = (moreF (factsL hs) (negL g).1).map enc := by simp [moreF]
  have e4 : List.drop 0 (List.take (hs.length + 1) ((moreF (factsL hs) (negL g).1).map (enc : Fact -> PV))) = (moreF (factsL hs) (negL g).1).map enc := by
   rw [List.drop_zero, List.take_of_length_le (by simp [hlen, moreF])]
  have e5 : List.length [enc (⟨false, (negL g).1⟩ : Fact)] = 1 := rfl
  simp only [e2, e3, e5, e4, ec]
  refine ⟨by simp [hlen]; omega, by simp [hlen, moreF], pre_enc (moreF (factsL hs) (negL g).1, .mk k m l ks, ()) rfl (proves_end hp hv hz), ex_enc (moreF (factsL hs) (negL g).1, .mk k m l ks, ()) rfl (fitI ?_)⟩
  simp only [provesC, hv, hg, hz, if_true]
  rfl
theorem rprovz_run (g : Lin) (c : Cert) (hp : provesPre [] g c = true) : Gets T_rprovz 0 (endP' rs_rprovz (Fits (provesC [] g c))) ic_rprovz [] (st0 nt_rprovz (encL (([], g, c, ()) : List Lin × Lin × Cert × Unit))) := by
 obtain ⟨k, m, l, ks⟩ := c
 have hp' := hp
 simp only [provesPre, Bool.and_eq_true, decide_eq_true_eq] at hp'
 obtain ⟨⟨⟨⟨h1, h2⟩, h3⟩, h4⟩, h5⟩ := hp'
 have e : (encL (([], g, Cert.mk k m l ks, ()) : List Lin × Lin × Cert × Unit) : List PV) = [enc ([] : List Lin), enc g, PV.agg [enc k, enc m, enc l.k, enc l.t, enc ks]] := by
  show [enc ([] : List Lin), enc g, enc (Cert.mk k m l ks)] = _
  rw [enc_cert]
 rw [e]
 have hv : valid7 (factsL []) = true := rfl
 have ec : (.agg [.int .i64 k, .sl 1 false (List.map enc m), .int .i64 l.k, .sl 2 false (List.map enc l.t), .sl 5 false (List.map enc ks)] : PV) = enc (Cert.mk k m l ks) := (enc_cert k m l ks).symm
 refine rprovz_s [] g k m l ks ⟨rfl, pre_enc (g, ()) rfl h3, ex_enc (g, ()) rfl (ex_val (([] : List Fact), ()) rfl (iteN (fun hv => by cases hv) fun _ => iteE (fun hn => ?_) fun hn => iteC (fun hz => ?_) fun hz => ?_))⟩
 ·have hg : validL g = false := neg_one.1 hn
  exact fitI (by simp [provesC, hv, hg])
 all_goals have hg : validL g = true := neg_not hn
 ·have hz : (negL g).2 ≠ 0 := by simpa using hz
  exact fitI (by simp [provesC, hv, hg, hz])
 ·have hz : (negL g).2 = 0 := by simpa using hz
  simp only [ec]
  refine ⟨pre_enc (moreF (factsL []) (negL g).1, .mk k m l ks, ()) rfl (proves_end hp hv hz), ex_enc (moreF (factsL []) (negL g).1, .mk k m l ks, ()) rfl (fitI ?_)⟩
  simp only [provesC, hv, hg, hz, if_true]
  rfl
theorem neg_lok (l : Lin) : linOk (negL l).1 = true := by
 have key : ∀ (a b : Lin) (k : Int), linOk (combineL a b k).1 = true := by
  intro a b k
  by_cases h : (combineL a b k).2 = 0
  ·have := valid_len (comb_valid h).2.2
   exact decide_eq_true (by omega)
  ·unfold combineL at h ⊢
   split
   ·split
    ·rw [if_pos ‹_›, if_pos ‹_›] at h
     unfold resM at h ⊢
     split
     ·rw [if_pos ‹_›] at h; exact absurd rfl h
     ·rfl
    ·rfl
   ·rfl
 unfold negL
 split
 ·exact key _ _ _
 ·rfl
theorem factsL_ok {hs : List Lin} (h1 : hs.length <= 2000000) (h2 : hs.all linOk = true) : factsOk (factsL hs) = true := by
 simp only [factsOk, factsL, Bool.and_eq_true, decide_eq_true_eq, List.all_map, List.all_eq_true, List.length_map] at h2 ⊢
 exact ⟨by omega, h2⟩
theorem lsmall_run : ∀ a : List Lin × Int × Unit, (decide (a.1.length <= 2000000) && a.1.all linOk) = true -> Gets T_lsmall 0 (endP' rs_lsmall (Fits (few7 (factsL a.1) a.2.1))) ic_lsmall [] (st0 nt_lsmall (encL a)) := by
 rintro ⟨hs, n, ⟨⟩⟩ h
 simp only [Bool.and_eq_true, decide_eq_true_eq] at h
 exact lsmall_s hs n ⟨pre_enc (hs, ()) rfl (decide_eq_true h.1), ex_enc (hs, ()) rfl ⟨pre_enc (factsL hs, n, ()) rfl (factsL_ok h.1 h.2), ex_enc (factsL hs, n, ()) rfl (fitB rfl)⟩⟩
theorem lproves_run : ∀ a : List Lin × Lin × Cert × Unit, (decide (a.1.length <= 2000000) && a.1.all linOk && linOk a.2.1 && cOk a.2.2.1) = true -> Gets T_lproves 0 (endP' rs_lproves (Fits true)) ic_lproves [] (st0 nt_lproves (encL a)) := by
 rintro ⟨hs, g, ⟨k, m, l, ks⟩, ⟨⟩⟩ h
 simp only [Bool.and_eq_true, decide_eq_true_eq] at h
 obtain ⟨⟨⟨h1, h2⟩, h3⟩, h4⟩ := h
 have e : (encL ((hs, g, Cert.mk k m l ks, ()) : List Lin × Lin × Cert × Unit) : List PV) = [enc hs, enc g, PV.agg [enc k, enc m, enc l.k, enc l.t, enc ks]] := by
  show [enc hs, enc g, enc (Cert.mk k m l ks)] = _
  rw [enc_cert]
 rw [e]
 have ec : (.agg [.int .i64 k, .sl 1 false (List.map enc m), .int .i64 l.k, .sl 2 false (List.map enc l.t), .sl 5 false (List.map enc ks)] : PV) = enc (Cert.mk k m l ks) := (enc_cert k m l ks).symm
 refine lproves_s hs g k m l ks ?_
 simp only [ec]
 refine ex_enc () rfl (iteN (fun h => by cases h) fun _ => ?_)
 refine ⟨pre_enc (hs, (8 : Int), ()) rfl (by show (decide (hs.length <= 2000000) && hs.all linOk) = true; rw [decide_eq_true h1, h2]; rfl), ex_enc (hs, (8 : Int), ()) rfl (iteN (fun _ => fits_of rfl) fun hw => ⟨pre_enc (g, (8 : Int), ()) rfl h3, ex_enc (g, (8 : Int), ()) rfl (iteN (fun _ => fits_of rfl) fun hg => ⟨pre_enc (Cert.mk k m l ks, (12 : Int), ()) rfl h4, ex_enc (Cert.mk k m l ks, (12 : Int), ()) rfl (iteN (fun _ => fits_of rfl) fun hs' => ?_)⟩)⟩)⟩
 obtain ⟨hfs, hn⟩ := facts_few hw (factsL_ok h1 h2)
 obtain ⟨_, hd, _, _, hc⟩ := small_c _ 12 (by omega) hs' h4
 have hd : (depC (Cert.mk k m l ks) : Int) <= 12 := hd
 have hd : depC (Cert.mk k m l ks) <= 12 := by omega
 have hn : (factsL hs).length <= 8 := hn
 have hn : hs.length <= 8 := by simpa [factsL] using hn
 have hgs : linSm g = true := few_sm hg h3
 have hall : hs.all linSm = true := by
  simp only [factsSm, factsL, Bool.and_eq_true, List.all_map, List.all_eq_true] at hfs ⊢
  exact hfs.2
 have hp : provesPre hs g (Cert.mk k m l ks) = true := by
  simp only [provesPre, Bool.and_eq_true, decide_eq_true_eq]
  exact ⟨⟨⟨⟨h1, hall⟩, hgs⟩, hc⟩, by omega⟩
 refine ⟨pre_enc (g, ()) rfl hgs, ex_enc (g, ()) rfl ⟨pre_enc (g, ()) rfl hgs, ex_enc (g, ()) rfl ⟨pre_enc ((negL g).1, (negL g).1, ()) rfl (neg_lok g), ex_enc ((negL g).1, (negL g).1, ()) rfl (iteT (cmp_self _) (iteE (fun _ => ?_) fun h => absurd rfl h))⟩⟩⟩
 exact ⟨pre_enc (hs, g, Cert.mk k m l ks, ()) rfl hp, ex_enc (hs, g, Cert.mk k m l ks, ()) rfl ⟨pre_enc (hs, g, Cert.mk k m l ks, ()) rfl hp, ex_enc (hs, g, Cert.mk k m l ks, ()) rfl (fitB (beq_self_eq_true _))⟩⟩
end Go.Pl

