/-
  Texts of mine that belong together (packed by pack.py), for every input: QRq, TyP, GLo, QLq, QLr, GLm, GLk, QLk, GLn, QLn, QLo, QLp, QRa, QRb, QRc, TyQ, GLu, GLt, QRs, QRt, QRu, QRv, GLv, QRw, QRx, TyG, TyH, TyK, TyI, TyE, GLh, GLx, QLx, GL4, GLz, GLy, QLy, QLz, QL8, GL9, QL9, GL0, QL0, QLi4, QLs4, TyB, GLb4, TyA, GLa4, QLa4, QLb4.
-/
import Derived.Test.YtfagcgjdholinaaGreatDoorKR2
import Derived.Test.YtfagcgjdholinaaGreatDoorKR3
import Derived.KernelRfl
import Derived.Lib.Bytealg
import Derived.Lib.Strings
import Derived.Lib.ItoaLen
set_option linter.unusedVariables false
set_option linter.unusedSimpArgs false
namespace Go.Pl
open Go.RowKit
open Enc (enc dec is)
open EncL (encL decL isL)
theorem linW_eq (r : LR) : linW r.k r.w (r.ts.map enc) = r.view := by
  unfold linW
  rw [show (dec (PV.sl 2 false (r.ts.map enc)) : List Coef) = r.ts from Enc.dec_enc r.ts]
  rfl
theorem can_row (ts : List Coef) : can (List Coef) (.sl 2 false (ts.map enc)) = true := can_enc (α := List Coef) ts
def plusRN (k : Int) (o : LR) (t : Coef) : LR := plusR o.view t.v (w64 (k * t.c))
theorem plusR_w (l : Lin) (s : Str) (c : Int) : (plusR l s c).w ≤ (plusR l s c).ts.length ∧ (plusR l s c).w ≤ l.t.length + 1 := by
  have h1 := pack_w l.k (insT s c false l.t)
  have h2 := pack_len l.k (insT s c false l.t)
  have h3 := ins_len_f s c l.t
  exact ⟨by show (packR _ _).w ≤ (packR _ _).ts.length; omega, by show (packR _ _).w ≤ _; omega⟩
theorem timeso_loop (l x : Lin) (k : Int) (hx : x.t.length ≤ 500000) : ∀ (m i : Nat) (r : LR), m + i = x.t.length → r.w ≤ r.ts.length → r.w ≤ 500000 + i →
    At T_timeso 0 (endO' 0 rs_timeso (fun z => z = newR ((x.t.drop i).foldl (plusRN k) r) 0 [])) ic_timeso 0 45 [(2, .pv (.int .i64 k)), (4, .ptr 0 0), (6, .ptr 1 0), (7, .ptr 2 0), (8, .pv (.int .i64 i))] [.obj (.box [.pv (.int .i64 x.k), .pv (enc x.t)]), .obj (.box [.pv (.int .i64 0), .pv (.sl 0 true [])]), .obj (.box [.pv (.int .i64 r.k), .row 3 r.ts.length 0 r.w]), .obj (.row false 87 2 (r.ts.map enc))] := by
  intro m
  induction m with
  | zero =>
    intro i r hi hw ho
    refine timeso_h0r l x k r.k r.ts.length r.w r.ts i (iteF (lt_no (by omega)) ?_)
    rw [List.drop_of_length_le (show x.t.length ≤ i by omega)]
    rfl
  | succ m ih =>
    intro i r hi hw ho
    have hlt : i < x.t.length := by omega
    refine timeso_h0r l x k r.k r.ts.length r.w r.ts i (iteT (lt_ok hlt) ⟨idx_ok hlt rfl, el_ex hlt ⟨idx_ok hlt rfl, el_ex hlt ⟨?_, ?_⟩⟩⟩)
    · show (can (List Coef) (.sl 2 false (r.ts.map enc)) && (r.ts.map (enc : Coef → PV)).length == r.ts.length && decide (r.w ≤ r.ts.length) && decide (r.w ≤ 1000000)) = true
      rw [can_row, List.length_map, decide_eq_true hw, decide_eq_true (show r.w ≤ 1000000 by omega)]
      simp
    · rw [linW_eq, List.drop_eq_getElem_cons hlt, List.foldl_cons, next (by omega)]
      have hp := plusR_w r.view x.t[i].v (w64 (k * x.t[i].c))
      have hv : r.view.t.length ≤ r.w := by show (r.ts.take r.w).length ≤ _; simp; omega
      exact ih (i + 1) (plusRN k r x.t[i]) (by omega) hp.1 (by have := hp.2; show (plusR r.view x.t[i].v (w64 (k * x.t[i].c))).w ≤ _; omega)
theorem timeso_get (l x : Lin) (k : Int) (hl : l.t.length ≤ 500000) (hx : x.t.length ≤ 500000) : Gets T_timeso 0 (endO' 0 rs_timeso (fun z => z = newR (timesR l x k) 0 [])) ic_timeso [] (st0O nt_timeso [.pv (enc l), .pv (enc x), .pv (enc k)] []) := by
  refine timeso_s l x k ⟨by simp [Enc.sz], by simp; omega, ?_⟩
  have hq : (0 + List.length (List.map (enc : Coef → PV) l.t)) = l.t.length := by simp
  rw [hq, List.nil_append]
  have h := timeso_loop l x k hx x.t.length 0 ⟨w64 (l.k + w64 (k * x.k)), l.t.length, l.t⟩ (by omega) (Nat.le_refl _) (by show l.t.length ≤ _; omega)
  exact h
theorem timeso_run : ∀ args os, pre_timesF args os = true → Gets T_timeso os.length (endO' os.length rs_timeso fun r => r = val_times args os) ic_timeso [] (st0O nt_timeso args os) := by
  intro args os h
  unfold pre_timesF at h
  split at h
  · rename_i l x k
    simp only [Bool.and_eq_true, decide_eq_true_eq] at h
    obtain ⟨⟨⟨hl, hx⟩, h1⟩, h2⟩ := h
    obtain ⟨l, rfl⟩ := can_eq hl
    obtain ⟨x, rfl⟩ := can_eq hx
    rw [Enc.dec_enc] at h1 h2
    have ev : val_times [.pv (enc l), .pv (enc x), .pv (.int .i64 k)] [] = newR (timesR l x k) 0 [] := by
      show newR (timesR (dec (enc l : PV)) (dec (enc x : PV)) k) 0 [] = _
      rw [Enc.dec_enc, Enc.dec_enc]
    rw [ev]
    exact timeso_get l x k h1 h2
  · cases h
theorem SubL.rfl (ps : List PV) : SubL ps ps := ⟨Eq.refl _, fun j x y hx hy Φ v h => by rw [hx] at hy; cases hy; exact h⟩
theorem own_new {pre : List AV → List AObj → Bool} {val : List AV → List AObj → AV × List AObj × List AObj} {a b c : PV} {r : LR} {o : AObj} (h1 : pre [.pv a, .pv b, .pv c] [] = true) (h2 : val [.pv a, .pv b, .pv c] [] = newR r 0 []) :
    (ownCall 1 pre val [.pv a, .pv b, .pv c]).run [.obj o, .fresh] = some (r.av 1, [.obj o, .obj r.ob]) := by
  have H : ∀ (t : Bool) (v : AV × List AObj × List AObj), t = true → v = newR r 0 [] → (HM.req t (match v with
      | (x, os, ext) => match x.ren (bwd [] 1), renOs (bwd [] 1) os, renOs (bwd [] 1) ext with
        | some x', some os', some ext' => if os'.length = ([] : List Nat).length then putAll (([] : List Nat).zip os') (newAll 1 ext' (.ret x')) else .fail
        | _, _, _ => .fail)).run [.obj o, .fresh] = some (r.av 1, [.obj o, .obj r.ob]) := by
    rintro _ _ rfl rfl
    rfl
  exact H _ _ h1 h2
theorem pack_new (fz : Bool) (ty : Nat) (xs : List PV) (r : LR) : packO 1 (reach 256 (List.range 1 ++ refsL [r.av 1]) [] [.obj (.row fz ty 2 xs), .obj r.ob]) [r.av 1] [.obj (.row fz ty 2 xs), .obj r.ob] = some ([r.av 1], [.row fz ty 2 xs, r.ob]) := by
  obtain ⟨k, w, ts⟩ := r
  rfl
theorem plus_thaw {P : Program} {f : Nat} (h : OwnOK P f pre_plusF val_plusF) : OwnOK P f pre_plusW val_plusW := by
  refine OwnOK.thaw h fun args os hp => ?_
  unfold pre_plusW at hp
  split at hp
  · rename_i k q w s c fz ty xs
    simp only [Bool.and_eq_true, decide_eq_true_eq, beq_iff_eq] at hp
    obtain ⟨⟨⟨hc, hq⟩, hw⟩, hw2⟩ := hp
    obtain ⟨ts, e⟩ := can_eq hc
    have e : xs = ts.map enc := by cases e; rfl
    subst e
    have hq : ts.length = q := by simpa using hq
    subst hq
    have ed : (dec (PV.sl 2 false (ts.map enc)) : List Coef) = ts := Enc.dec_enc ts
    have ev : val_plusW [.agg [.pv (.int .i64 k), .row 0 ts.length 0 w], .pv (.str s), .pv (.int .i64 c)] [.row fz ty 2 (ts.map enc)] = newR (plusR ⟨k, ts.take w⟩ ⟨s⟩ c) 1 [.row true ty 2 (ts.map enc)] := by
      show newR (plusR ⟨k, List.take w (dec (PV.sl 2 false (ts.map enc)) : List Coef)⟩ ⟨s⟩ c) 1 _ = _
      rw [ed]
    rw [ev]
    have e2 : (.sl 2 false (List.drop 0 (List.take w (List.map (enc : Coef → PV) ts))) : PV) = enc (ts.take w) := by rw [List.drop_zero, ← List.map_take]; rfl
    have hcan : pre_plusF [.pv (.agg [.int .i64 k, .sl 2 false (List.drop 0 (List.take w (List.map (enc : Coef → PV) ts)))]), .pv (.str s), .pv (.int .i64 c)] [] = true := by
      rw [e2]
      show (can Lin (enc (⟨k, ts.take w⟩ : Lin)) && decide ((dec (enc (⟨k, ts.take w⟩ : Lin) : PV) : Lin).t.length ≤ 1000000)) = true
      rw [can_enc, Enc.dec_enc]
      simp; omega
    have hval : val_plusF [.pv (.agg [.int .i64 k, .sl 2 false (List.drop 0 (List.take w (List.map (enc : Coef → PV) ts)))]), .pv (.str s), .pv (.int .i64 c)] [] = newR (plusR ⟨k, ts.take w⟩ ⟨s⟩ c) 0 [] := by
      rw [e2]
      show newR (plusR (dec (enc (⟨k, ts.take w⟩ : Lin) : PV)) ⟨s⟩ c) 0 [] = _
      rw [Enc.dec_enc]
    generalize plusR ⟨k, ts.take w⟩ ⟨s⟩ c = r at hval ⊢
    generalize hsl : List.drop 0 (List.take w (List.map (enc : Coef → PV) ts)) = sl at hcan hval
    have hl : (List.map (enc : Coef → PV) ts).length = ts.length := by simp
    generalize List.map (enc : Coef → PV) ts = xs at hl hsl ⊢
    rw [← hl]
    refine ⟨1, [.agg [.int .i64 k, .sl 2 false sl], .str s, .int .i64 c], [.agg [.int .i64 k, .sl 2 false sl], .str s, .int .i64 c], [.obj (.row true ty 2 xs), .fresh], r.av 1, [.obj (.row true ty 2 xs), .obj r.ob], r.av 1, [.row true ty 2 xs, r.ob], SubL.rfl _, ?_, ?_, ?_, rfl⟩
    · subst hsl
      simp [frzL, frz, HM.bind, HM.run, objs, HM.req]
      done
    · exact own_new hcan hval
    · exact pack_new true ty xs r
  · cases hp
theorem LR.frz_av (r : LR) : (frz (r.av 0)).run (objs [r.ob]) = some (enc r.view, [.obj (.row true 87 2 (r.ts.map enc))]) := by
  have : (PV.agg [.int .i64 r.k, .sl 2 false (List.drop 0 (List.take r.w (r.ts.map enc)))]) = enc r.view := by
    rw [List.drop_zero, ← List.map_take]; rfl
  rw [← this]
  simp [frz, frzL, HM.bind, HM.run, objs, LR.av, LR.ob]
theorem times_pure {P : Program} {f : Nat} (h : OwnOK P f pre_timesF val_times) : Does P f (fun x : Lin × Lin × Int × Unit => decide (x.1.t.length ≤ 500000) && decide (x.2.1.t.length ≤ 500000)) (fun x : Lin × Lin × Int × Unit => timesL x.1 x.2.1 x.2.2.1) := Does.of_own h fun a ha => by
  obtain ⟨l, x, k, ⟨⟩⟩ := a
  have ha : l.t.length ≤ 500000 ∧ x.t.length ≤ 500000 := by simpa using ha
  refine ⟨(timesR l x k).av 0, [(timesR l x k).ob], _, _, ?_, ?_, LR.frz_av _, ?_⟩
  · show (can Lin (enc l) && can Lin (enc x) && decide ((dec (enc l : PV) : Lin).t.length ≤ 500000) && decide ((dec (enc x : PV) : Lin).t.length ≤ 500000)) = true
    rw [can_enc, can_enc, Enc.dec_enc, Enc.dec_enc, decide_eq_true ha.1, decide_eq_true ha.2]; rfl
  · show newR (timesR (dec (enc l : PV)) (dec (enc x : PV)) k) 0 [] = _
    rw [Enc.dec_enc, Enc.dec_enc]; rfl
  · rw [timesR_view]; exact .refl _
end Go.Pl

namespace Go.Pl
open Go.RowKit
open Enc (enc dec is)
open EncL (encL decL isL)
end Go.Pl

namespace Go.Pl
open Go.RowKit
open Enc (enc dec is)
open EncL (encL decL isL)
set_option maxRecDepth 100000
-- IMPOSSIBLE
end Go.Pl

namespace Go.Pl
open Go.RowKit
open Enc (enc dec is)
open EncL (encL decL isL)
end Go.Pl

namespace Go.Pl
open Go.RowKit
open Enc (enc dec is)
open EncL (encL decL isL)
end Go.Pl

namespace Go.Pl
open Go.RowKit
open Enc (enc dec is)
open EncL (encL decL isL)
set_option maxRecDepth 100000
end Go.Pl

namespace Go.Pl
open Go.RowKit
open Enc (enc dec is)
open EncL (encL decL isL)
set_option maxRecDepth 100000
end Go.Pl

namespace Go.Pl
open Go.RowKit
open Enc (enc dec is)
open EncL (encL decL isL)
structure Cert2 where
  a : Cert
  b : Cert
instance : Enc Cert2 where
  sz := 10
  enc x := .agg (PV.cells (enc x.a) ++ PV.cells (enc x.b))
  dec | .agg [a, b, c, d, e, f, g, h, i, j] => ⟨dec (.agg [a, b, c, d, e]), dec (.agg [f, g, h, i, j])⟩ | _ => ⟨.mk 0 [] ⟨0, []⟩ [], .mk 0 [] ⟨0, []⟩ []⟩
  is | .agg [a, b, c, d, e, f, g, h, i, j] => is Cert (.agg [a, b, c, d, e]) && is Cert (.agg [f, g, h, i, j]) | _ => false
  is_enc v := by
    obtain ⟨⟨k, m, l, ks⟩, ⟨k', m', l', ks'⟩⟩ := v
    rw [enc_cert, enc_cert]
    show (is Cert (.agg [enc k, enc m, enc l.k, enc l.t, enc ks]) && is Cert (.agg [enc k', enc m', enc l'.k, enc l'.t, enc ks'])) = true
    rw [← enc_cert, ← enc_cert, Enc.is_enc, Enc.is_enc]; rfl
  dec_enc v := by
    obtain ⟨⟨k, m, l, ks⟩, ⟨k', m', l', ks'⟩⟩ := v
    rw [enc_cert, enc_cert]
    show (⟨dec (.agg [enc k, enc m, enc l.k, enc l.t, enc ks]), dec (.agg [enc k', enc m', enc l'.k, enc l'.t, enc ks'])⟩ : Cert2) = _
    rw [← enc_cert, ← enc_cert, Enc.dec_enc, Enc.dec_enc]
  sub p h := by
    cases p with
    | agg xs =>
      match xs, h with
      | [a, b, c, d, e, f, g, h', i, j], h =>
        simp only [Bool.and_eq_true] at h
        have h1 := Enc.sub (α := Cert) _ h.1
        have h2 := Enc.sub (α := Cert) _ h.2
        exact SubC.agg (h1.1.append h2.1)
    | _ => cases h
theorem few_sm {l : Lin} {n : Int} (h : few4 l n = true) (hl : linOk l = true) : linSm l = true := by
  simp only [few4, Bool.and_eq_true, List.all_eq_true, decide_eq_true_eq] at h
  simp only [linSm, hl, Bool.true_and, List.all_eq_true, decide_eq_true_eq]
  intro t ht
  have := h.1 t ht
  omega
mutual
theorem small_c : ∀ (c : Cert) (n : Int), n ≤ 12 → smallC c n = true → cOk c = true → 1 ≤ n ∧ (depC c : Int) ≤ n ∧ 1 ≤ sizeC c ∧ sizeC c ≤ n ∧ cSm c = true
  | .mk k m l ks, n, hn, h, ho => by
    simp only [smallC, Bool.and_eq_true, Bool.not_eq_true', decide_eq_false_iff_not] at h
    obtain ⟨h1, h2, h3, h4, h5⟩ := h
    simp only [cOk, Bool.and_eq_true, decide_eq_true_eq] at ho
    obtain ⟨⟨⟨o1, o2⟩, o3⟩, o4⟩ := ho
    obtain ⟨a1, a2, a3, a4⟩ := small_cs ks n 1 (by omega) hn (by omega) (by omega) h5 o4
    rw [depC, sizeC]
    refine ⟨by omega, by omega, by omega, by omega, ?_⟩
    simp only [cSm, few_sm h2 o2, a4, decide_eq_true o1, decide_eq_true o3]
    rfl
theorem small_cs : ∀ (cs : List Cert) (n s : Int), 1 ≤ n → n ≤ 12 → 1 ≤ s → s ≤ 100 - n → smallCs cs n = true → cOks cs = true → (depCs cs : Int) ≤ n - 1 ∧ s ≤ sizeCs s cs ∧ sizeCs s cs ≤ s + n - 1 ∧ cSms cs = true
  | [], n, s, h1, h2, h3, h4, _, _ => by
    rw [depCs, sizeCs]
    exact ⟨by omega, by omega, by omega, rfl⟩
  | c :: cs, n, s, h1, h2, h3, h4, h, ho => by
    simp only [smallCs, Bool.and_eq_true] at h
    simp only [cOks, Bool.and_eq_true] at ho
    rw [w64_id (by omega) (by omega)] at h
    obtain ⟨b1, b2, b3, b4, b5⟩ := small_c c (n - 1) (by omega) h.1 ho.1
    have h' := h.2
    rw [w64_id (by omega) (by omega)] at h'
    obtain ⟨a1, a2, a3, a4⟩ := small_cs cs (n - sizeC c) (s + sizeC c) (by omega) (by omega) (by omega) (by omega) h' ho.2
    rw [depCs, sizeCs, w64_id (by omega) (by omega)]
    refine ⟨by omega, by omega, by omega, ?_⟩
    simp only [cSms, b5, a4]
    rfl
end
end Go.Pl

namespace Go.Pl
open Go.RowKit
open Enc (enc dec is)
open EncL (encL decL isL)
set_option maxRecDepth 100000
end Go.Pl

namespace Go.Pl
open Go.RowKit
open Enc (enc dec is)
open EncL (encL decL isL)
theorem atM_mem : ∀ {m : List (Str × Int)}, (keysM m).Nodup → ∀ p ∈ m, atM m p.1.s = p.2
  | q :: m, h, p, hp => by
    simp only [keysM, List.map_cons, List.nodup_cons] at h
    rcases List.mem_cons.1 hp with rfl | hp
    · simp [atM]
    · have : (q.1.s == p.1.s) = false := by
        simp only [beq_eq_false_iff_ne, ne_eq]
        intro e
        exact h.1 (e ▸ List.mem_map.2 ⟨p, hp, rfl⟩)
      have ih := atM_mem (m := m) h.2 p hp
      simp only [atM, List.find?_cons, this] at ih ⊢
      exact ih
end Go.Pl

namespace Go.Pl
open Go.RowKit
open Enc (enc dec is)
open EncL (encL decL isL)
end Go.Pl

namespace Go.Pl
open Go.RowKit
open Enc (enc dec is)
open EncL (encL decL isL)
end Go.Pl

namespace Go.Pl
open Go.RowKit
def coefT (ts : List Coef) (s : List UInt8) : Int := ((ts.find? fun t => t.v.s == s).map (·.c)).getD 0
def ascP (ts : List Coef) : Prop := ts.Pairwise fun a b => a.v.s < b.v.s
def nzP (ts : List Coef) : Prop := ∀ t ∈ ts, t.c ≠ 0
theorem coefT_nil (s : List UInt8) : coefT [] s = 0 := rfl
theorem coefT_cons (t : Coef) (ts : List Coef) (s : List UInt8) : coefT (t :: ts) s = if t.v.s = s then t.c else coefT ts s := by
  simp only [coefT, List.find?_cons]
  by_cases h : t.v.s = s
  · simp [h]
  · have : (t.v.s == s) = false := by simpa using h
    simp [this, h]
theorem coefT_lt {s : List UInt8} : ∀ {ts : List Coef}, (∀ t ∈ ts, s < t.v.s) → coefT ts s = 0
  | [], _ => rfl
  | t :: ts, h => by
    have h1 := h t (by simp)
    rw [coefT_cons, if_neg (fun e => by rw [e] at h1; exact List.lt_irrefl _ h1)]
    exact coefT_lt fun u hu => h u (by simp [hu])
theorem asc_cons {t : Coef} {ts : List Coef} : ascP (t :: ts) ↔ (∀ u ∈ ts, t.v.s < u.v.s) ∧ ascP ts := List.pairwise_cons
theorem canon_ext : ∀ {a b : List Coef}, ascP a → nzP a → ascP b → nzP b → (∀ s, coefT a s = coefT b s) → a = b
  | [], [], _, _, _, _, _ => rfl
  | [], y :: ys, _, _, _, hn, h => by
    have := h y.v.s
    rw [coefT_nil, coefT_cons, if_pos rfl] at this
    exact absurd this.symm (hn y (by simp))
  | x :: xs, [], _, hn, _, _, h => by
    have := h x.v.s
    rw [coefT_nil, coefT_cons, if_pos rfl] at this
    exact absurd this (hn x (by simp))
  | x :: xs, y :: ys, ha, hna, hb, hnb, h => by
    obtain ⟨ha1, ha2⟩ := asc_cons.1 ha
    obtain ⟨hb1, hb2⟩ := asc_cons.1 hb
    have hxy : x.v.s = y.v.s := by
      by_cases h1 : x.v.s < y.v.s
      · have e := h x.v.s
        rw [coefT_cons, if_pos rfl, coefT_lt (ts := y :: ys) (fun t ht => by
          rcases List.mem_cons.1 ht with rfl | ht
          · exact h1
          · exact List.lt_trans h1 (hb1 t ht))] at e
        exact absurd e (hna x (by simp))
      · by_cases h2 : x.v.s = y.v.s
        · exact h2
        · have h3 := tri h1 h2
          have e := h y.v.s
          rw [coefT_cons (t := y), if_pos rfl, coefT_lt (ts := x :: xs) (fun t ht => by
            rcases List.mem_cons.1 ht with rfl | ht
            · exact h3
            · exact List.lt_trans h3 (ha1 t ht))] at e
          exact absurd e.symm (hnb y (by simp))
    have hc : x.c = y.c := by
      have e := h x.v.s
      rwa [coefT_cons, if_pos rfl, coefT_cons, if_pos hxy.symm] at e
    have hxe : x = y := by
      have hv : x.v = y.v := str_ext.2 hxy
      cases x; cases y; simp only at hv hc; rw [hv, hc]
    have ht : xs = ys := canon_ext ha2 (fun t ht => hna t (by simp [ht])) hb2 (fun t ht => hnb t (by simp [ht])) fun s => by
      by_cases hs : x.v.s = s
      · rw [coefT_lt (ts := xs) (fun t ht => hs ▸ ha1 t ht), coefT_lt (ts := ys) (fun t ht => hs ▸ hxy ▸ hb1 t ht)]
      · have e := h s
        rwa [coefT_cons, if_neg hs, coefT_cons, if_neg (fun e => hs (hxy.trans e))] at e
    rw [hxe, ht]
theorem ins_skip (s : Str) (c : Int) : ∀ {ts : List Coef}, (∀ t ∈ ts, s.s < t.v.s) → insT s c true ts = ts
  | [], _ => by simp [insT]
  | t :: ts, h => by
    have h1 := h t (by simp)
    rw [ins_t, if_neg (fun e => by rw [e] at h1; exact List.lt_irrefl _ h1), ins_skip s c fun u hu => h u (by simp [hu])]
theorem ins_mem (s : Str) (c : Int) : ∀ {ts : List Coef}, ascP ts → ∀ u ∈ insT s c false ts, u.v.s = s.s ∨ ∃ t ∈ ts, t.v.s = u.v.s
  | [], _, u, hu => by
    simp only [insT, Bool.false_eq_true, if_false, List.mem_singleton] at hu
    exact .inl (by rw [hu])
  | t :: ts, h, u, hu => by
    obtain ⟨h1, h2⟩ := asc_cons.1 h
    rw [ins_f] at hu
    split at hu
    · rename_i hlt
      rw [ins_skip s c (fun u hu => List.lt_trans hlt (h1 u hu))] at hu
      rcases List.mem_cons.1 hu with rfl | hu
      · exact .inl rfl
      · exact .inr ⟨u, hu, rfl⟩
    · split at hu
      · rename_i he
        rw [ins_skip s c (fun u hu => he ▸ h1 u hu)] at hu
        rcases List.mem_cons.1 hu with rfl | hu
        · exact .inr ⟨t, by simp, rfl⟩
        · exact .inr ⟨u, by simp [hu], rfl⟩
      · rcases List.mem_cons.1 hu with rfl | hu
        · exact .inr ⟨u, by simp, rfl⟩
        · rcases ins_mem s c h2 u hu with h | ⟨w, hw, e⟩
          · exact .inl h
          · exact .inr ⟨w, by simp [hw], e⟩
theorem ins_asc (s : Str) (c : Int) : ∀ {ts : List Coef}, ascP ts → ascP (insT s c false ts)
  | [], _ => by simp [insT, ascP]
  | t :: ts, h => by
    obtain ⟨h1, h2⟩ := asc_cons.1 h
    rw [ins_f]
    split
    · rename_i hlt
      rw [ins_skip s c (fun u hu => List.lt_trans hlt (h1 u hu))]
      exact asc_cons.2 ⟨fun u hu => by
        rcases List.mem_cons.1 hu with rfl | hu
        · exact hlt
        · exact List.lt_trans hlt (h1 u hu), h⟩
    · rename_i hlt
      split
      · rename_i he
        rw [ins_skip s c (fun u hu => he ▸ h1 u hu)]
        exact asc_cons.2 ⟨h1, h2⟩
      · rename_i he
        have hts : t.v.s < s.s := tri hlt (fun e => he (str_ext.2 e.symm))
        refine asc_cons.2 ⟨fun u hu => ?_, ins_asc s c h2⟩
        rcases ins_mem s c h2 u hu with e | ⟨w, hw, e⟩
        · rw [e]; exact hts
        · rw [← e]; exact h1 w hw
theorem ins_coef (s : Str) (c : Int) (hc : w64 c = c) : ∀ {ts : List Coef}, ascP ts → ∀ x, coefT (insT s c false ts) x = if s.s = x then w64 (coefT ts s.s + c) else coefT ts x
  | [], _, x => by
    have e : insT s c false [] = [⟨s, c⟩] := by simp [insT]
    rw [e, coefT_cons, coefT_nil, coefT_nil, Int.zero_add, hc]
  | t :: ts, h, x => by
    obtain ⟨h1, h2⟩ := asc_cons.1 h
    rw [ins_f]
    split
    · rename_i hlt
      rw [ins_skip s c (fun u hu => List.lt_trans hlt (h1 u hu)), coefT_cons, coefT_lt (ts := t :: ts) (s := s.s) (fun u hu => by
        rcases List.mem_cons.1 hu with rfl | hu
        · exact hlt
        · exact List.lt_trans hlt (h1 u hu)), Int.zero_add, hc]
    · rename_i hlt
      split
      · rename_i he
        have he' : t.v.s = s.s := by rw [he]
        have e1 : coefT (t :: ts) s.s = t.c := by rw [coefT_cons, if_pos he']
        have e2 : coefT (t :: ts) x = if s.s = x then t.c else coefT ts x := by rw [coefT_cons, he']
        rw [ins_skip s c (fun u hu => he ▸ h1 u hu), coefT_cons, e1, e2]
        show (if t.v.s = x then w64 (t.c + c) else coefT ts x) = _
        rw [he']
        by_cases hx : s.s = x
        · rw [if_pos hx, if_pos hx]
        · rw [if_neg hx, if_neg hx, if_neg hx]
      · rename_i he
        have he' : ¬ t.v.s = s.s := fun e => he (str_ext.2 e)
        rw [coefT_cons, ins_coef s c hc h2 x, coefT_cons (s := s.s), if_neg he', coefT_cons (s := x)]
        by_cases hx : s.s = x
        · rw [if_pos hx, if_pos hx, if_neg (fun e => he' (e.trans hx.symm))]
        · rw [if_neg hx, if_neg hx]
theorem filt_coef : ∀ {ts : List Coef}, ascP ts → ∀ x, coefT (ts.filter fun t => decide (t.c ≠ 0)) x = coefT ts x
  | [], _, x => rfl
  | t :: ts, h, x => by
    obtain ⟨h1, h2⟩ := asc_cons.1 h
    rw [List.filter_cons]
    split
    · rw [coefT_cons, coefT_cons, filt_coef h2 x]
    · rename_i hz
      have hz0 : t.c = 0 := by simpa using hz
      rw [coefT_cons, filt_coef h2 x]
      by_cases hx : t.v.s = x
      · rw [if_pos hx, hz0, coefT_lt fun u hu => hx ▸ h1 u hu]
      · rw [if_neg hx]
theorem plus_asc {l : Lin} (s : Str) (c : Int) (h : ascP l.t) : ascP (plusL l s c).t := (ins_asc s c h).sublist List.filter_sublist
theorem plus_nz (l : Lin) (s : Str) (c : Int) : nzP (plusL l s c).t := fun t ht => by simpa using (List.mem_filter.1 ht).2
theorem plus_coef {l : Lin} (s : Str) {c : Int} (hc : w64 c = c) (h : ascP l.t) (x : List UInt8) : coefT (plusL l s c).t x = if s.s = x then w64 (coefT l.t s.s + c) else coefT l.t x := by
  show coefT (List.filter _ _) x = _
  rw [filt_coef (ins_asc s c h), ins_coef s c hc h]
theorem w64_rng (n : Int) : -9223372036854775808 ≤ w64 n ∧ w64 n ≤ 9223372036854775807 := by
  unfold w64 IntKind.wrap
  simp only [IntKind.bits, IntKind.signed]
  simp
  split <;> omega
theorem wrap_wrap (n : Int) : w64 (w64 n) = w64 n := w64_id (by have := w64_rng n; omega) (by have := w64_rng n; omega)
theorem upd_at (s : Str) (c : Int) (x : List UInt8) : ∀ m : List (Str × Int), atM (updM s c m) x = if s.s = x then c else atM m x
  | [] => by
    rw [updM]
    simp only [atM, List.find?_cons]
    by_cases h : s.s = x
    · simp [h]
    · have : (s.s == x) = false := by simpa using h
      simp [this, h]
  | p :: m => by
    have ih := upd_at s c x m
    rw [updM]
    split
    · rename_i he
      simp only [atM, List.find?_cons]
      by_cases h : s.s = x
      · simp [h]
      · have h1 : (s.s == x) = false := by simpa using h
        have h2 : (p.1.s == x) = false := by rw [← he]; exact h1
        simp [h1, h2, h]
    · rename_i he
      simp only [atM, List.find?_cons] at ih ⊢
      by_cases h : p.1.s = x
      · have h2 : ¬ s.s = x := fun e => he (e.trans h.symm)
        simp [h, h2]
      · have h2 : (p.1.s == x) = false := by simpa using h
        rw [h2]
        exact ih
def repM (ts : List Coef) (m : List (Str × Int)) : Prop := ascP ts ∧ ∀ s, coefT ts s = atM m s
theorem times_rep (k : Int) : ∀ (x : List Coef) (l : Lin) (m : List (Str × Int)), repM l.t m → repM (x.foldl (fun o t => plusL o t.v (w64 (k * t.c))) l).t (addT k x m)
  | [], l, m, h => h
  | t :: x, l, m, h => by
    rw [List.foldl_cons, addT]
    refine times_rep k x _ _ ⟨plus_asc _ _ h.1, fun s => ?_⟩
    rw [plus_coef _ (wrap_wrap _) h.1, upd_at, h.2, h.2]
theorem fold_nz (k : Int) : ∀ (x : List Coef) (l : Lin), nzP l.t → nzP (x.foldl (fun o t => plusL o t.v (w64 (k * t.c))) l).t
  | [], l, h => h
  | t :: x, l, h => fold_nz k x _ (plus_nz _ _ _)
theorem fold_k (k : Int) : ∀ (x : List Coef) (l : Lin), (x.foldl (fun o t => plusL o t.v (w64 (k * t.c))) l).k = l.k
  | [], l => rfl
  | t :: x, l => fold_k k x _
theorem times_nz {l x : Lin} {k : Int} (h : nzP l.t) : nzP (timesL l x k).t := fold_nz k x.t _ h
theorem times_k (l x : Lin) (k : Int) : (timesL l x k).k = w64 (l.k + w64 (k * x.k)) := fold_k k x.t _
theorem atM_none {m : List (Str × Int)} {s : List UInt8} (h : s ∉ keysM m) : atM m s = 0 := by
  have : (m.find? fun p => p.1.s == s) = none := by
    rw [List.find?_eq_none]
    intro p hp e
    exact h (List.mem_map.2 ⟨p, hp, by simpa using e⟩)
  simp [atM, this]
theorem find_map_names (m : List (Str × Int)) (x : List UInt8) : ∀ l : List (List UInt8), coefT (l.map fun s => (⟨⟨s⟩, atM m s⟩ : Coef)) x = if x ∈ l then atM m x else 0
  | [] => by simp [coefT]
  | s :: l => by
    rw [List.map_cons, coefT_cons, find_map_names m x l]
    by_cases h : s = x
    · subst h; simp
    · have : ¬ x = s := fun e => h e.symm
      simp [h, this]
theorem sort_asc {l : List (List UInt8)} (h : l.Nodup) : (sortS l).Pairwise (· < ·) := by
  have tr : ∀ x y z : List UInt8, decide (x ≤ y) = true → decide (y ≤ z) = true → decide (x ≤ z) = true := fun x y z h k => by simp only [decide_eq_true_eq] at *; exact List.le_trans h k
  have to : ∀ x y : List UInt8, (decide (x ≤ y) || decide (y ≤ x)) = true := fun x y => by simp only [Bool.or_eq_true, decide_eq_true_eq]; exact List.le_total x y
  have h1 := List.pairwise_mergeSort tr to l
  have h2 : (sortS l).Nodup := (List.mergeSort_perm l _).nodup_iff.2 h
  refine (h1.and h2).imp fun {a b} hab => ?_
  have h3 : a ≤ b := by simpa using hab.1
  exact Decidable.byContradiction fun hn => hab.2 (List.le_antisymm h3 (List.not_lt.1 hn))
theorem names_asc (m : List (Str × Int)) {l : List (List UInt8)} (h : l.Nodup) : ascP ((sortS l).map fun s => (⟨⟨s⟩, atM m s⟩ : Coef)) := List.Pairwise.map _ (fun a b hab => hab) (sort_asc h)
theorem terms_rep {m : List (Str × Int)} (hd : (keysM m).Nodup) : repM (termsM m) m ∧ nzP (termsM m) := by
  have hd2 : ((m.filter fun p => decide (p.2 ≠ 0)).map (·.1.s)).Nodup := hd.sublist (List.filter_sublist.map _)
  refine ⟨⟨names_asc m hd2, fun s => ?_⟩, fun t ht => ?_⟩
  · rw [termsM, find_map_names]
    split
    · rfl
    · rename_i hn
      refine (Decidable.byContradiction fun h0 => hn ?_)
      have hk : s ∈ keysM m := Decidable.byContradiction fun hk => h0 (atM_none hk).symm
      obtain ⟨p, hp, rfl⟩ := List.mem_map.1 hk
      have e := atM_mem hd p hp
      refine ((List.mergeSort_perm _ _).mem_iff).2 (List.mem_map.2 ⟨p, List.mem_filter.2 ⟨hp, ?_⟩, rfl⟩)
      rw [← e]
      simpa using fun e => h0 e.symm
  · obtain ⟨s, hs, rfl⟩ := List.mem_map.1 ht
    have hs := ((List.mergeSort_perm _ _).mem_iff).1 hs
    obtain ⟨p, hp, rfl⟩ := List.mem_map.1 hs
    obtain ⟨hp1, hp2⟩ := List.mem_filter.1 hp
    show atM m p.1.s ≠ 0
    rw [atM_mem hd p hp1]
    simpa using hp2
theorem rep_terms {ts : List Coef} {m : List (Str × Int)} (h : repM ts m) (hn : nzP ts) (hd : (keysM m).Nodup) : ts = termsM m :=
  canon_ext h.1 hn (terms_rep hd).1.1 (terms_rep hd).2 fun s => (h.2 s).trans ((terms_rep hd).1.2 s).symm
theorem ascB_asc : ∀ {l : List Coef}, ascB l = true → ascP l
  | [], _ => List.Pairwise.nil
  | [a], _ => by simp [ascP]
  | a :: b :: l, h => by
    simp only [ascB, Bool.and_eq_true, decide_eq_true_eq] at h
    have ih := ascB_asc (l := b :: l) h.2
    refine asc_cons.2 ⟨fun u hu => ?_, ih⟩
    rcases List.mem_cons.1 hu with rfl | hu
    · exact h.1
    · exact List.lt_trans h.1 ((asc_cons.1 ih).1 u hu)
theorem valid_asc {l : Lin} (h : validL l = true) : ascP l.t := by
  simp only [validL, Bool.and_eq_true] at h
  exact ascB_asc h.1.1.2
theorem valid_nz {l : Lin} (h : validL l = true) : nzP l.t := fun t ht => (valid_coef h ht).2.1
theorem one_rep : ∀ (x pre : List Coef) (m : List (Str × Int)), ascP (pre ++ x) → (∀ t ∈ x, w64 t.c = t.c) → (∀ s, coefT pre s = atM m s) → ∀ s, coefT (pre ++ x) s = atM (addT 1 x m) s
  | [], pre, m, _, _, h, s => by rw [List.append_nil]; exact h s
  | t :: x, pre, m, ha, hw, h, s => by
    have e : pre ++ t :: x = (pre ++ [t]) ++ x := by simp
    rw [addT, e]
    refine one_rep x (pre ++ [t]) _ (e ▸ ha) (fun u hu => hw u (by simp [hu])) (fun y => ?_) s
    have hp : ∀ u ∈ pre, u.v.s < t.v.s := fun u hu => (List.pairwise_append.1 ha).2.2 u hu t (by simp)
    have hnone : coefT pre t.v.s = 0 := by
      have : (pre.find? fun u => u.v.s == t.v.s) = none := by
        rw [List.find?_eq_none]
        intro u hu e
        have e : u.v.s = t.v.s := by simpa using e
        have := hp u hu
        rw [e] at this
        exact List.lt_irrefl _ this
      simp [coefT, this]
    have hw1 : IntKind.i64.wrap t.c = t.c := hw t (by simp)
    rw [upd_at, ← h, ← h, hnone, Int.one_mul, hw1, Int.zero_add, hw1]
    by_cases hy : t.v.s = y
    · have hn : (pre.find? fun u => u.v.s == y) = none := by
        rw [List.find?_eq_none]
        intro u hu e
        have e : u.v.s = y := by simpa using e
        have := hp u hu
        rw [e, hy] at this
        exact List.lt_irrefl _ this
      rw [if_pos hy]
      simp [coefT, List.find?_append, hn, hy]
    · have hn : ([t].find? fun u => u.v.s == y) = none := by simp [hy]
      rw [if_neg hy]
      simp only [coefT, List.find?_append, hn, Option.or_none]
theorem coef_w {l : Lin} (h : validL l = true) : ∀ t ∈ l.t, w64 t.c = t.c := fun t ht => by
  have := (valid_coef h ht).2.2
  exact w64_id (by omega) (by omega)
theorem self_rep {l : Lin} (h : validL l = true) : repM l.t (addT 1 l.t []) := ⟨valid_asc h, fun s => by
  have := one_rep l.t [] [] (by simpa using valid_asc h) (coef_w h) (fun s => rfl) s
  simpa using this⟩
def limL (l : Lin) : Lin × Int := if validL l then (l, 0) else (⟨0, []⟩, 3)
theorem combine_times {a b : Lin} (k : Int) (ha : validL a = true) (hb : validL b = true) : combineL a b k = limL (timesL a b k) := by
  have hk := valid_k ha
  have hr := times_rep k b.t ⟨w64 (a.k + w64 (k * b.k)), a.t⟩ _ (self_rep (l := a) ha)
  have hd : (keysM (addT k b.t (addT 1 a.t []))).Nodup := addT_nodup _ _ _ (addT_nodup _ _ _ (by simp [keysM]))
  have e1 : (timesL a b k).t = termsM (addT k b.t (addT 1 a.t [])) := rep_terms hr (times_nz (valid_nz ha)) hd
  have e2 : w64 (w64 (0 + w64 (1 * a.k)) + w64 (k * b.k)) = (timesL a b k).k := by
    rw [times_k, Int.one_mul, w64_id (n := a.k) (by omega) (by omega), Int.zero_add, w64_id (n := a.k) (by omega) (by omega)]
  have e3 : (⟨(timesL a b k).k, (timesL a b k).t⟩ : Lin) = timesL a b k := rfl
  unfold combineL
  rw [ha, hb, if_pos rfl, if_pos rfl, e2, resM, ← e1, e3, limL]
end Go.Pl

namespace Go.Pl
open Go.RowKit
def wM (m : List (Str × Int)) : Prop := ∀ s, w64 (atM m s) = atM m s
theorem add_zero : ∀ (x : List Coef) (m : List (Str × Int)), wM m → ∀ s, atM (addT 0 x m) s = atM m s
  | [], m, h, s => rfl
  | t :: x, m, h, s => by
    have e : ∀ y, atM (updM t.v (IntKind.i64.wrap (atM m t.v.s + IntKind.i64.wrap (0 * t.c))) m) y = atM m y := fun y => by
      rw [upd_at]
      split
      · rename_i hy
        have : IntKind.i64.wrap (0 * t.c) = 0 := by rw [Int.zero_mul]; rfl
        rw [this, Int.add_zero, ← hy]
        exact h t.v.s
      · rfl
    rw [addT, add_zero x _ (fun y => by rw [e]; exact h y), e]
end Go.Pl

namespace Go.Pl
open Go.RowKit
end Go.Pl

namespace Go.Pl
open Go.RowKit
open Enc (enc dec is)
open EncL (encL decL isL)
end Go.Pl

namespace Go.Pl
open Go.RowKit
open Enc (enc dec is)
open EncL (encL decL isL)
set_option maxRecDepth 100000
end Go.Pl

namespace Go.Pl
open Go.RowKit
open Enc (enc dec is)
open EncL (encL decL isL)
set_option maxRecDepth 100000
end Go.Pl

namespace Go.Pl
open Go.RowKit
open Enc (enc dec is)
open EncL (encL decL isL)
end Go.Pl

namespace Go.Pl
open Go.RowKit
open Enc (enc dec is)
open EncL (encL decL isL)
end Go.Pl

namespace Go.Pl
open Go.RowKit
open Enc (enc dec is)
open EncL (encL decL isL)
theorem times_len (x : List Coef) (k : Int) : ∀ l : Lin, (x.foldl (fun o t => plusL o t.v (w64 (k * t.c))) l).t.length ≤ l.t.length + x.length := by
  induction x with
  | nil => intro l; exact Nat.le_refl _
  | cons t x ih =>
    intro l
    have h1 := ih (plusL l t.v (w64 (k * t.c)))
    have h2 := plus_len l t.v (w64 (k * t.c))
    rw [List.foldl_cons, List.length_cons]
    omega
end Go.Pl

namespace Go.Pl
open Go.RowKit
open Enc (enc dec is)
open EncL (encL decL isL)
theorem one_of {α : Type} : ∀ {ks : List α}, ks.length = 1 → ∃ a, ks = [a]
  | [a], _ => ⟨a, rfl⟩
end Go.Pl

namespace Go.Pl
open Go.RowKit
open Enc (enc dec is)
open EncL (encL decL isL)
set_option maxRecDepth 100000
end Go.Pl

namespace Go.Pl
open Go.RowKit
open Enc (enc dec is)
open EncL (encL decL isL)
theorem cmpT_self : ∀ l : List Coef, cmpT l l = 0
  | [] => rfl
  | x :: l => by
    have h1 : ¬ x.v.s < x.v.s := List.lt_irrefl _
    have h2 : ¬ x.c < x.c := by omega
    rw [cmpT, if_neg (by rintro (h | ⟨_, h⟩); exact h1 h; exact h2 h), if_pos rfl, cmpT_self l]
theorem cmp_self (l : Lin) : (cmpL l l == 0) = true := by
  have : cmpL l l = 0 := by
    simp [cmpL, cmpT_self, cmpK]
  rw [this]; rfl
end Go.Pl

namespace Go.Pl
open Go.RowKit
open Enc (enc dec is)
open EncL (encL decL isL)
theorem sub_zero (b : Bool) : Sub (.tup [zeroL, .bool b]) (enc (((⟨0, []⟩ : Lin), b) : Lin × Bool)) := Sub.pair (Sub.agg_cons (.refl _) (Sub.agg_cons (.sl0 _ _ _) Sub.agg_nil)) (.refl _)
end Go.Pl

namespace Go.Pl
open Go.RowKit
open Enc (enc dec is)
open EncL (encL decL isL)
def letB (c : UInt8) : Bool := lowB c || c == 95 || digB c
def blanksS (s : List UInt8) : List UInt8 := s.dropWhile fun c => c == 32
def rdV (s : List UInt8) (n : Int) (es : List (PV × PV)) : List AObj := [.box [.pv (.str s), .pv (.int .i64 n), .map 1], .map es]
def pre_rd0 : List AV → List AObj → Bool
  | [.ptr 0 0], [.box [.pv (.str s), .pv (.int .i64 n), .map 1], .map es] => decide (s.length ≤ 1000000)
  | _, _ => false
def pre_take (g : Nat) : List AV → List AObj → Bool
  | [.ptr 0 0, .pv (.fn g')], [.box [.pv (.str s), .pv (.int .i64 n), .map 1], .map es] => g' == g && decide (s.length ≤ 1000000)
  | _, _ => false
def val_spaces : List AV → List AObj → AV × List AObj × List AObj
  | _, [.box [.pv (.str s), .pv (.int .i64 n), .map 1], .map es] => (.tup [], rdV (blanksS s) n es, [])
  | _, _ => combN
def takeW (p : UInt8 → Bool) : List AV → List AObj → AV × List AObj × List AObj
  | _, [.box [.pv (.str s), .pv (.int .i64 n), .map 1], .map es] => (.pv (.str (s.takeWhile p)), rdV (s.dropWhile p) n es, [])
  | _, _ => combN
def numOk (d : List UInt8) : Bool := !(atoiE ⟨d⟩).2.b && decide (d.length ≤ 7) && (decide (d.head? ≠ some 48) || decide (d = [48]))
def val_number : List AV → List AObj → AV × List AObj × List AObj
  | _, [.box [.pv (.str s), .pv (.int .i64 n), .map 1], .map es] => (.tup [.pv (.int .i64 (atoiE ⟨s.takeWhile digB⟩).1), .pv (.bool (numOk (s.takeWhile digB)))], rdV (s.dropWhile digB) n es, [])
  | _, _ => combN
def val_variable : List AV → List AObj → AV × List AObj × List AObj
  | _, [.box [.pv (.str s), .pv (.int .i64 n), .map 1], .map es] => (.tup [.pv (.str (s.takeWhile letB)), .pv (.bool (nameB ⟨s.takeWhile letB⟩))], rdV (s.dropWhile letB) n es, [])
  | _, _ => combN
def signR : List UInt8 → (Int × Bool) × List UInt8
  | [] => ((1, false), [])
  | c :: r => if c = 43 then ((1, true), r) else if c = 45 then ((-1, true), r) else ((1, false), c :: r)
def val_sign : List AV → List AObj → AV × List AObj × List AObj
  | _, [.box [.pv (.str s), .pv (.int .i64 n), .map 1], .map es] => (.tup [.pv (.int .i64 (signR s).1.1), .pv (.bool (signR s).1.2)], rdV (signR s).2 n es, [])
  | _, _ => combN
end Go.Pl

namespace Go.Pl
open Go.RowKit
open Enc (enc dec is)
open EncL (encL decL isL)
structure RdS where
  s : List UInt8
  n : Int
  m : List (Str × Int)
def RdS.os (r : RdS) : List AObj := rdV r.s r.n (mapP r.m)
def varR (s : List UInt8) (n : Int) (m : List (Str × Int)) (k : Int) : Bool × RdS :=
  (nameB ⟨s.takeWhile letB⟩, ⟨s.dropWhile letB, n, updM ⟨s.takeWhile letB⟩ (w64 (atM m (s.takeWhile letB) + k)) m⟩)
def afterR (s : List UInt8) (n : Int) (m : List (Str × Int)) (k : Int) : Bool × RdS :=
  if ([42] : List UInt8).isPrefixOf (blanksS s) then varR (blanksS ((blanksS s).drop 1)) n m k
  else if s = [] ∨ letB (s.headD 0) = false then (true, ⟨s, w64 (n + k), m⟩)
  else varR s n m k
def itemR (r : RdS) (g : Int) : Bool × RdS :=
  if r.s = [] then (false, r)
  else if digB (r.s.headD 0) = false then varR r.s r.n r.m g
  else if numOk (r.s.takeWhile digB) = false then (false, ⟨r.s.dropWhile digB, r.n, r.m⟩)
  else afterR (r.s.dropWhile digB) r.n r.m (w64 (g * (atoiE ⟨r.s.takeWhile digB⟩).1))
def pre_rd1 : List AV → List AObj → Bool
  | [.ptr 0 0, .pv (.int .i64 g)], [.box [.pv (.str s), .pv (.int .i64 n), .map 1], .map es] => canM es && decide (s.length ≤ 1000000)
  | _, _ => false
def itemV (z : Bool × RdS) : AV × List AObj × List AObj := (.pv (.bool z.1), z.2.os, [])
def val_item : List AV → List AObj → AV × List AObj × List AObj
  | [_, .pv (.int .i64 g)], [.box [.pv (.str s), .pv (.int .i64 n), .map 1], .map es] => itemV (itemR ⟨s, n, mapD es⟩ g)
  | _, _ => combN
end Go.Pl

namespace Go.Pl
open Go.RowKit
def parseR : Nat → List UInt8 → Int → List (Str × Int) → Int → Lin × Int
  | 0, _, _, _, _ => (⟨0, []⟩, 6)
  | f + 1, t, n, m, g =>
    if (itemR ⟨blanksS t, n, m⟩ g).1 = false then (⟨0, []⟩, 6)
    else if blanksS (itemR ⟨blanksS t, n, m⟩ g).2.s = [] then resM (itemR ⟨blanksS t, n, m⟩ g).2.n (itemR ⟨blanksS t, n, m⟩ g).2.m
    else if (signR (blanksS (itemR ⟨blanksS t, n, m⟩ g).2.s)).1.2 = false then (⟨0, []⟩, 6)
    else parseR f (signR (blanksS (itemR ⟨blanksS t, n, m⟩ g).2.s)).2 (itemR ⟨blanksS t, n, m⟩ g).2.n (itemR ⟨blanksS t, n, m⟩ g).2.m (signR (blanksS (itemR ⟨blanksS t, n, m⟩ g).2.s)).1.1
def parseL (s : List UInt8) : Lin × Int := parseR (s.length + 1) (signR (blanksS s)).2 0 [] (signR (blanksS s)).1.1
end Go.Pl

namespace Go.Pl
open Go.RowKit
open Enc (enc dec is)
open EncL (encL decL isL)
def cmpC (x y : Coef) : Int := if Lib.compareBytes x.v.s y.v.s ≠ 0 then Lib.compareBytes x.v.s y.v.s else cmpK x.c y.c
def cmpCs : List Coef → List Coef → Int
  | [], [] => 0
  | [], _ :: _ => -1
  | _ :: _, [] => 1
  | x :: l, y :: m => if cmpC x y ≠ 0 then cmpC x y else cmpCs l m
def cmpLin (a b : Lin) : Int := if cmpCs a.t b.t ≠ 0 then cmpCs a.t b.t else cmpK a.k b.k
def partS (o : List UInt8) (n : Int) (s : List UInt8) : List UInt8 :=
  (if decide (n ≥ 0) && decide (o ≠ []) then o ++ [43] else o) ++ ((if decide (s ≠ []) && (decide (n = 1) || decide (n = -1)) then Lib.trimSuffix (itoaS n).s [49] else (itoaS n).s) ++ s)
def partsS (ts : List Coef) : List UInt8 := ts.foldl (fun o t => partS o t.c t.v.s) []
def printL (l : Lin) : List UInt8 := if validL l then (if decide (l.k ≠ 0) || decide (partsS l.t = []) then partS (partsS l.t) l.k [] else partsS l.t) else []
def pre_part : List AV → List AObj → Bool
  | [.pv (.int .i64 n), .pv (.str s), .ptr 0 0], [.box [.pv (.str o)]] => decide (-9223372036854775808 ≤ n) && decide (n ≤ 9223372036854775807) && decide (s.length ≤ 1000000) && decide (o.length ≤ 1000000)
  | _, _ => false
def val_part : List AV → List AObj → AV × List AObj × List AObj
  | [.pv (.int .i64 n), .pv (.str s), .ptr 0 0], [.box [.pv (.str o)]] => (.tup [], [.box [.pv (.str (partS o n s))]], [])
  | _, _ => combN
end Go.Pl

namespace Go.Pl
open Go.RowKit
open Enc (enc dec is)
open EncL (encL decL isL)
def bndB (v : List UInt8) (b : Bnd) : Bool := decide (b.kind = 1) && b.v.s == v
def pre_s1 : List AV → List AObj → Bool
  | [.pv x, .ptr 0 0], [.box [.pv (.str v), .pv (.int .i64 c)]] => can Bnd x
  | _, _ => false
def val_s1 : List AV → List AObj → AV × List AObj × List AObj
  | [.pv x, _], [.box [.pv (.str v), .pv (.int .i64 c)]] => (.pv (.bool (bndB v (dec x))), [.box [.pv (.str v), .pv (.int .i64 c)]], [])
  | _, _ => combN
def pre_ixS (g : Nat) : List AV → List AObj → Bool
  | [.pv l, .fn g' [] [.ptr 0 0]], [.box [.pv (.str v), .pv (.int .i64 c)]] => g' == g && can (List Bnd) l && decide ((dec l : List Bnd).length ≤ 9223372036854775807)
  | _, _ => false
def val_ixS : List AV → List AObj → AV × List AObj × List AObj
  | [.pv l, _], [.box [.pv (.str v), .pv (.int .i64 c)]] => (.pv (.int .i64 (ixFind (bndB v) (dec l))), [.box [.pv (.str v), .pv (.int .i64 c)]], [])
  | _, _ => combN
def putS (bs : List Bnd) (s : Int × List (Str × Int)) (t : Coef) : Option (Int × List (Str × Int)) := match bs.find? (bndB t.v.s) with
  | none => some (s.1, updM t.v (w64 (atM s.2 t.v.s + t.c)) s.2)
  | some b => if validL b.dim then some (w64 (s.1 + w64 (t.c * b.dim.k)), addT t.c b.dim.t s.2) else none
def foldS (bs : List Bnd) : List Coef → Int × List (Str × Int) → Option (Int × List (Str × Int))
  | [], s => some s
  | t :: ts, s => match putS bs s t with | none => none | some s' => foldS bs ts s'
def substL (l : Lin) (bs : List Bnd) : Lin × Int := if validL l then (match foldS bs l.t (l.k, []) with | none => (⟨0, []⟩, 1) | some s => resM s.1 s.2) else (⟨0, []⟩, 1)
def bndsSm (bs : List Bnd) : Bool := decide (bs.length ≤ 9223372036854775807) && bs.all fun b => linSm b.dim
end Go.Pl

namespace Go.Pl
open Go.RowKit
open Enc (enc dec is)
open EncL (encL decL isL)
set_option maxRecDepth 100000
def ic_awake4 : IC := (.seq (.reg [⟨(some 0), (.mv (.c (.bool false))), 0, none⟩] none) (.seq (.reg [⟨(some 16), (.call (.c (.fn 35)) [(.c (.str [50, 110]))]), 0, none⟩, ⟨(some 15), (.mv (.t 16)), 2, none⟩, ⟨(some 17), (.extract (.t 15) 0), 2, none⟩, ⟨(some 18), (.extract (.t 15) 1), 2, none⟩, ⟨(some 1), (.alloc (.agg [(.int .i64 0), (.sl 0 true [])])), 2, none⟩, ⟨none, (.store 2 (.t 1) (.t 17)), 3, none⟩, ⟨(some 2), (.mv (.t 18)), 3, none⟩] none) (.seq (.reg [⟨(some 20), (.call (.c (.fn 35)) [(.c (.str [109, 32, 45, 32, 49]))]), 0, none⟩, ⟨(some 19), (.mv (.t 20)), 2, none⟩, ⟨(some 21), (.extract (.t 19) 0), 2, none⟩, ⟨(some 22), (.extract (.t 19) 1), 2, none⟩, ⟨(some 3), (.alloc (.agg [(.int .i64 0), (.sl 0 true [])])), 2, none⟩, ⟨none, (.store 2 (.t 3) (.t 21)), 3, none⟩, ⟨(some 4), (.mv (.t 22)), 3, none⟩] none) (.seq (.reg [⟨(some 24), (.load true [(.int .i64), (.sl 2)] (.t 1)), 0, none⟩, ⟨(some 25), (.load true [(.int .i64), (.sl 2)] (.t 3)), 0, none⟩, ⟨(some 26), (.call (.c (.fn 42)) [(.t 24), (.t 25)]), 0, none⟩, ⟨(some 23), (.mv (.t 26)), 2, none⟩, ⟨(some 27), (.extract (.t 23) 0), 2, none⟩, ⟨(some 28), (.extract (.t 23) 1), 2, none⟩, ⟨(some 5), (.alloc (.agg [(.int .i64 0), (.sl 0 true [])])), 2, none⟩, ⟨none, (.store 2 (.t 5) (.t 27)), 3, none⟩, ⟨(some 6), (.mv (.t 28)), 3, none⟩] none) (.seq (.reg [⟨(some 30), (.call (.c (.fn 35)) [(.c (.str [51, 32, 42, 32, 110, 32, 45, 32, 110, 43, 32, 50]))]), 0, none⟩, ⟨(some 29), (.mv (.t 30)), 2, none⟩, ⟨(some 31), (.extract (.t 29) 0), 2, none⟩, ⟨(some 32), (.extract (.t 29) 1), 2, none⟩, ⟨(some 7), (.alloc (.agg [(.int .i64 0), (.sl 0 true [])])), 2, none⟩, ⟨none, (.store 2 (.t 7) (.t 31)), 3, none⟩, ⟨(some 8), (.mv (.t 32)), 3, none⟩] none) (.seq (.reg [⟨(some 34), (.call (.c (.fn 35)) [(.c (.str [110, 43, 109]))]), 0, none⟩, ⟨(some 33), (.mv (.t 34)), 2, none⟩, ⟨(some 35), (.extract (.t 33) 0), 2, none⟩, ⟨(some 36), (.extract (.t 33) 1), 2, none⟩, ⟨(some 9), (.alloc (.agg [(.int .i64 0), (.sl 0 true [])])), 2, none⟩, ⟨none, (.store 2 (.t 9) (.t 35)), 3, none⟩, ⟨(some 10), (.mv (.t 36)), 3, none⟩] none) (.seq (.reg [⟨(some 38), (.call (.c (.fn 35)) [(.c (.str [109, 43, 49]))]), 0, none⟩, ⟨(some 37), (.mv (.t 38)), 2, none⟩, ⟨(some 39), (.extract (.t 37) 0), 2, none⟩, ⟨(some 40), (.extract (.t 37) 1), 2, none⟩, ⟨(some 11), (.alloc (.agg [(.int .i64 0), (.sl 0 true [])])), 2, none⟩, ⟨none, (.store 2 (.t 11) (.t 39)), 3, none⟩, ⟨(some 12), (.mv (.t 40)), 3, none⟩] none) (.seq (.reg [⟨(some 42), (.load true [(.int .i64), (.sl 2)] (.t 9)), 0, none⟩, ⟨(some 43), (.load true [(.int .i64), (.sl 2)] (.t 11)), 0, none⟩, ⟨(some 44), (.build [(.int .i64 0), (.str []), (.int .i64 0), (.sl 0 true []), (.str []), (.sl 0 true []), (.str [])] [(0, (1, (.c (.int .i64 1)))), (1, (1, (.c (.str [110])))), (2, (2, (.t 43)))]), 0, none⟩, ⟨(some 45), (.bslice 103 7 1 (.agg [(.int .i64 0), (.str []), (.int .i64 0), (.sl 0 true []), (.str []), (.sl 0 true []), (.str [])]) [(0, (.t 44))]), 0, none⟩, ⟨(some 46), (.call (.c (.fn 55)) [(.t 42), (.t 45)]), 1, none⟩, ⟨(some 41), (.mv (.t 46)), 3, none⟩, ⟨(some 47), (.extract (.t 41) 0), 3, none⟩, ⟨(some 48), (.extract (.t 41) 1), 3, none⟩, ⟨(some 13), (.alloc (.agg [(.int .i64 0), (.sl 0 true [])])), 3, none⟩, ⟨none, (.store 2 (.t 13) (.t 47)), 4, none⟩, ⟨(some 14), (.mv (.t 48)), 4, none⟩] none) (.seq (.reg [⟨(some 49), (.mv (.t 2)), 0, none⟩, ⟨(some 50), (.bin .num .eql (.t 49) (.c (.int .i64 0))), 0, none⟩, ⟨(some 51), (.mv (.t 50)), 0, none⟩, ⟨(some 52), (.mv (.t 4)), 0, (some (51, true))⟩, ⟨(some 53), (.bin .num .eql (.t 52) (.c (.int .i64 0))), 0, (some (51, true))⟩, ⟨(some 54), (.pick (.t 51) (.t 53) (.c (.bool false))), 0, none⟩, ⟨(some 55), (.mv (.t 54)), 0, none⟩, ⟨(some 56), (.mv (.t 6)), 0, (some (55, true))⟩, ⟨(some 57), (.bin .num .eql (.t 56) (.c (.int .i64 0))), 0, (some (55, true))⟩, ⟨(some 58), (.pick (.t 55) (.t 57) (.c (.bool false))), 0, none⟩, ⟨(some 59), (.mv (.t 58)), 0, none⟩, ⟨(some 60), (.mv (.t 8)), 0, (some (59, true))⟩, ⟨(some 61), (.bin .num .eql (.t 60) (.c (.int .i64 0))), 0, (some (59, true))⟩, ⟨(some 62), (.pick (.t 59) (.t 61) (.c (.bool false))), 0, none⟩, ⟨(some 63), (.mv (.t 62)), 0, none⟩, ⟨(some 64), (.mv (.t 10)), 0, (some (63, true))⟩, ⟨(some 65), (.bin .num .eql (.t 64) (.c (.int .i64 0))), 0, (some (63, true))⟩, ⟨(some 66), (.pick (.t 63) (.t 65) (.c (.bool false))), 0, none⟩, ⟨(some 67), (.mv (.t 66)), 0, none⟩, ⟨(some 68), (.mv (.t 12)), 0, (some (67, true))⟩, ⟨(some 69), (.bin .num .eql (.t 68) (.c (.int .i64 0))), 0, (some (67, true))⟩, ⟨(some 70), (.pick (.t 67) (.t 69) (.c (.bool false))), 0, none⟩, ⟨(some 71), (.mv (.t 70)), 0, none⟩, ⟨(some 72), (.mv (.t 14)), 0, (some (71, true))⟩, ⟨(some 73), (.bin .num .eql (.t 72) (.c (.int .i64 0))), 0, (some (71, true))⟩, ⟨(some 74), (.pick (.t 71) (.t 73) (.c (.bool false))), 0, none⟩, ⟨(some 75), (.mv (.t 74)), 0, none⟩, ⟨(some 76), (.load true [(.int .i64), (.sl 2)] (.t 5)), 0, (some (75, true))⟩, ⟨(some 77), (.call (.c (.fn 33)) [(.t 76)]), 0, (some (75, true))⟩, ⟨(some 78), (.bin .num .eql (.t 77) (.c (.str [109, 43, 50, 110, 45, 49]))), 2, (some (75, true))⟩, ⟨(some 79), (.pick (.t 75) (.t 78) (.c (.bool false))), 2, none⟩, ⟨(some 80), (.mv (.t 79)), 2, none⟩, ⟨(some 81), (.load true [(.int .i64), (.sl 2)] (.t 7)), 2, (some (80, true))⟩, ⟨(some 82), (.call (.c (.fn 33)) [(.t 81)]), 2, (some (80, true))⟩, ⟨(some 83), (.bin .num .eql (.t 82) (.c (.str [50, 110, 43, 50]))), 4, (some (80, true))⟩, ⟨(some 84), (.pick (.t 80) (.t 83) (.c (.bool false))), 4, none⟩, ⟨(some 85), (.mv (.t 84)), 4, none⟩, ⟨(some 86), (.load true [(.int .i64), (.sl 2)] (.t 13)), 4, (some (85, true))⟩, ⟨(some 87), (.call (.c (.fn 33)) [(.t 86)]), 4, (some (85, true))⟩, ⟨(some 88), (.bin .num .eql (.t 87) (.c (.str [50, 109, 43, 49]))), 6, (some (85, true))⟩, ⟨(some 89), (.pick (.t 85) (.t 88) (.c (.bool false))), 6, none⟩, ⟨(some 90), (.mv (.t 89)), 6, none⟩, ⟨(some 91), (.load true [(.int .i64), (.sl 2)] (.t 5)), 6, (some (90, true))⟩, ⟨(some 92), (.call (.c (.fn 67)) [(.t 91)]), 6, (some (90, true))⟩, ⟨(some 93), (.pick (.t 90) (.t 92) (.c (.bool false))), 8, none⟩, ⟨(some 94), (.mv (.t 93)), 8, none⟩, ⟨(some 95), (.load true [(.int .i64), (.sl 2)] (.t 5)), 8, (some (94, true))⟩, ⟨(some 96), (.load true [(.int .i64), (.sl 2)] (.t 5)), 8, (some (94, true))⟩, ⟨(some 97), (.call (.c (.fn 41)) [(.t 95), (.t 96)]), 8, (some (94, true))⟩, ⟨(some 98), (.pick (.t 94) (.t 97) (.c (.bool false))), 10, none⟩, ⟨(some 0), (.mv (.t 98)), 10, none⟩] none) .ret)))))))))
def rs_awake4 : List IRes := [(.tmp 0)]
abbrev nt_awake4 : Nat := 99
def T_awake4 : Tab := tab [(35, .pure (preT (fun x : Str × Unit => decide (x.1.s.length ≤ 400000))) (valT (fun x : Str × Unit => parseL x.1.s))), (42, .pure (preT (fun x : Lin × Lin × Unit => linSm x.1 && linSm x.2.1)) (valT (fun x : Lin × Lin × Unit => combineL x.1 x.2.1 1))), (55, .pure (preT (fun x : Lin × List Bnd × Unit => linSm x.1 && bndsSm x.2.1)) (valT (fun x : Lin × List Bnd × Unit => substL x.1 x.2.1))), (33, .pure (preT (fun x : Lin × Unit => linSm x.1)) (valT (fun x : Lin × Unit => (⟨printL x.1⟩ : Str)))), (67, .pure (preT (fun x : Lin × Unit => linSm x.1)) (valT (fun x : Lin × Unit => validL x.1))), (41, .pure (preT (fun x : Lin × Lin × Unit => linOk x.1 && linOk x.2.1)) (valT (fun x : Lin × Lin × Unit => cmpLin x.1 x.2.1 == 0)))]
theorem awake4_s {G : PV → Prop}  (h : ∃ y0 : Lin × Int, AV.pv (valT (fun (x : Str × Unit) => parseL (Str.s x.1)) [(.str [(50 : UInt8), (110 : UInt8)])]) = AV.pv (enc y0) ∧ (∃ y1 : Lin × Int, AV.pv (valT (fun (x : Str × Unit) => parseL (Str.s x.1)) [(.str [(109 : UInt8), (32 : UInt8), (45 : UInt8), (32 : UInt8), (49 : UInt8)])]) = AV.pv (enc y1) ∧ ((Go.Pl.preT (fun (x : Lin × Lin × Unit) => linSm x.1 && linSm x.2.1) [(.agg [(.int .i64 y0.1.k), (.sl 2 false (List.map enc y0.1.t))]), (.agg [(.int .i64 y1.1.k), (.sl 2 false (List.map enc y1.1.t))])]) = true ∧ (∃ y2 : Lin × Int, AV.pv (valT (fun (x : Lin × Lin × Unit) => combineL x.1 x.2.1 1) [(.agg [(.int .i64 y0.1.k), (.sl 2 false (List.map enc y0.1.t))]), (.agg [(.int .i64 y1.1.k), (.sl 2 false (List.map enc y1.1.t))])]) = AV.pv (enc y2) ∧ (∃ y3 : Lin × Int, AV.pv (valT (fun (x : Str × Unit) => parseL (Str.s x.1)) [(.str [(51 : UInt8), (32 : UInt8), (42 : UInt8), (32 : UInt8), (110 : UInt8), (32 : UInt8), (45 : UInt8), (32 : UInt8), (110 : UInt8), (43 : UInt8), (32 : UInt8), (50 : UInt8)])]) = AV.pv (enc y3) ∧ (∃ y4 : Lin × Int, AV.pv (valT (fun (x : Str × Unit) => parseL (Str.s x.1)) [(.str [(110 : UInt8), (43 : UInt8), (109 : UInt8)])]) = AV.pv (enc y4) ∧ (∃ y5 : Lin × Int, AV.pv (valT (fun (x : Str × Unit) => parseL (Str.s x.1)) [(.str [(109 : UInt8), (43 : UInt8), (49 : UInt8)])]) = AV.pv (enc y5) ∧ ((Go.Pl.preT (fun (x : Lin × List Bnd × Unit) => linSm x.1 && bndsSm x.2.1) [(.agg [(.int .i64 y4.1.k), (.sl 2 false (List.map enc y4.1.t))]), (.sl 7 false [(.agg [(.int .i64 1), (.str [(110 : UInt8)]), (.int .i64 y5.1.k), (.sl 2 false (List.map enc y5.1.t)), (.str []), (.sl 0 true []), (.str [])])])]) = true ∧ (∃ y6 : Lin × Int, AV.pv (valT (fun (x : Lin × List Bnd × Unit) => substL x.1 x.2.1) [(.agg [(.int .i64 y4.1.k), (.sl 2 false (List.map enc y4.1.t))]), (.sl 7 false [(.agg [(.int .i64 1), (.str [(110 : UInt8)]), (.int .i64 y5.1.k), (.sl 2 false (List.map enc y5.1.t)), (.str []), (.sl 0 true []), (.str [])])])]) = AV.pv (enc y6) ∧ (if (y0.2 == 0) = true then if (y1.2 == 0) = true then if (y2.2 == 0) = true then if (y3.2 == 0) = true then if (y4.2 == 0) = true then if (y5.2 == 0) = true then if (y6.2 == 0) = true then (Go.Pl.preT (fun (x : Lin × Unit) => linSm x.1) [(.agg [(.int .i64 y2.1.k), (.sl 2 false (List.map enc y2.1.t))])]) = true ∧ (∃ y7 : Str, AV.pv (valT (fun (x : Lin × Unit) => Str.mk (printL x.1)) [(.agg [(.int .i64 y2.1.k), (.sl 2 false (List.map enc y2.1.t))])]) = AV.pv (enc y7) ∧ (if (Str.s y7 == [(109 : UInt8), (43 : UInt8), (50 : UInt8), (110 : UInt8), (45 : UInt8), (49 : UInt8)]) = true then (Go.Pl.preT (fun (x : Lin × Unit) => linSm x.1) [(.agg [(.int .i64 y3.1.k), (.sl 2 false (List.map enc y3.1.t))])]) = true ∧ (∃ y8 : Str, AV.pv (valT (fun (x : Lin × Unit) => Str.mk (printL x.1)) [(.agg [(.int .i64 y3.1.k), (.sl 2 false (List.map enc y3.1.t))])]) = AV.pv (enc y8) ∧ (if (Str.s y8 == [(50 : UInt8), (110 : UInt8), (43 : UInt8), (50 : UInt8)]) = true then (Go.Pl.preT (fun (x : Lin × Unit) => linSm x.1) [(.agg [(.int .i64 y6.1.k), (.sl 2 false (List.map enc y6.1.t))])]) = true ∧ (∃ y9 : Str, AV.pv (valT (fun (x : Lin × Unit) => Str.mk (printL x.1)) [(.agg [(.int .i64 y6.1.k), (.sl 2 false (List.map enc y6.1.t))])]) = AV.pv (enc y9) ∧ (if (Str.s y9 == [(50 : UInt8), (109 : UInt8), (43 : UInt8), (49 : UInt8)]) = true then (Go.Pl.preT (fun (x : Lin × Unit) => linSm x.1) [(.agg [(.int .i64 y2.1.k), (.sl 2 false (List.map enc y2.1.t))])]) = true ∧ (∃ y10 : Bool, AV.pv (valT (fun (x : Lin × Unit) => validL x.1) [(.agg [(.int .i64 y2.1.k), (.sl 2 false (List.map enc y2.1.t))])]) = AV.pv (enc y10) ∧ (if (y10) = true then (Go.Pl.preT (fun (x : Lin × Lin × Unit) => linOk x.1 && linOk x.2.1) [(.agg [(.int .i64 y2.1.k), (.sl 2 false (List.map enc y2.1.t))]), (.agg [(.int .i64 y2.1.k), (.sl 2 false (List.map enc y2.1.t))])]) = true ∧ (∃ y11 : Bool, AV.pv (valT (fun (x : Lin × Lin × Unit) => cmpLin x.1 x.2.1 == 0) [(.agg [(.int .i64 y2.1.k), (.sl 2 false (List.map enc y2.1.t))]), (.agg [(.int .i64 y2.1.k), (.sl 2 false (List.map enc y2.1.t))])]) = AV.pv (enc y11) ∧ (G ((.bool y11)))) else (G ((.bool false))))) else (G ((.bool false))))) else (G ((.bool false))))) else (G ((.bool false))))) else (G ((.bool false))) else (G ((.bool false))) else (G ((.bool false))) else (G ((.bool false))) else (G ((.bool false))) else (G ((.bool false))) else (G ((.bool false))))))))))))) : Gets T_awake4 0 (endP' rs_awake4 G) ic_awake4 [] (st0 99 []) := Gets.tp (.lit (.abs (Lin × Int) (fun YY => AV.pv (enc YY)) (.lit (.abs (Lin × Int) (fun YY => AV.pv (enc YY)) (.req (.abs (Lin × Int) (fun YY => AV.pv (enc YY)) (.lit (.abs (Lin × Int) (fun YY => AV.pv (enc YY)) (.lit (.abs (Lin × Int) (fun YY => AV.pv (enc YY)) (.lit (.abs (Lin × Int) (fun YY => AV.pv (enc YY)) (.lit (.lit (.req (.abs (Lin × Int) (fun YY => AV.pv (enc YY)) (.lit (.ask (.lit (.lit (.lit (.ask (.lit (.lit (.lit (.ask (.lit (.lit (.lit (.ask (.lit (.lit (.lit (.ask (.lit (.lit (.lit (.ask (.lit (.lit (.lit (.ask (.lit (.req (.abs (Str) (fun YY => AV.pv (enc YY)) (.lit (.lit (.lit (.ask (.lit (.req (.abs (Str) (fun YY => AV.pv (enc YY)) (.lit (.lit (.lit (.ask (.lit (.req (.abs (Str) (fun YY => AV.pv (enc YY)) (.lit (.lit (.lit (.ask (.lit (.req (.abs (Bool) (fun YY => AV.pv (enc YY)) (.lit (.ask (.lit (.lit (.req (.abs (Bool) (fun YY => AV.pv (enc YY)) (.lit (.nil)))))) (.lit (.lit (.lit (.nil))))))))) (.lit (.lit (.lit (.lit (.lit (.lit (.nil)))))))))))))) (.lit (.lit (.lit (.lit (.lit (.lit (.lit (.lit (.lit (.lit (.nil)))))))))))))))))) (.lit (.lit (.lit (.lit (.lit (.lit (.lit (.lit (.lit (.lit (.lit (.lit (.lit (.lit (.nil)))))))))))))))))))))) (.lit (.lit (.lit (.lit (.lit (.lit (.lit (.lit (.lit (.lit (.lit (.lit (.lit (.lit (.lit (.lit (.lit (.lit (.nil))))))))))))))))))))))) (.lit (.lit (.lit (.lit (.lit (.lit (.lit (.lit (.lit (.lit (.lit (.lit (.lit (.lit (.lit (.lit (.lit (.lit (.lit (.lit (.lit (.nil)))))))))))))))))))))))))) (.lit (.lit (.lit (.lit (.lit (.lit (.lit (.lit (.lit (.lit (.lit (.lit (.lit (.lit (.lit (.lit (.lit (.lit (.lit (.lit (.lit (.lit (.lit (.lit (.nil))))))))))))))))))))))))))))) (.lit (.lit (.lit (.lit (.lit (.lit (.lit (.lit (.lit (.lit (.lit (.lit (.lit (.lit (.lit (.lit (.lit (.lit (.lit (.lit (.lit (.lit (.lit (.lit (.lit (.lit (.lit (.nil)))))))))))))))))))))))))))))))) (.lit (.lit (.lit (.lit (.lit (.lit (.lit (.lit (.lit (.lit (.lit (.lit (.lit (.lit (.lit (.lit (.lit (.lit (.lit (.lit (.lit (.lit (.lit (.lit (.lit (.lit (.lit (.lit (.lit (.lit (.nil))))))))))))))))))))))))))))))))))) (.lit (.lit (.lit (.lit (.lit (.lit (.lit (.lit (.lit (.lit (.lit (.lit (.lit (.lit (.lit (.lit (.lit (.lit (.lit (.lit (.lit (.lit (.lit (.lit (.lit (.lit (.lit (.lit (.lit (.lit (.lit (.lit (.lit (.nil)))))))))))))))))))))))))))))))))))))) (.lit (.lit (.lit (.lit (.lit (.lit (.lit (.lit (.lit (.lit (.lit (.lit (.lit (.lit (.lit (.lit (.lit (.lit (.lit (.lit (.lit (.lit (.lit (.lit (.lit (.lit (.lit (.lit (.lit (.lit (.lit (.lit (.lit (.lit (.lit (.lit (.nil))))))))))))))))))))))))))))))))))))))))))))))))))))))) h (by kernel_rfl)
def ic_rlimited : IC := (.seq (.reg [⟨(some 1), (.box 2 (.t 0)), 0, none⟩, ⟨(some 2), (.alloc (.agg [(.int .i64 0), (.sl 0 true [])])), 1, none⟩, ⟨(some 3), (.mv (.c (.int .i64 0))), 2, none⟩] none) (.seq (.seq (.reg [⟨(some 4), (.load true [(.int .i64), (.sl 2)] (.t 1)), 0, none⟩, ⟨(some 5), (.call (.c (.fn 36)) [(.t 4)]), 0, none⟩, ⟨(some 6), (.un .not (.t 5)), 2, none⟩] none) (.cond (.t 6) (.seq (.reg [⟨(some 7), (.build [(.int .i64 0), (.sl 0 true [])] []), 0, none⟩, ⟨none, (.store 2 (.t 2) (.t 7)), 0, none⟩, ⟨(some 3), (.mv (.c (.int .i64 3))), 0, none⟩] none) .ret) .skip)) (.seq (.reg [⟨(some 8), (.load true [(.int .i64), (.sl 2)] (.t 1)), 0, none⟩, ⟨none, (.store 2 (.t 2) (.t 8)), 0, none⟩, ⟨(some 3), (.mv (.c (.int .i64 0))), 0, none⟩] none) .ret)))
def rs_rlimited : List IRes := [(.cell true 2 2), (.tmp 3)]
abbrev nt_rlimited : Nat := 9
def T_rlimited : Tab := tab [(36, .pure (preT (fun x : Lin × Unit => linOk x.1)) (valT (fun x : Lin × Unit => validL x.1)))]
theorem rlimited_s {G : PV → Prop} (l : Lin) (h : (Go.Pl.preT (fun (x : Lin × Unit) => linOk x.1) [(.agg [(.int .i64 l.k), (.sl 2 false (List.map enc l.t))])]) = true ∧ (∃ y0 : Bool, AV.pv (valT (fun (x : Lin × Unit) => validL x.1) [(.agg [(.int .i64 l.k), (.sl 2 false (List.map enc l.t))])]) = AV.pv (enc y0) ∧ (if (!y0) = true then G ((.tup [(.agg [(.int .i64 0), (.sl 0 true [])]), (.int .i64 3)])) else (G ((.tup [(.agg [(.int .i64 l.k), (.sl 2 false (List.map enc l.t))]), (.int .i64 0)])))))) : Gets T_rlimited 0 (endP' rs_rlimited G) ic_rlimited [] (st0 9 [enc l]) := Gets.tp (.req (.abs (Bool) (fun YY => AV.pv (enc YY)) (.ask (.nil) (.nil)))) h (by kernel_rfl)
end Go.Pl

namespace Go.Pl
open Go.RowKit
open Enc (enc dec is)
open EncL (encL decL isL)
set_option maxRecDepth 100000
def ic_resya : IC := ic_resra
def rs_resya : List IRes := []
def T_resya : Tab := tab [(71, .own pre_sorts val_sorts), (67, .pure (preT (fun x : Lin × Unit => linSm x.1)) (valT (fun x : Lin × Unit => validL x.1)))]
theorem resya_r0 {G : AV × List AObj × List AObj → Prop} (E : ExtE) (r : List UInt8) (n : Int) (s : List UInt8) (c : Int)  (h : if (c != 0) = true then E 99 ⟨envJ 58 0 [(0, (.ptr 0 1)), (2, (.ptr 2 0)), (4, (.ptr 3 0)), (5, (.row 5 1 0 1)), (18, (.map 1)), (19, (.ptr 4 0))], [(.obj (.box [(.pv (.str r)), (.pv (.int .i64 n)), (.map 1)])), .dead, (.obj (.box [(.pv (.int .i64 0)), (.pv (.sl 0 true []))])), (.obj (.box [(.pv (.int .i64 n)), (.pv (.sl 0 true []))])), .dead, (.obj (.row false 9 1 [(.str s)]))]⟩ (fun x S' => AfX T_resya E 5 (endO' 5 rs_resya G) ic_resya 99 x S') else (E 99 ⟨envJ 58 0 [(0, (.ptr 0 1)), (2, (.ptr 2 0)), (4, (.ptr 3 0)), (5, (.pv (.sl 0 true []))), (18, (.map 1)), (19, (.ptr 4 0))], [(.obj (.box [(.pv (.str r)), (.pv (.int .i64 n)), (.map 1)])), .dead, (.obj (.box [(.pv (.int .i64 0)), (.pv (.sl 0 true []))])), (.obj (.box [(.pv (.int .i64 n)), (.pv (.sl 0 true []))])), .dead]⟩ (fun x S' => AfX T_resya E 5 (endO' 5 rs_resya G) ic_resya 99 x S'))) : GetsX T_resya E 5 (endO' 5 rs_resya G) (.inl ic_resya) [.blk 1, .seq (.ext 99 [0, 2, 4, 5, 18, 19])] ⟨envJ 58 0 [(0, .ptr 0 1), (2, .ptr 2 0), (4, .ptr 3 0), (5, .pv (.sl 0 true [])), (6, .pv (.str s)), (7, .pv (.int .i64 c)), (18, .map 1), (19, .ptr 4 0), (22, .pv (.tup [.str s, .int .i64 c])), (23, .pv (.str s)), (24, .pv (.int .i64 c))], [.obj (.box [.pv (.str r), .pv (.int .i64 n), .map 1]), .dead, .obj (.box [.pv (.int .i64 0), .pv (.sl 0 true [])]), .obj (.box [.pv (.int .i64 n), .pv (.sl 0 true [])]), .dead]⟩ := GetsX.mo (.lit (.ask (.lit (.lit (.lit (.lit (.lit (.nil)))))) (.nil))) h (by kernel_rfl)
theorem resyb_r0 {G : AV × List AObj × List AObj → Prop} (E : ExtE) (r : List UInt8) (n : Int) (s : List UInt8) (c : Int) (l : Nat) (xs : List (List UInt8))  (h : if (c != 0) = true then (List.length (List.map PV.str xs) == l && l == l && decide ((l + List.length (List.drop 0 (List.take 1 [PV.str s]))) * 16 ≤ 1099511627776) && decide (l + List.length (List.drop 0 (List.take 1 [PV.str s])) ≤ 1099511627776)) = true ∧ (E 99 ⟨envJ 58 0 [(0, (.ptr 0 1)), (2, (.ptr 2 0)), (4, (.ptr 3 0)), (5, (.row 5 (l + List.length (List.drop 0 (List.take 1 [PV.str s]))) 0 (l + List.length (List.drop 0 (List.take 1 [PV.str s]))))), (18, (.map 1)), (19, (.ptr 4 0))], [(.obj (.box [(.pv (.str r)), (.pv (.int .i64 n)), (.map 1)])), .dead, (.obj (.box [(.pv (.int .i64 0)), (.pv (.sl 0 true []))])), (.obj (.box [(.pv (.int .i64 n)), (.pv (.sl 0 true []))])), .dead, (.obj (.row false 9 1 (List.map PV.str xs ++ List.drop 0 (List.take 1 [PV.str s]))))]⟩ (fun x S' => AfX T_resya E 6 (endO' 6 rs_resya G) ic_resya 99 x S')) else (E 99 ⟨envJ 58 0 [(0, (.ptr 0 1)), (2, (.ptr 2 0)), (4, (.ptr 3 0)), (5, (.row 5 l 0 l)), (18, (.map 1)), (19, (.ptr 4 0))], [(.obj (.box [(.pv (.str r)), (.pv (.int .i64 n)), (.map 1)])), .dead, (.obj (.box [(.pv (.int .i64 0)), (.pv (.sl 0 true []))])), (.obj (.box [(.pv (.int .i64 n)), (.pv (.sl 0 true []))])), .dead, (.obj (.row false 9 1 (List.map PV.str xs)))]⟩ (fun x S' => AfX T_resya E 6 (endO' 6 rs_resya G) ic_resya 99 x S'))) : GetsX T_resya E 6 (endO' 6 rs_resya G) (.inl ic_resya) [.blk 1, .seq (.ext 99 [0, 2, 4, 5, 18, 19])] ⟨envJ 58 0 [(0, .ptr 0 1), (2, .ptr 2 0), (4, .ptr 3 0), (5, .row 5 l 0 l), (6, .pv (.str s)), (7, .pv (.int .i64 c)), (18, .map 1), (19, .ptr 4 0), (22, .pv (.tup [.str s, .int .i64 c])), (23, .pv (.str s)), (24, .pv (.int .i64 c))], [.obj (.box [.pv (.str r), .pv (.int .i64 n), .map 1]), .dead, .obj (.box [.pv (.int .i64 0), .pv (.sl 0 true [])]), .obj (.box [.pv (.int .i64 n), .pv (.sl 0 true [])]), .dead, .obj (.row false 9 1 (xs.map .str))]⟩ := GetsX.mo (.lit (.ask (.lit (.lit (.req (.nil)))) (.nil))) h (by kernel_rfl)
def ic_resy : IC := ic_resx
def rs_resy : List IRes := [(.cell true 2 2), (.tmp 3)]
abbrev nt_resy : Nat := 58
def T_resy : Tab := tab [(71, .own pre_sorts val_sorts), (67, .pure (preT (fun x : Lin × Unit => linSm x.1)) (valT (fun x : Lin × Unit => validL x.1)))]
theorem resy_s {G : AV × List AObj × List AObj → Prop} (E : ExtE) (r : List UInt8) (n : Int) (m : List (Str × Int)) (h : E 0 ⟨envJ 58 0 [(0, (.ptr 0 1)), (2, (.ptr 2 0)), (4, (.ptr 3 0)), (5, (.pv (.sl 0 true []))), (6, .undef), (7, .undef), (15, .undef), (16, .undef), (17, .undef), (18, .undef), (19, .undef), (20, .undef), (21, .undef), (22, .undef), (23, .undef), (24, .undef), (25, .undef), (26, .undef), (27, .undef), (28, .undef), (29, .undef), (30, .undef)], [(.obj (.box [(.pv (.str r)), (.pv (.int .i64 n)), (.map 1)])), (.obj (.map (mapP m))), (.obj (.box [(.pv (.int .i64 0)), (.pv (.sl 0 true []))])), (.obj (.box [(.pv (.int .i64 n)), (.pv (.sl 0 true []))]))]⟩ (fun x S' => AfX T_resy E 2 (endO' 2 rs_resy G) ic_resy 0 x S')) : GetsX T_resy E 2 (endO' 2 rs_resy G) (.inl ic_resy) [] (st0O 58 [.ptr 0 1] [.box [.pv (.str r), .pv (.int .i64 n), .map 1], .map (mapP m)]) := GetsX.mo (.nil) h (by kernel_rfl)
-- IMPOSSIBLE
theorem resy_h0n {G : AV × List AObj × List AObj → Prop} (E : ExtE) (r : List UInt8) (n : Int) (m : List (Str × Int)) (i : Int) (h : if (decide (i < 0)) = true then (decide (0 ≤ i) && decide (Int.toNat i < List.length ([] : List PV)) && 0 == 1) = true ∧ (False) else (∃ y0 : Bool, AV.pv (valT (fun (x : Lin × Unit) => validL x.1) [(.agg [(.int .i64 n), (.sl 0 true [])])]) = AV.pv (enc y0) ∧ (if (!y0) = true then G (((.tup [(.pv (.agg [(.int .i64 0), (.sl 0 true [])])), (.pv (.int .i64 3))]), ([(.box [(.pv (.str r)), (.pv (.int .i64 n)), (.map 1)]), (.map (mapP m))], []))) else (G (((.tup [(.pv (.agg [(.int .i64 n), (.sl 0 true [])])), (.pv (.int .i64 0))]), ([(.box [(.pv (.str r)), (.pv (.int .i64 n)), (.map 1)]), (.map (mapP m))], []))))))) : AtM T_resy E 2 (endO' 2 rs_resy G) ic_resy 0 58 [(0, .ptr 0 1), (2, .ptr 2 0), (4, .ptr 3 0), (33, .pv (.sl 0 true [])), (34, .pv (.int .i64 0)), (35, .pv (.int .i64 i))] [.obj (.box [.pv (.str r), .pv (.int .i64 n), .map 1]), .obj (.map (mapP m)), .obj (.box [.pv (.int .i64 0), .pv (.sl 0 true [])]), .obj (.box [.pv (.int .i64 n), .pv (.sl 0 true [])])] := GetsX.mo (.lit (.ask (.req (.keep (.lit (.nil)))) (.lit (.abs (Bool) (fun YY => AV.pv (enc YY)) (.ask (.nil) (.nil)))))) h (by kernel_rfl)
theorem resy_h0a {G : AV × List AObj × List AObj → Prop} (E : ExtE) (r : List UInt8) (n : Int) (m : List (Str × Int)) (l : Nat) (xs : List (List UInt8)) (i : Int) (h : if (decide (i < (↑l : Int))) = true then (decide (0 ≤ i) && decide (0 + Int.toNat i < l) && List.length (List.map PV.str xs) == l) = true ∧ ((List.length (List.map PV.str xs) == l && decide (0 + Int.toNat i < List.length (List.map PV.str xs))) = true ∧ ((decide (0 + List.length [Sh.str] ≤ List.length (PV.cells (List.getD (List.map PV.str xs) (0 + Int.toNat i) default))) && shFit (PV.cells (List.getD (List.map PV.str xs) (0 + Int.toNat i) default)) 0 [Sh.str]) = true ∧ ((lookOK (Sh.co Sh.str (List.getD (PV.cells (List.getD (List.map PV.str xs) (0 + Int.toNat i) default)) 0 default)) (mapP m) && Sh.fit (Sh.int .i64) (lookD (Sh.co Sh.str (List.getD (PV.cells (List.getD (List.map PV.str xs) (0 + Int.toNat i) default)) 0 default)) (PV.int .i64 0) (mapP m))) = true ∧ (AtM T_resy E 2 (endO' 2 rs_resy G) ic_resy 0 58 [(0, (.ptr 0 1)), (2, (.ptr 2 0)), (4, (.ptr 3 0)), (33, (.row 4 l 0 l)), (34, (.pv (.int .i64 (↑l : Int)))), (35, (.pv (.int .i64 (IntKind.wrap IntKind.i64 (i + 1)))))] [(.obj (.box [(.pv (.str r)), (.pv (.int .i64 n)), (.map 1)])), (.obj (.map (mapP m))), (.obj (.box [(.pv (.int .i64 0)), (.pv (.sl 0 true []))])), (.obj (.box [(.pv (.int .i64 n)), (.row 5 1 0 1)])), (.obj (.row false 9 1 (List.map PV.str xs))), (.obj (.row false 87 2 [(.agg [(.str (PV.asStr (List.getD (PV.cells (List.getD (List.map PV.str xs) (0 + Int.toNat i) default)) 0 default))), (.int .i64 (PV.asInt (lookD (Sh.co Sh.str (List.getD (PV.cells (List.getD (List.map PV.str xs) (0 + Int.toNat i) default)) 0 default)) (PV.int .i64 0) (mapP m))))])]))])))) else (∃ y0 : Bool, AV.pv (valT (fun (x : Lin × Unit) => validL x.1) [(.agg [(.int .i64 n), (.sl 0 true [])])]) = AV.pv (enc y0) ∧ (if (!y0) = true then G (((.tup [(.pv (.agg [(.int .i64 0), (.sl 0 true [])])), (.pv (.int .i64 3))]), ([(.box [(.pv (.str r)), (.pv (.int .i64 n)), (.map 1)]), (.map (mapP m))], []))) else (G (((.tup [(.pv (.agg [(.int .i64 n), (.sl 0 true [])])), (.pv (.int .i64 0))]), ([(.box [(.pv (.str r)), (.pv (.int .i64 n)), (.map 1)]), (.map (mapP m))], []))))))) : AtM T_resy E 2 (endO' 2 rs_resy G) ic_resy 0 58 [(0, .ptr 0 1), (2, .ptr 2 0), (4, .ptr 3 0), (33, .row 4 l 0 l), (34, .pv (.int .i64 l)), (35, .pv (.int .i64 i))] [.obj (.box [.pv (.str r), .pv (.int .i64 n), .map 1]), .obj (.map (mapP m)), .obj (.box [.pv (.int .i64 0), .pv (.sl 0 true [])]), .obj (.box [.pv (.int .i64 n), .pv (.sl 0 true [])]), .obj (.row false 9 1 (xs.map .str))] := GetsX.mo (.lit (.ask (.req (.keep (.req (.req (.req (.keep (.lit (.lit (.lit (.lit (.lit (.lit (.nil))))))))))))) (.lit (.abs (Bool) (fun YY => AV.pv (enc YY)) (.ask (.nil) (.nil)))))) h (by kernel_rfl)
theorem resy_h0b {G : AV × List AObj × List AObj → Prop} (E : ExtE) (r : List UInt8) (n : Int) (m : List (Str × Int)) (l : Nat) (xs : List (List UInt8)) (i : Int) (q : Nat) (ts : List Coef) (h : if (decide (i < (↑l : Int))) = true then (decide (0 ≤ i) && decide (0 + Int.toNat i < l) && List.length (List.map PV.str xs) == l) = true ∧ ((List.length (List.map PV.str xs) == l && decide (0 + Int.toNat i < List.length (List.map PV.str xs))) = true ∧ ((decide (0 + List.length [Sh.str] ≤ List.length (PV.cells (List.getD (List.map PV.str xs) (0 + Int.toNat i) default))) && shFit (PV.cells (List.getD (List.map PV.str xs) (0 + Int.toNat i) default)) 0 [Sh.str]) = true ∧ ((lookOK (Sh.co Sh.str (List.getD (PV.cells (List.getD (List.map PV.str xs) (0 + Int.toNat i) default)) 0 default)) (mapP m) && Sh.fit (Sh.int .i64) (lookD (Sh.co Sh.str (List.getD (PV.cells (List.getD (List.map PV.str xs) (0 + Int.toNat i) default)) 0 default)) (PV.int .i64 0) (mapP m))) = true ∧ ((List.length (List.map enc ts) == q && q == q && decide ((q + List.length (List.drop 0 (List.take 1 [PV.agg [Sh.co Sh.str (List.getD (PV.cells (List.getD (List.map PV.str xs) (0 + Int.toNat i) default)) 0 default), if false = true then PV.tup [Sh.co (Sh.int .i64) (lookD (Sh.co Sh.str (List.getD (PV.cells (List.getD (List.map PV.str xs) (0 + Int.toNat i) default)) 0 default)) (PV.int .i64 0) (mapP m)), PV.bool (lookHas (Sh.co Sh.str (List.getD (PV.cells (List.getD (List.map PV.str xs) (0 + Int.toNat i) default)) 0 default)) (mapP m))] else Sh.co (Sh.int .i64) (lookD (Sh.co Sh.str (List.getD (PV.cells (List.getD (List.map PV.str xs) (0 + Int.toNat i) default)) 0 default)) (PV.int .i64 0) (mapP m))]]))) * 24 ≤ 1099511627776) && decide (q + List.length (List.drop 0 (List.take 1 [PV.agg [Sh.co Sh.str (List.getD (PV.cells (List.getD (List.map PV.str xs) (0 + Int.toNat i) default)) 0 default), if false = true then PV.tup [Sh.co (Sh.int .i64) (lookD (Sh.co Sh.str (List.getD (PV.cells (List.getD (List.map PV.str xs) (0 + Int.toNat i) default)) 0 default)) (PV.int .i64 0) (mapP m)), PV.bool (lookHas (Sh.co Sh.str (List.getD (PV.cells (List.getD (List.map PV.str xs) (0 + Int.toNat i) default)) 0 default)) (mapP m))] else Sh.co (Sh.int .i64) (lookD (Sh.co Sh.str (List.getD (PV.cells (List.getD (List.map PV.str xs) (0 + Int.toNat i) default)) 0 default)) (PV.int .i64 0) (mapP m))]])) ≤ 1099511627776)) = true ∧ (AtM T_resy E 2 (endO' 2 rs_resy G) ic_resy 0 58 [(0, (.ptr 0 1)), (2, (.ptr 2 0)), (4, (.ptr 3 0)), (33, (.row 4 l 0 l)), (34, (.pv (.int .i64 (↑l : Int)))), (35, (.pv (.int .i64 (IntKind.wrap IntKind.i64 (i + 1)))))] [(.obj (.box [(.pv (.str r)), (.pv (.int .i64 n)), (.map 1)])), (.obj (.map (mapP m))), (.obj (.box [(.pv (.int .i64 0)), (.pv (.sl 0 true []))])), (.obj (.box [(.pv (.int .i64 n)), (.row 5 (q + List.length (List.drop 0 (List.take 1 [PV.agg [Sh.co Sh.str (List.getD (PV.cells (List.getD (List.map PV.str xs) (0 + Int.toNat i) default)) 0 default), if false = true then PV.tup [Sh.co (Sh.int .i64) (lookD (Sh.co Sh.str (List.getD (PV.cells (List.getD (List.map PV.str xs) (0 + Int.toNat i) default)) 0 default)) (PV.int .i64 0) (mapP m)), PV.bool (lookHas (Sh.co Sh.str (List.getD (PV.cells (List.getD (List.map PV.str xs) (0 + Int.toNat i) default)) 0 default)) (mapP m))] else Sh.co (Sh.int .i64) (lookD (Sh.co Sh.str (List.getD (PV.cells (List.getD (List.map PV.str xs) (0 + Int.toNat i) default)) 0 default)) (PV.int .i64 0) (mapP m))]]))) 0 (q + List.length (List.drop 0 (List.take 1 [PV.agg [Sh.co Sh.str (List.getD (PV.cells (List.getD (List.map PV.str xs) (0 + Int.toNat i) default)) 0 default), if false = true then PV.tup [Sh.co (Sh.int .i64) (lookD (Sh.co Sh.str (List.getD (PV.cells (List.getD (List.map PV.str xs) (0 + Int.toNat i) default)) 0 default)) (PV.int .i64 0) (mapP m)), PV.bool (lookHas (Sh.co Sh.str (List.getD (PV.cells (List.getD (List.map PV.str xs) (0 + Int.toNat i) default)) 0 default)) (mapP m))] else Sh.co (Sh.int .i64) (lookD (Sh.co Sh.str (List.getD (PV.cells (List.getD (List.map PV.str xs) (0 + Int.toNat i) default)) 0 default)) (PV.int .i64 0) (mapP m))]]))))])), (.obj (.row false 9 1 (List.map PV.str xs))), (.obj (.row false 87 2 (List.map enc ts ++ List.drop 0 (List.take 1 [PV.agg [Sh.co Sh.str (List.getD (PV.cells (List.getD (List.map PV.str xs) (0 + Int.toNat i) default)) 0 default), if false = true then PV.tup [Sh.co (Sh.int .i64) (lookD (Sh.co Sh.str (List.getD (PV.cells (List.getD (List.map PV.str xs) (0 + Int.toNat i) default)) 0 default)) (PV.int .i64 0) (mapP m)), PV.bool (lookHas (Sh.co Sh.str (List.getD (PV.cells (List.getD (List.map PV.str xs) (0 + Int.toNat i) default)) 0 default)) (mapP m))] else Sh.co (Sh.int .i64) (lookD (Sh.co Sh.str (List.getD (PV.cells (List.getD (List.map PV.str xs) (0 + Int.toNat i) default)) 0 default)) (PV.int .i64 0) (mapP m))]]))))]))))) else ((List.length (List.map enc ts) == q) = true ∧ ((Go.Pl.preT (fun (x : Lin × Unit) => linSm x.1) [(.agg [(.int .i64 n), (.sl 2 false (List.drop 0 (List.take q (List.map enc ts))))])]) = true ∧ (∃ y0 : Bool, AV.pv (valT (fun (x : Lin × Unit) => validL x.1) [(.agg [(.int .i64 n), (.sl 2 false (List.drop 0 (List.take q (List.map enc ts))))])]) = AV.pv (enc y0) ∧ (if (!y0) = true then G (((.tup [(.pv (.agg [(.int .i64 0), (.sl 0 true [])])), (.pv (.int .i64 3))]), ([(.box [(.pv (.str r)), (.pv (.int .i64 n)), (.map 1)]), (.map (mapP m))], []))) else (G (((.tup [(.agg [(.pv (.int .i64 n)), (.row 2 q 0 q)]), (.pv (.int .i64 0))]), ([(.box [(.pv (.str r)), (.pv (.int .i64 n)), (.map 1)]), (.map (mapP m))], [(.row true 87 2 (List.map enc ts))]))))))))) : AtM T_resy E 2 (endO' 2 rs_resy G) ic_resy 0 58 [(0, .ptr 0 1), (2, .ptr 2 0), (4, .ptr 3 0), (33, .row 4 l 0 l), (34, .pv (.int .i64 l)), (35, .pv (.int .i64 i))] [.obj (.box [.pv (.str r), .pv (.int .i64 n), .map 1]), .obj (.map (mapP m)), .obj (.box [.pv (.int .i64 0), .pv (.sl 0 true [])]), .obj (.box [.pv (.int .i64 n), .row 5 q 0 q]), .obj (.row false 9 1 (xs.map .str)), .obj (.row false 87 2 (ts.map enc))] := GetsX.mo (.lit (.ask (.req (.keep (.req (.req (.req (.keep (.lit (.lit (.req (.lit (.nil))))))))))) (.req (.req (.abs (Bool) (fun YY => AV.pv (enc YY)) (.ask (.nil) (.nil))))))) h (by kernel_rfl)
theorem resy_x0a {G : AV × List AObj × List AObj → Prop} (E : ExtE) (r : List UInt8) (n : Int) (m : List (Str × Int))  (h : AtM T_resy E 2 (endO' 2 rs_resy G) ic_resy 0 58 [(0, (.ptr 0 1)), (2, (.ptr 2 0)), (4, (.ptr 3 0)), (33, (.pv (.sl 0 true []))), (34, (.pv (.int .i64 0))), (35, (.pv (.int .i64 0)))] [(.obj (.box [(.pv (.str r)), (.pv (.int .i64 n)), (.map 1)])), (.obj (.map (mapP m))), (.obj (.box [(.pv (.int .i64 0)), (.pv (.sl 0 true []))])), (.obj (.box [(.pv (.int .i64 n)), (.pv (.sl 0 true []))]))]) : AfX T_resy E 2 (endO' 2 rs_resy G) ic_resy 0 .normal ⟨envJ 58 0 [(0, .ptr 0 1), (2, .ptr 2 0), (4, .ptr 3 0), (5, .pv (.sl 0 true [])), (18, .map 1), (19, .ptr 4 0)], [.obj (.box [.pv (.str r), .pv (.int .i64 n), .map 1]), .obj (.map (mapP m)), .obj (.box [.pv (.int .i64 0), .pv (.sl 0 true [])]), .obj (.box [.pv (.int .i64 n), .pv (.sl 0 true [])]), .dead]⟩ := GetsX.mo (.lit (.keep (.nil))) h (by kernel_rfl)
theorem resy_x0b {G : AV × List AObj × List AObj → Prop} (E : ExtE) (r : List UInt8) (n : Int) (m : List (Str × Int)) (l : Nat) (xs : List (List UInt8)) (h : (pre_sorts [(.row 0 l 0 l)] [(.row false 9 1 (List.map PV.str xs))]) = true ∧ (AtM T_resy E 2 (endO' 2 rs_resy G) ic_resy 0 58 [(0, (.ptr 0 1)), (2, (.ptr 2 0)), (4, (.ptr 3 0)), (33, (.row 4 l 0 l)), (34, (.pv (.int .i64 (↑(l - 0) : Int)))), (35, (.pv (.int .i64 0)))] [(.obj (.box [(.pv (.str r)), (.pv (.int .i64 n)), (.map 1)])), (.obj (.map (mapP m))), (.obj (.box [(.pv (.int .i64 0)), (.pv (.sl 0 true []))])), (.obj (.box [(.pv (.int .i64 n)), (.pv (.sl 0 true []))])), (.obj (.row false 9 1 (List.map PV.str (sortS (List.map strOf (List.map PV.str xs))))))])) : AfX T_resy E 2 (endO' 2 rs_resy G) ic_resy 0 .normal ⟨envJ 58 0 [(0, .ptr 0 1), (2, .ptr 2 0), (4, .ptr 3 0), (5, .row 5 l 0 l), (18, .map 1), (19, .ptr 4 0)], [.obj (.box [.pv (.str r), .pv (.int .i64 n), .map 1]), .obj (.map (mapP m)), .obj (.box [.pv (.int .i64 0), .pv (.sl 0 true [])]), .obj (.box [.pv (.int .i64 n), .pv (.sl 0 true [])]), .dead, .obj (.row false 9 1 (xs.map .str))]⟩ := GetsX.mo (.req (.keep (.nil))) h (by kernel_rfl)
end Go.Pl

namespace Go.Pl
open Go.RowKit
open Enc (enc dec is)
open EncL (encL decL isL)
def resV (r : List UInt8) (n : Int) (m : List (Str × Int)) (l : List Coef) : AV × List AObj × List AObj :=
  if validL ⟨n, l⟩ then
    if l.isEmpty then (.tup [.pv (.agg [.int .i64 n, .sl 0 true []]), .pv (.int .i64 0)], [.box [.pv (.str r), .pv (.int .i64 n), .map 1], .map (mapP m)], [])
    else (.tup [.agg [.pv (.int .i64 n), .row 2 l.length 0 l.length], .pv (.int .i64 0)], [.box [.pv (.str r), .pv (.int .i64 n), .map 1], .map (mapP m)], [.row true 87 2 (l.map enc)])
  else (.tup [.pv (.agg [.int .i64 0, .sl 0 true []]), .pv (.int .i64 3)], [.box [.pv (.str r), .pv (.int .i64 n), .map 1], .map (mapP m)], [])
theorem resy_loop {E : ExtE} (r : List UInt8) (n : Int) (m : List (Str × Int)) (xs : List (List UInt8)) (hx : xs.length ≤ 1000000) (hsx : ∀ x ∈ xs, x.length ≤ 1000000) : ∀ (j k : Nat), j + k = xs.length → 0 < k →
    AtM T_resy E 2 (endO' 2 rs_resy fun z => z = resV r n m (coefsM m xs)) ic_resy 0 58 [(0, .ptr 0 1), (2, .ptr 2 0), (4, .ptr 3 0), (33, .row 4 xs.length 0 xs.length), (34, .pv (.int .i64 xs.length)), (35, .pv (.int .i64 k))]
      [.obj (.box [.pv (.str r), .pv (.int .i64 n), .map 1]), .obj (.map (mapP m)), .obj (.box [.pv (.int .i64 0), .pv (.sl 0 true [])]), .obj (.box [.pv (.int .i64 n), .row 5 k 0 k]), .obj (.row false 9 1 (xs.map .str)), .obj (.row false 87 2 ((coefsM m (xs.take k)).map enc))] := by
  intro j
  induction j with
  | zero =>
    intro k hk h0
    obtain rfl : k = xs.length := by omega
    refine resy_h0b E r n m xs.length xs xs.length xs.length (coefsM m (xs.take xs.length)) ?_
    rw [if_neg (by simp)]
    have e1 : coefsM m (xs.take xs.length) = coefsM m xs := by rw [List.take_length]
    rw [e1]
    have e2 : List.drop 0 (List.take xs.length (List.map (enc : Coef → PV) (coefsM m xs))) = (coefsM m xs).map enc := by rw [List.drop_zero, List.take_of_length_le (by simp [coefsM])]
    rw [e2]
    refine ⟨by simp [coefsM], pre_enc (⟨n, coefsM m xs⟩, ()) rfl (coefs_sm n m hx hsx), ex_enc (⟨n, coefsM m xs⟩, ()) rfl ?_⟩
    have hne : (coefsM m xs).isEmpty = false := by cases xs <;> simp [coefsM] at h0 ⊢
    by_cases hv : validL ⟨n, coefsM m xs⟩ = true
    · rw [if_neg (by simp [hv])]
      unfold resV
      rw [if_pos hv, hne]
      simp [coefsM]
    · rw [if_pos (by simpa using hv)]
      simp [resV, hv]
  | succ j ih =>
    intro k hk h0
    have hlt : k < xs.length := by omega
    refine resy_h0b E r n m xs.length xs k k (coefsM m (xs.take k)) ?_
    rw [if_pos (by simp; omega)]
    have eg : List.getD (List.map PV.str xs) (0 + Int.toNat (k : Int)) default = .str xs[k] := by simp [List.getD, hlt]
    rw [eg]
    have ec : Sh.co Sh.str (List.getD (PV.cells (.str xs[k])) 0 default) = .str xs[k] := rfl
    rw [ec, lookD_map]
    refine ⟨by simp; omega, by simp; omega, rfl, by rw [lookOK_map]; rfl, ?_, ?_⟩
    · simp [coefsM]; omega
    · have h := ih (k + 1) (by omega) (by omega)
      have et : xs.take (k + 1) = xs.take k ++ [xs[k]] := by rw [List.take_add_one, List.getElem?_eq_getElem hlt]; rfl
      rw [et] at h
      rw [next (by omega)]
      simp only [coefsM, List.map_append, List.map_cons, List.map_nil] at h ⊢
      exact h
def resyE : ExtE := fun nn st q => nn = 0 ∧ MapE T_resy 2 resP st q
def resyH (r : List UInt8) (n : Int) : Heap := [.obj (.box [.pv (.str r), .pv (.int .i64 n), .map 1]), .dead, .obj (.box [.pv (.int .i64 0), .pv (.sl 0 true [])]), .obj (.box [.pv (.int .i64 n), .pv (.sl 0 true [])]), .dead]
def resyEnv (x : AV) : List AV := envJ 58 0 [(0, .ptr 0 1), (2, .ptr 2 0), (4, .ptr 3 0), (5, x), (18, .map 1), (19, .ptr 4 0)]
def resyI (r : List UInt8) (n : Int) (vis : List (PV × PV)) (s : St) : Prop :=
  (kz vis = [] ∧ s = ⟨resyEnv (.pv (.sl 0 true [])), resyH r n⟩) ∨ (kz vis ≠ [] ∧ s = ⟨resyEnv (.row 5 (kz vis).length 0 (kz vis).length), resyH r n ++ [.obj (.row false 9 1 ((kz vis).map .str))]⟩)
theorem resy_round (r : List UInt8) (n : Int) (vis : List (PV × PV)) (s : List UInt8) (c : Int) (st : St) (hl : (kz vis).length < 1000000) (h : resyI r n vis st) :
    ∃ s2, runA T_resy st.heap.length resP.psE (grow ⟨((st.env.set 20 .junk).set 21 .junk).set 22 (.pv (.tup [.str s, .int .i64 c])), st.heap⟩ (news resP.psE)) = some s2 ∧ ∃ F', (∀ x, ¬ F' x) ∧
      GetsX T_resy (fun n' S' _ => n' = 99 ∧ resyI r n (vis ++ [(.str s, .int .i64 c)]) S') st.heap.length F' (.inl ic_resya) [.blk 1, .seq (.ext 99 [0, 2, 4, 5, 18, 19])] s2 := by
  have hno : ∀ k, ∀ x, ¬ endO' k rs_resya (fun _ => False) x := by rintro k x ⟨r, _, h⟩; exact h
  have ek : kz (vis ++ [(.str s, .int .i64 c)]) = kz vis ++ (if c = 0 then [] else [s]) := by
    unfold kz
    rw [List.filterMap_append]
    by_cases hc : c = 0 <;> simp [hc]
  rcases h with ⟨h1, rfl⟩ | ⟨h1, rfl⟩
  · refine ⟨_, by kernel_rfl, _, hno 5, resya_r0 (G := fun _ => False) _ r n s c ?_⟩
    by_cases hc : c = 0
    · rw [if_neg (by simp [hc])]
      refine ⟨rfl, .inl ⟨by rw [ek, h1]; simp [hc], rfl⟩⟩
    · rw [if_pos (by simpa using hc)]
      refine ⟨rfl, .inr ⟨by rw [ek, h1]; simp [hc], ?_⟩⟩
      rw [ek, h1]
      simp [hc]
      exact ⟨rfl, rfl⟩
  · refine ⟨_, by kernel_rfl, _, hno 6, resyb_r0 (G := fun _ => False) _ r n s c (kz vis).length (kz vis) ?_⟩
    by_cases hc : c = 0
    · rw [if_neg (by simp [hc])]
      refine ⟨rfl, .inr ⟨by rw [ek]; simp [hc, h1], ?_⟩⟩
      rw [ek]
      simp [hc]
      exact ⟨rfl, rfl⟩
    · rw [if_pos (by simpa using hc)]
      refine ⟨by simp; omega, rfl, .inr ⟨by rw [ek]; simp [hc], ?_⟩⟩
      rw [ek]
      simp [hc]
      exact ⟨rfl, rfl⟩
theorem resy_first {E : ExtE} (r : List UInt8) (n : Int) (m : List (Str × Int)) (xs : List (List UInt8)) (hx : xs.length ≤ 1000000) (hsx : ∀ x ∈ xs, x.length ≤ 1000000) (h0 : 0 < xs.length) :
    AtM T_resy E 2 (endO' 2 rs_resy fun z => z = resV r n m (coefsM m xs)) ic_resy 0 58 [(0, .ptr 0 1), (2, .ptr 2 0), (4, .ptr 3 0), (33, .row 4 xs.length 0 xs.length), (34, .pv (.int .i64 xs.length)), (35, .pv (.int .i64 0))]
      [.obj (.box [.pv (.str r), .pv (.int .i64 n), .map 1]), .obj (.map (mapP m)), .obj (.box [.pv (.int .i64 0), .pv (.sl 0 true [])]), .obj (.box [.pv (.int .i64 n), .pv (.sl 0 true [])]), .obj (.row false 9 1 (xs.map .str))] := by
  refine resy_h0a E r n m xs.length xs 0 ?_
  rw [if_pos (by simp; omega)]
  have eg : List.getD (List.map PV.str xs) (0 + Int.toNat (0 : Int)) default = .str xs[0] := by simp [List.getD, h0]
  rw [eg]
  have ec : Sh.co Sh.str (List.getD (PV.cells (.str xs[0])) 0 default) = .str xs[0] := rfl
  rw [ec, lookD_map]
  refine ⟨by simp; omega, by simp; omega, rfl, by rw [lookOK_map]; rfl, ?_⟩
  have h := resy_loop (E := E) r n m xs hx hsx (xs.length - 1) 1 (by omega) (by omega)
  have et : xs.take 1 = [xs[0]] := by cases xs <;> simp at h0 ⊢
  rw [et] at h
  exact h
theorem resy_run (r : List UInt8) (n : Int) (m : List (Str × Int)) (hm : m.length < 1000000) (hkm : ∀ x ∈ namesM m, x.length ≤ 1000000) :
    GetsM T_resy resyE 2 (endO' 2 rs_resy fun z => z = resV r n m (coefsM m (namesM m))) ic_resy [] (st0O 58 [.ptr 0 1] [.box [.pv (.str r), .pv (.int .i64 n), .map 1], .map (mapP m)]) := by
  refine resy_s resyE r n m ?_
  have elen : ∀ x, (resyEnv x).length = 58 := fun x => rfl
  refine ⟨rfl, ⟨((((envJ 58 0 [(0, .ptr 0 1), (2, .ptr 2 0), (4, .ptr 3 0), (5, .pv (.sl 0 true [])), (6, .undef), (7, .undef), (15, .undef), (16, .undef), (17, .undef), (18, .undef), (19, .undef), (20, .undef), (21, .undef), (22, .undef), (23, .undef), (24, .undef), (25, .undef), (26, .undef), (27, .undef), (28, .undef), (29, .undef), (30, .undef)]).set 15 (.ptr 0 1)).set 16 (.ptr 0 1)).set 17 (.ptr 0 2)).set 18 (.map 1),
      [.obj (.box [.pv (.str r), .pv (.int .i64 n), .map 1]), .obj (.map (mapP m)), .obj (.box [.pv (.int .i64 0), .pv (.sl 0 true [])]), .obj (.box [.pv (.int .i64 n), .pv (.sl 0 true [])])]⟩, ⟨resyEnv (.pv (.sl 0 true [])), resyH r n⟩, 1, 4, 18, 1, mapP m, [0, 2, 4, 5, 18, 19], [0, 2, 4, 5, 18, 19], resyI r n, by kernel_rfl, rfl, rfl, by kernel_rfl, rfl, by decide, rfl, .inl ⟨rfl, rfl⟩, ?_, ?_, ?_⟩
  · intro vis s h
    rcases h with ⟨_, rfl⟩ | ⟨_, rfl⟩
    · exact ⟨⟨rfl, by show 20 < _; rw [elen]; omega, by show 21 < _; rw [elen]; omega, by show 22 < _; rw [elen]; omega⟩, rfl⟩
    · exact ⟨⟨rfl, by show 20 < _; rw [elen]; omega, by show 21 < _; rw [elen]; omega, by show 22 < _; rw [elen]; omega⟩, rfl⟩
  · intro vis kv s rest hp hI
    have hin : kv ∈ mapP m := hp.mem_iff.2 (by simp)
    obtain ⟨p, _, rfl⟩ := List.mem_map.1 hin
    have hl := hp.length_eq
    simp [mapP] at hl
    have hk : (kz vis).length ≤ vis.length := List.length_filterMap_le _ _
    exact resy_round r n vis p.1.s p.2 s (by omega) hI
  · intro vis s hp hI
    have hpk : (kz vis).Perm (kz (mapP m)) := hp.filterMap _
    have hs : sortS (kz vis) = namesM m := sortS_perm hpk
    have hkl : (kz vis).length ≤ 1000000 := by
      have h1 : (kz vis).length ≤ vis.length := List.length_filterMap_le _ _
      have h2 := hp.length_eq
      simp [mapP] at h2
      omega
    rcases hI with ⟨h1, rfl⟩ | ⟨h1, rfl⟩
    · refine resy_x0a resyE r n m ?_
      have hn : namesM m = [] := by rw [← hs, h1]; simp [sortS]
      rw [hn]
      refine resy_h0n resyE r n m 0 ?_
      rw [if_neg (by simp)]
      refine ex_val (⟨n, []⟩, ()) (by simp) ?_
      by_cases hv : validL ⟨n, []⟩ = true
      · rw [if_neg (by simp [hv])]
        simp [resV, coefsM, hv]
      · rw [if_pos (by simpa using hv)]
        simp [resV, coefsM, hv]
    · refine resy_x0b resyE r n m (kz vis).length (kz vis) ?_
      have e1 : List.map strOf (List.map PV.str (kz vis)) = kz vis := by rw [List.map_map]; exact List.map_id _
      rw [e1, hs]
      have e2 : (namesM m).length = (kz vis).length := by rw [← hs]; exact (List.mergeSort_perm _ _).length_eq
      refine ⟨?_, ?_⟩
      · simp [pre_sorts, isStrP]
        omega
      · have := resy_first (E := resyE) r n m (namesM m) (by omega) hkm (by rw [e2]; exact List.length_pos_iff.2 h1)
        rw [e2] at this
        simpa using this
def pre_resy : List AV → List AObj → Bool
  | [.ptr 0 1], [.box [.pv (.str r), .pv (.int .i64 n), .map 1], .map es] => canM es && mapSm (mapD es)
  | _, _ => false
def val_resy : List AV → List AObj → AV × List AObj × List AObj
  | _, [.box [.pv (.str r), .pv (.int .i64 n), .map 1], .map es] => (.pv (enc (resM n (mapD es))), [.box [.pv (.str r), .pv (.int .i64 n), .map 1], .map es], [])
  | _, _ => combN
def val_resV : List AV → List AObj → AV × List AObj × List AObj
  | _, [.box [.pv (.str r), .pv (.int .i64 n), .map 1], .map es] => resV r n (mapD es) (termsM (mapD es))
  | _, _ => combN
theorem resV_run : ∀ args os, pre_resy args os = true → GetsM T_resy resyE os.length (endO' os.length rs_resy fun z => z = val_resV args os) ic_resy [] (st0O nt_resy args os) := by
  intro args os h
  unfold pre_resy at h
  split at h
  · rename_i r n es
    simp only [Bool.and_eq_true, mapSm, decide_eq_true_eq, List.all_eq_true] at h
    obtain ⟨h1, h2, h3⟩ := h
    obtain ⟨m, rfl⟩ := canM_eq h1
    rw [mapD_map] at h2 h3
    have hv : val_resV [.ptr 0 1] [.box [.pv (.str r), .pv (.int .i64 n), .map 1], .map (mapP m)] = resV r n m (coefsM m (namesM m)) := by
      show resV r n (mapD (mapP m)) (termsM (mapD (mapP m))) = _
      rw [mapD_map, names_terms]
    rw [hv]
    refine resy_run r n m h2 fun x hx => h3 x ?_
    have hx : x ∈ kz (mapP m) := (List.mergeSort_perm _ _).mem_iff.1 hx
    rw [kz_map] at hx
    obtain ⟨p, hp, rfl⟩ := List.mem_map.1 hx
    exact List.mem_map.2 ⟨p, (List.mem_filter.1 hp).1, rfl⟩
  · cases h
theorem resV_len : ∀ args os, pre_resy args os = true → (val_resV args os).2.1.length = os.length := by
  intro args os h
  unfold pre_resy at h
  split at h
  · show (resV _ _ _ _).2.1.length = _
    unfold resV
    split
    · split <;> rfl
    · rfl
  · cases h
theorem resy_frz {P : Program} {f : Nat} (h : OwnOK P f pre_resy val_resV) : OwnOK P f pre_resy val_resy := by
  refine h.frz fun args os hp => ?_
  unfold pre_resy at hp
  split at hp
  · rename_i r n es
    have hv : val_resV [.ptr 0 1] [.box [.pv (.str r), .pv (.int .i64 n), .map 1], .map es] = resV r n (mapD es) (termsM (mapD es)) := rfl
    have hv' : val_resy [.ptr 0 1] [.box [.pv (.str r), .pv (.int .i64 n), .map 1], .map es] = (.pv (enc (resM n (mapD es))), [.box [.pv (.str r), .pv (.int .i64 n), .map 1], .map es], []) := rfl
    simp only [Bool.and_eq_true] at hp
    obtain ⟨m, rfl⟩ := canM_eq hp.1
    rw [hv, hv', mapD_map]
    unfold resV resM
    generalize termsM m = l
    by_cases hl : validL ⟨n, l⟩ = true
    · rw [if_pos hl, if_pos hl]
      by_cases hz : l.isEmpty = true
      · rw [if_pos hz]
        obtain rfl : l = [] := by simpa using hz
        exact ⟨_, _, _, _, _, _, _, _, rfl, rfl, rfl, sub_nolin n 0, rfl⟩
      · rw [if_neg hz]
        refine ⟨_, _, _, .tup [.agg [.int .i64 n, .sl 2 false (l.map enc)], .int .i64 0], [.obj (.box [.pv (.str r), .pv (.int .i64 n), .map 1]), .obj (.map (mapP m)), .obj (.row true 87 2 (l.map enc))], _, _, _, rfl, ?_, rfl, .refl _, rfl⟩
        have e : List.drop 0 (List.take l.length (List.map (enc : Coef → PV) l)) = l.map enc := by rw [List.drop_zero, List.take_of_length_le (by simp)]
        simp only [frz, frzL, HM.run_bind, objs, List.map_cons, List.map_nil, List.cons_append, List.nil_append]
        simp [HM.run, HM.req]
        exact List.take_of_length_le (by simp)
    · rw [if_neg hl, if_neg hl]
      exact ⟨_, _, _, _, _, _, _, _, rfl, rfl, rfl, sub_nolin 0 3, rfl⟩
  · cases hp
end Go.Pl

namespace Go.Pl
open Go.RowKit
open Enc (enc dec is)
open EncL (encL decL isL)
set_option maxRecDepth 100000
def ic_parse : IC := (.seq (.reg [⟨(some 2), (.alloc (.agg [(.int .i64 0), (.sl 0 true [])])), 0, none⟩, ⟨(some 3), (.mv (.c (.int .i64 0))), 1, none⟩] none) (.seq (.reg [⟨(some 9), (.mv (.t 0)), 0, none⟩, ⟨(some 10), .mkmap, 0, none⟩, ⟨(some 11), (.build [(.int .i64 0), .nilmap] [(1, (1, (.t 10)))]), 1, none⟩, ⟨(some 12), (.build [(.str []), (.int .i64 0), .nilmap] [(0, (1, (.t 9))), (1, (2, (.t 11)))]), 1, none⟩, ⟨(some 13), (.box 3 (.t 12)), 1, none⟩, ⟨(some 4), (.mv (.t 13)), 2, none⟩] none) (.seq (.reg [⟨(some 14), (.mv (.t 4)), 0, none⟩, ⟨(some 15), (.mkfn 82 [(.t 14)] []), 0, none⟩, ⟨(some 5), (.mv (.t 15)), 0, none⟩] none) (.seq (.reg [⟨(some 16), (.mv (.t 4)), 0, none⟩, ⟨(some 17), (.call (.c (.fn 83)) [(.t 16)]), 0, none⟩] none) (.seq (.reg [⟨(some 19), (.mv (.t 4)), 0, none⟩, ⟨(some 20), (.call (.c (.fn 84)) [(.t 19)]), 0, none⟩, ⟨(some 18), (.mv (.t 20)), 2, none⟩, ⟨(some 21), (.extract (.t 18) 0), 2, none⟩, ⟨(some 22), (.extract (.t 18) 1), 2, none⟩, ⟨(some 6), (.mv (.t 21)), 2, none⟩, ⟨(some 7), (.mv (.t 22)), 2, none⟩] none) (.block 0 (.loop [4, 5, 6, 2] (.block 1 (.seq (.reg [⟨(some 23), (.mv (.t 4)), 0, none⟩, ⟨(some 24), (.call (.c (.fn 83)) [(.t 23)]), 0, none⟩] none) (.seq (.seq (.reg [⟨(some 25), (.mv (.t 5)), 0, none⟩, ⟨(some 26), (.mv (.t 6)), 0, none⟩, ⟨(some 27), (.call (.t 25) [(.t 26)]), 0, none⟩, ⟨(some 28), (.un .not (.t 27)), 2, none⟩] none) (.cond (.t 28) (.seq (.reg [⟨(some 29), (.build [(.int .i64 0), (.sl 0 true [])] []), 0, none⟩, ⟨none, (.store 2 (.t 2) (.t 29)), 0, none⟩, ⟨(some 3), (.mv (.c (.int .i64 6))), 0, none⟩] none) .ret) .skip)) (.seq (.reg [⟨(some 30), (.mv (.t 4)), 0, none⟩, ⟨(some 31), (.call (.c (.fn 83)) [(.t 30)]), 0, none⟩] none) (.seq (.seq (.reg [⟨(some 32), (.mv (.t 4)), 0, none⟩, ⟨(some 33), (.nilchk (.t 32)), 0, none⟩, ⟨(some 34), (.faddr 0 (.t 33)), 0, none⟩, ⟨(some 35), (.load false [.str] (.t 34)), 0, none⟩, ⟨(some 36), (.bin .num .eql (.t 35) (.c (.str []))), 0, none⟩] none) (.cond (.t 36) (.seq (.reg [⟨(some 37), (.mv (.t 4)), 0, none⟩, ⟨(some 38), (.nilchk (.t 37)), 0, none⟩, ⟨(some 39), (.faddr 1 (.t 38)), 0, none⟩, ⟨(some 40), (.call (.c (.fn 85)) [(.t 39)]), 0, none⟩, ⟨(some 41), (.extract (.t 40) 0), 2, none⟩, ⟨(some 42), (.extract (.t 40) 1), 2, none⟩, ⟨none, (.store 2 (.t 2) (.t 41)), 2, none⟩, ⟨(some 3), (.mv (.t 42)), 2, none⟩] none) .ret) .skip)) (.seq (.reg [⟨(some 8), (.mv (.c (.bool false))), 0, none⟩] none) (.seq (.reg [⟨(some 44), (.mv (.t 4)), 0, none⟩, ⟨(some 45), (.call (.c (.fn 84)) [(.t 44)]), 0, none⟩, ⟨(some 43), (.mv (.t 45)), 2, none⟩, ⟨(some 46), (.extract (.t 43) 0), 2, none⟩, ⟨(some 47), (.extract (.t 43) 1), 2, none⟩, ⟨(some 6), (.mv (.t 46)), 2, none⟩, ⟨(some 8), (.mv (.t 47)), 2, none⟩] none) (.seq (.reg [⟨(some 48), (.mv (.t 8)), 0, none⟩, ⟨(some 49), (.un .not (.t 48)), 0, none⟩] none) (.cond (.t 49) (.seq (.reg [⟨(some 50), (.build [(.int .i64 0), (.sl 0 true [])] []), 0, none⟩, ⟨none, (.store 2 (.t 2) (.t 50)), 0, none⟩, ⟨(some 3), (.mv (.c (.int .i64 6))), 0, none⟩] none) .ret) .skip))))))))))))))))
def rs_parse : List IRes := [(.cell true 2 2), (.tmp 3)]
abbrev nt_parse : Nat := 51
def T_parse : Tab := tab [(83, .own pre_rd0 val_spaces), (84, .own pre_rd0 val_sign), (82, .own pre_rd1 val_item), (85, .own pre_resy val_resy)]
theorem parse_s {G : PV → Prop} (s : List UInt8) (h : (pre_rd0 [(.ptr 0 0)] [(.box [(.pv (.str s)), (.pv (.int .i64 0)), (.map 1)]), (.map [])]) = true ∧ ((pre_rd0 [(.ptr 0 0)] [(.box [(.pv (.str (blanksS s))), (.pv (.int .i64 0)), (.map 1)]), (.map [])]) = true ∧ (At T_parse 0 (endP' rs_parse G) ic_parse 0 51 [(2, (.ptr 0 0)), (4, (.ptr 1 0)), (5, (.fn 82 [(.ptr 1 0)] [])), (6, (.pv (.int .i64 (Prod.fst (Prod.fst (signR (blanksS s)))))))] [(.obj (.box [(.pv (.int .i64 0)), (.pv (.sl 0 true []))])), (.obj (.box [(.pv (.str (Prod.snd (signR (blanksS s))))), (.pv (.int .i64 0)), (.map 2)])), (.obj (.map []))]))) : Gets T_parse 0 (endP' rs_parse G) ic_parse [] (st0 51 [.str s]) := Gets.tp (.req (.keep (.req (.keep (.nil))))) h (by kernel_rfl)
theorem parse_h0 {G : PV → Prop} (s : List UInt8) (t : List UInt8) (n : Int) (m : List (Str × Int)) (g : Int) (h : (pre_rd0 [(.ptr 0 0)] [(.box [(.pv (.str t)), (.pv (.int .i64 n)), (.map 1)]), (.map (mapP m))]) = true ∧ ((pre_rd1 [(.ptr 0 0), (.pv (.int .i64 g))] [(.box [(.pv (.str (blanksS t))), (.pv (.int .i64 n)), (.map 1)]), (.map (mapP m))]) = true ∧ (if (!Prod.fst (itemR (RdS.mk (blanksS t) n (mapD (mapP m))) g)) = true then G ((.tup [(.agg [(.int .i64 0), (.sl 0 true [])]), (.int .i64 6)])) else ((pre_rd0 [(.ptr 0 0)] [(.box [(.pv (.str (RdS.s (Prod.snd (itemR (RdS.mk (blanksS t) n (mapD (mapP m))) g))))), (.pv (.int .i64 (RdS.n (Prod.snd (itemR (RdS.mk (blanksS t) n (mapD (mapP m))) g))))), (.map 1)]), (.map (mapP (RdS.m (Prod.snd (itemR (RdS.mk (blanksS t) n (mapD (mapP m))) g)))))]) = true ∧ (if (blanksS (RdS.s (Prod.snd (itemR (RdS.mk (blanksS t) n (mapD (mapP m))) g))) == []) = true then (pre_resy [(.ptr 0 1)] [(.box [(.pv (.str (blanksS (RdS.s (Prod.snd (itemR (RdS.mk (blanksS t) n (mapD (mapP m))) g)))))), (.pv (.int .i64 (RdS.n (Prod.snd (itemR (RdS.mk (blanksS t) n (mapD (mapP m))) g))))), (.map 1)]), (.map (mapP (RdS.m (Prod.snd (itemR (RdS.mk (blanksS t) n (mapD (mapP m))) g)))))]) = true ∧ (G ((.tup [(.agg [(.int .i64 (Lin.k (Prod.fst (resM (RdS.n (Prod.snd (itemR (RdS.mk (blanksS t) n (mapD (mapP m))) g))) (mapD (mapP (RdS.m (Prod.snd (itemR (RdS.mk (blanksS t) n (mapD (mapP m))) g))))))))), (.sl 2 false (List.map enc (Lin.t (Prod.fst (resM (RdS.n (Prod.snd (itemR (RdS.mk (blanksS t) n (mapD (mapP m))) g))) (mapD (mapP (RdS.m (Prod.snd (itemR (RdS.mk (blanksS t) n (mapD (mapP m))) g))))))))))]), (.int .i64 (Prod.snd (resM (RdS.n (Prod.snd (itemR (RdS.mk (blanksS t) n (mapD (mapP m))) g))) (mapD (mapP (RdS.m (Prod.snd (itemR (RdS.mk (blanksS t) n (mapD (mapP m))) g))))))))]))) else ((pre_rd0 [(.ptr 0 0)] [(.box [(.pv (.str (blanksS (RdS.s (Prod.snd (itemR (RdS.mk (blanksS t) n (mapD (mapP m))) g)))))), (.pv (.int .i64 (RdS.n (Prod.snd (itemR (RdS.mk (blanksS t) n (mapD (mapP m))) g))))), (.map 1)]), (.map (mapP (RdS.m (Prod.snd (itemR (RdS.mk (blanksS t) n (mapD (mapP m))) g)))))]) = true ∧ (if (!Prod.snd (Prod.fst (signR (blanksS (RdS.s (Prod.snd (itemR (RdS.mk (blanksS t) n (mapD (mapP m))) g))))))) = true then G ((.tup [(.agg [(.int .i64 0), (.sl 0 true [])]), (.int .i64 6)])) else (At T_parse 0 (endP' rs_parse G) ic_parse 0 51 [(2, (.ptr 0 0)), (4, (.ptr 1 0)), (5, (.fn 82 [(.ptr 1 0)] [])), (6, (.pv (.int .i64 (Prod.fst (Prod.fst (signR (blanksS (RdS.s (Prod.snd (itemR (RdS.mk (blanksS t) n (mapD (mapP m))) g))))))))))] [(.obj (.box [(.pv (.int .i64 0)), (.pv (.sl 0 true []))])), (.obj (.box [(.pv (.str (Prod.snd (signR (blanksS (RdS.s (Prod.snd (itemR (RdS.mk (blanksS t) n (mapD (mapP m))) g)))))))), (.pv (.int .i64 (RdS.n (Prod.snd (itemR (RdS.mk (blanksS t) n (mapD (mapP m))) g))))), (.map 2)])), (.obj (.map (mapP (RdS.m (Prod.snd (itemR (RdS.mk (blanksS t) n (mapD (mapP m))) g))))))])))))))) : At T_parse 0 (endP' rs_parse G) ic_parse 0 51 [(2, .ptr 0 0), (4, .ptr 1 0), (5, .fn 82 [.ptr 1 0] []), (6, .pv (.int .i64 g))] [.obj (.box [.pv (.int .i64 0), .pv (.sl 0 true [])]), .obj (.box [.pv (.str t), .pv (.int .i64 n), .map 2]), .obj (.map (mapP m))] := At.tp (.req (.keep (.req (.keep (.ask (.nil) (.req (.keep (.lit (.ask (.req (.keep (.nil))) (.req (.keep (.ask (.nil) (.nil))))))))))))) h (by kernel_rfl)
end Go.Pl

namespace Go.Pl
open Go.RowKit
open Enc (enc dec is)
open EncL (encL decL isL)
set_option maxRecDepth 100000
def ic_item : IC := (.seq (.reg [⟨(some 4), (.mv (.c (.bool false))), 0, none⟩] none) (.seq (.seq (.reg [⟨(some 11), (.mv (.t 0)), 0, none⟩, ⟨(some 12), (.nilchk (.t 11)), 0, none⟩, ⟨(some 13), (.faddr 0 (.t 12)), 0, none⟩, ⟨(some 14), (.load false [.str] (.t 13)), 0, none⟩, ⟨(some 15), (.bin .num .eql (.t 14) (.c (.str []))), 0, none⟩] none) (.cond (.t 15) (.seq (.reg [⟨(some 4), (.mv (.c (.bool false))), 0, none⟩] none) .ret) .skip)) (.seq (.seq (.reg [⟨(some 16), (.mv (.t 0)), 0, none⟩, ⟨(some 17), (.nilchk (.t 16)), 0, none⟩, ⟨(some 18), (.faddr 0 (.t 17)), 0, none⟩, ⟨(some 19), (.load false [.str] (.t 18)), 0, none⟩, ⟨(some 20), (.index (.t 19) (.c (.int .i64 0))), 0, none⟩, ⟨(some 21), (.call (.c (.fn 129)) [(.t 20)]), 0, none⟩, ⟨(some 22), (.un .not (.t 21)), 2, none⟩] none) (.cond (.t 22) (.seq (.reg [⟨(some 24), (.mv (.t 0)), 0, none⟩, ⟨(some 25), (.call (.c (.fn 130)) [(.t 24)]), 0, none⟩, ⟨(some 23), (.mv (.t 25)), 2, none⟩, ⟨(some 26), (.extract (.t 23) 0), 2, none⟩, ⟨(some 27), (.extract (.t 23) 1), 2, none⟩, ⟨(some 5), (.mv (.t 26)), 2, none⟩, ⟨(some 6), (.mv (.t 27)), 2, none⟩] none) (.seq (.reg [⟨(some 28), (.mv (.t 0)), 0, none⟩, ⟨(some 29), (.nilchk (.t 28)), 0, none⟩, ⟨(some 30), (.faddr 1 (.t 29)), 0, none⟩, ⟨(some 31), (.faddr 1 (.t 30)), 0, none⟩, ⟨(some 32), (.load false [.any] (.t 31)), 0, none⟩, ⟨(some 33), (.mv (.t 5)), 0, none⟩, ⟨(some 34), (.lookup true (.int .i64) (.int .i64 0) false (.t 32) (.t 33)), 0, none⟩, ⟨(some 35), (.mv (.t 1)), 0, none⟩, ⟨(some 36), (.bin .num .add (.t 34) (.t 35)), 0, none⟩, ⟨none, (.mapupd true (.t 32) (.t 33) (.t 36)), 0, none⟩] none) (.seq (.reg [⟨(some 37), (.mv (.t 6)), 0, none⟩, ⟨(some 4), (.mv (.t 37)), 0, none⟩] none) .ret))) .skip)) (.seq (.reg [⟨(some 39), (.mv (.t 0)), 0, none⟩, ⟨(some 40), (.call (.c (.fn 131)) [(.t 39)]), 0, none⟩, ⟨(some 38), (.mv (.t 40)), 2, none⟩, ⟨(some 41), (.extract (.t 38) 0), 2, none⟩, ⟨(some 42), (.extract (.t 38) 1), 2, none⟩, ⟨(some 7), (.mv (.t 41)), 2, none⟩, ⟨(some 8), (.mv (.t 42)), 2, none⟩] none) (.seq (.seq (.reg [⟨(some 43), (.mv (.t 8)), 0, none⟩, ⟨(some 44), (.un .not (.t 43)), 0, none⟩] none) (.cond (.t 44) (.seq (.reg [⟨(some 4), (.mv (.c (.bool false))), 0, none⟩] none) .ret) .skip)) (.seq (.reg [⟨(some 45), (.mv (.t 0)), 0, none⟩, ⟨(some 46), (.nilchk (.t 45)), 0, none⟩, ⟨(some 47), (.faddr 0 (.t 46)), 0, none⟩, ⟨(some 48), (.load false [.str] (.t 47)), 0, none⟩, ⟨(some 49), (.call (.c (.fn 132)) [(.t 48), (.c (.str [32]))]), 0, none⟩, ⟨(some 9), (.mv (.t 49)), 2, none⟩] none) (.seq (.block 0 (.seq (.reg [⟨(some 51), (.mv (.t 9)), 0, none⟩, ⟨(some 52), (.call (.c (.fn 133)) [(.t 51), (.c (.str [42]))]), 0, none⟩, ⟨(some 50), (.mv (.t 52)), 2, none⟩] none) (.cond (.t 50) (.seq (.reg [⟨(some 53), (.mv (.t 0)), 0, none⟩, ⟨(some 54), (.mv (.t 9)), 0, none⟩, ⟨(some 55), (.strslc (.t 54) (some (.c (.int .i64 1))) none), 0, none⟩, ⟨(some 56), (.nilchk (.t 53)), 0, none⟩, ⟨(some 57), (.faddr 0 (.t 56)), 0, none⟩, ⟨none, (.store 1 (.t 57) (.t 55)), 0, none⟩] none) (.reg [⟨(some 58), (.mv (.t 0)), 0, none⟩, ⟨(some 59), (.call (.c (.fn 83)) [(.t 58)]), 0, none⟩] none)) (.seq (.reg [⟨(some 61), (.mv (.t 0)), 0, none⟩, ⟨(some 62), (.nilchk (.t 61)), 0, none⟩, ⟨(some 63), (.faddr 0 (.t 62)), 0, none⟩, ⟨(some 64), (.load false [.str] (.t 63)), 0, none⟩, ⟨(some 65), (.bin .num .eql (.t 64) (.c (.str []))), 0, none⟩, ⟨(some 66), (.mv (.t 65)), 0, none⟩, ⟨(some 67), (.mv (.t 0)), 0, (some (66, false))⟩, ⟨(some 68), (.nilchk (.t 67)), 0, (some (66, false))⟩, ⟨(some 69), (.faddr 0 (.t 68)), 0, (some (66, false))⟩, ⟨(some 70), (.load false [.str] (.t 69)), 0, (some (66, false))⟩, ⟨(some 71), (.index (.t 70) (.c (.int .i64 0))), 0, (some (66, false))⟩, ⟨(some 72), (.call (.c (.fn 134)) [(.t 71)]), 0, (some (66, false))⟩, ⟨(some 73), (.un .not (.t 72)), 2, (some (66, false))⟩, ⟨(some 74), (.pick (.t 66) (.c (.bool true)) (.t 73)), 2, none⟩, ⟨(some 60), (.mv (.t 74)), 2, none⟩] none) (.cond (.t 60) (.seq (.reg [⟨(some 75), (.mv (.t 0)), 0, none⟩, ⟨(some 76), (.nilchk (.t 75)), 0, none⟩, ⟨(some 77), (.faddr 1 (.t 76)), 0, none⟩, ⟨(some 78), (.faddr 0 (.t 77)), 0, none⟩, ⟨(some 79), (.load false [(.int .i64)] (.t 78)), 0, none⟩, ⟨(some 80), (.mv (.t 1)), 0, none⟩, ⟨(some 81), (.mv (.t 7)), 0, none⟩, ⟨(some 82), (.bin .num .mul (.t 80) (.t 81)), 0, none⟩, ⟨(some 83), (.bin .num .add (.t 79) (.t 82)), 0, none⟩, ⟨(some 84), (.nilchk (.t 75)), 0, none⟩, ⟨(some 85), (.faddr 1 (.t 84)), 0, none⟩, ⟨(some 86), (.faddr 0 (.t 85)), 0, none⟩, ⟨none, (.store 1 (.t 86) (.t 83)), 0, none⟩] none) (.seq (.reg [⟨(some 4), (.mv (.c (.bool true))), 0, none⟩] none) .ret)) .skip))))) (.seq (.reg [⟨(some 88), (.mv (.t 0)), 0, none⟩, ⟨(some 89), (.call (.c (.fn 130)) [(.t 88)]), 0, none⟩, ⟨(some 87), (.mv (.t 89)), 2, none⟩, ⟨(some 90), (.extract (.t 87) 0), 2, none⟩, ⟨(some 91), (.extract (.t 87) 1), 2, none⟩, ⟨(some 10), (.mv (.t 90)), 2, none⟩, ⟨(some 8), (.mv (.t 91)), 2, none⟩] none) (.seq (.reg [⟨(some 92), (.mv (.t 0)), 0, none⟩, ⟨(some 93), (.nilchk (.t 92)), 0, none⟩, ⟨(some 94), (.faddr 1 (.t 93)), 0, none⟩, ⟨(some 95), (.faddr 1 (.t 94)), 0, none⟩, ⟨(some 96), (.load false [.any] (.t 95)), 0, none⟩, ⟨(some 97), (.mv (.t 10)), 0, none⟩, ⟨(some 98), (.lookup true (.int .i64) (.int .i64 0) false (.t 96) (.t 97)), 0, none⟩, ⟨(some 99), (.mv (.t 1)), 0, none⟩, ⟨(some 100), (.mv (.t 7)), 0, none⟩, ⟨(some 101), (.bin .num .mul (.t 99) (.t 100)), 0, none⟩, ⟨(some 102), (.bin .num .add (.t 98) (.t 101)), 0, none⟩, ⟨none, (.mapupd true (.t 96) (.t 97) (.t 102)), 0, none⟩] none) (.seq (.reg [⟨(some 103), (.mv (.t 8)), 0, none⟩, ⟨(some 4), (.mv (.t 103)), 0, none⟩] none) .ret))))))))))
def rs_item : List IRes := [(.tmp 4)]
abbrev nt_item : Nat := 104
def T_item : Tab := tab [(129, .pure (preT (fun _ : UInt8 × Unit => true)) (valT (fun x : UInt8 × Unit => digB x.1))), (130, .own pre_rd0 val_variable), (131, .own pre_rd0 val_number), (132, .pure (preT (fun x : Str × Str × Unit => decide (x.2.1 = ⟨[32]⟩))) (valT (fun x : Str × Str × Unit => (⟨blanksS x.1.s⟩ : Str)))), (133, .pure (preT (fun _ : Str × Str × Unit => true)) (valT (fun x : Str × Str × Unit => x.2.1.s.isPrefixOf x.1.s))), (83, .own pre_rd0 val_spaces), (134, .pure (preT (fun _ : UInt8 × Unit => true)) (valT (fun x : UInt8 × Unit => letB x.1)))]
theorem item_s {G : AV × List AObj × List AObj → Prop} (s : List UInt8) (n : Int) (m : List (Str × Int)) (g : Int) (h : if (s == []) = true then G (((.pv (.bool false)), ([(.box [(.pv (.str s)), (.pv (.int .i64 n)), (.map 1)]), (.map (mapP m))], []))) else ((decide (0 ≤ 0) && decide (Int.toNat 0 < List.length s)) = true ∧ ((Go.Pl.preT (fun (x : UInt8 × Unit) => true) [(.int IntKind.u8 (↑(UInt8.toNat (List.getD s (Int.toNat 0) (0 : UInt8))) : Int))]) = true ∧ (∃ y0 : Bool, AV.pv (valT (fun (x : UInt8 × Unit) => digB x.1) [(.int IntKind.u8 (↑(UInt8.toNat (List.getD s (Int.toNat 0) (0 : UInt8))) : Int))]) = AV.pv (enc y0) ∧ (if (!y0) = true then (pre_rd0 [(.ptr 0 0)] [(.box [(.pv (.str s)), (.pv (.int .i64 n)), (.map 1)]), (.map (mapP m))]) = true ∧ ((lookOK (PV.str (List.takeWhile letB s)) (mapP m) && Sh.fit (Sh.int .i64) (lookD (PV.str (List.takeWhile letB s)) (PV.int .i64 0) (mapP m))) = true ∧ ((updOK (PV.str (List.takeWhile letB s)) (PV.int .i64 (IntKind.wrap IntKind.i64 (PV.asInt (lookD (PV.str (List.takeWhile letB s)) (PV.int .i64 0) (mapP m)) + g))) (mapP m)) = true ∧ (G (((.pv (.bool (nameB (Str.mk (List.takeWhile letB s))))), ([(.box [(.pv (.str (List.dropWhile letB s))), (.pv (.int .i64 n)), (.map 1)]), (.map (updL (PV.str (List.takeWhile letB s)) (PV.int .i64 (IntKind.wrap IntKind.i64 (PV.asInt (lookD (PV.str (List.takeWhile letB s)) (PV.int .i64 0) (mapP m)) + g))) (mapP m)))], [])))))) else ((pre_rd0 [(.ptr 0 0)] [(.box [(.pv (.str s)), (.pv (.int .i64 n)), (.map 1)]), (.map (mapP m))]) = true ∧ (if (!numOk (List.takeWhile digB s)) = true then G (((.pv (.bool false)), ([(.box [(.pv (.str (List.dropWhile digB s))), (.pv (.int .i64 n)), (.map 1)]), (.map (mapP m))], []))) else (∃ y1 : Str, AV.pv (valT (fun (x : Str × Str × Unit) => Str.mk (blanksS (Str.s x.1))) [(.str (List.dropWhile digB s)), (.str [(32 : UInt8)])]) = AV.pv (enc y1) ∧ (∃ y2 : Bool, AV.pv (valT (fun (x : Str × Str × Unit) => List.isPrefixOf (Str.s x.2.1) (Str.s x.1)) [(.str (Str.s y1)), (.str [(42 : UInt8)])]) = AV.pv (enc y2) ∧ (if (y2) = true then (decide (0 ≤ 1) && true && decide (Int.toNat 1 ≤ List.length (Str.s y1)) && decide (List.length (Str.s y1) ≤ List.length (Str.s y1))) = true ∧ ((pre_rd0 [(.ptr 0 0)] [(.box [(.pv (.str (List.drop (Int.toNat 1) (List.take (List.length (Str.s y1)) (Str.s y1))))), (.pv (.int .i64 n)), (.map 1)]), (.map (mapP m))]) = true ∧ ((pre_rd0 [(.ptr 0 0)] [(.box [(.pv (.str (blanksS (List.drop (Int.toNat 1) (List.take (List.length (Str.s y1)) (Str.s y1)))))), (.pv (.int .i64 n)), (.map 1)]), (.map (mapP m))]) = true ∧ ((lookOK (PV.str (List.takeWhile letB (blanksS (List.drop (Int.toNat 1) (List.take (List.length (Str.s y1)) (Str.s y1)))))) (mapP m) && Sh.fit (Sh.int .i64) (lookD (PV.str (List.takeWhile letB (blanksS (List.drop (Int.toNat 1) (List.take (List.length (Str.s y1)) (Str.s y1)))))) (PV.int .i64 0) (mapP m))) = true ∧ ((updOK (PV.str (List.takeWhile letB (blanksS (List.drop (Int.toNat 1) (List.take (List.length (Str.s y1)) (Str.s y1)))))) (PV.int .i64 (IntKind.wrap IntKind.i64 (PV.asInt (lookD (PV.str (List.takeWhile letB (blanksS (List.drop (Int.toNat 1) (List.take (List.length (Str.s y1)) (Str.s y1)))))) (PV.int .i64 0) (mapP m)) + IntKind.wrap IntKind.i64 (g * Prod.fst (atoiE (Str.mk (List.takeWhile digB s))))))) (mapP m)) = true ∧ (G (((.pv (.bool (nameB (Str.mk (List.takeWhile letB (blanksS (List.drop (Int.toNat 1) (List.take (List.length (Str.s y1)) (Str.s y1))))))))), ([(.box [(.pv (.str (List.dropWhile letB (blanksS (List.drop (Int.toNat 1) (List.take (List.length (Str.s y1)) (Str.s y1))))))), (.pv (.int .i64 n)), (.map 1)]), (.map (updL (PV.str (List.takeWhile letB (blanksS (List.drop (Int.toNat 1) (List.take (List.length (Str.s y1)) (Str.s y1)))))) (PV.int .i64 (IntKind.wrap IntKind.i64 (PV.asInt (lookD (PV.str (List.takeWhile letB (blanksS (List.drop (Int.toNat 1) (List.take (List.length (Str.s y1)) (Str.s y1)))))) (PV.int .i64 0) (mapP m)) + IntKind.wrap IntKind.i64 (g * Prod.fst (atoiE (Str.mk (List.takeWhile digB s))))))) (mapP m)))], [])))))))) else (if (List.dropWhile digB s == []) = true then G (((.pv (.bool true)), ([(.box [(.pv (.str (List.dropWhile digB s))), (.pv (.int .i64 (IntKind.wrap IntKind.i64 (n + IntKind.wrap IntKind.i64 (g * Prod.fst (atoiE (Str.mk (List.takeWhile digB s)))))))), (.map 1)]), (.map (mapP m))], []))) else ((decide (0 ≤ 0) && decide (Int.toNat 0 < List.length (List.dropWhile digB s))) = true ∧ ((Go.Pl.preT (fun (x : UInt8 × Unit) => true) [(.int IntKind.u8 (↑(UInt8.toNat (List.getD (List.dropWhile digB s) (Int.toNat 0) (0 : UInt8))) : Int))]) = true ∧ (∃ y3 : Bool, AV.pv (valT (fun (x : UInt8 × Unit) => letB x.1) [(.int IntKind.u8 (↑(UInt8.toNat (List.getD (List.dropWhile digB s) (Int.toNat 0) (0 : UInt8))) : Int))]) = AV.pv (enc y3) ∧ (if (!y3) = true then G (((.pv (.bool true)), ([(.box [(.pv (.str (List.dropWhile digB s))), (.pv (.int .i64 (IntKind.wrap IntKind.i64 (n + IntKind.wrap IntKind.i64 (g * Prod.fst (atoiE (Str.mk (List.takeWhile digB s)))))))), (.map 1)]), (.map (mapP m))], []))) else ((pre_rd0 [(.ptr 0 0)] [(.box [(.pv (.str (List.dropWhile digB s))), (.pv (.int .i64 n)), (.map 1)]), (.map (mapP m))]) = true ∧ ((lookOK (PV.str (List.takeWhile letB (List.dropWhile digB s))) (mapP m) && Sh.fit (Sh.int .i64) (lookD (PV.str (List.takeWhile letB (List.dropWhile digB s))) (PV.int .i64 0) (mapP m))) = true ∧ ((updOK (PV.str (List.takeWhile letB (List.dropWhile digB s))) (PV.int .i64 (IntKind.wrap IntKind.i64 (PV.asInt (lookD (PV.str (List.takeWhile letB (List.dropWhile digB s))) (PV.int .i64 0) (mapP m)) + IntKind.wrap IntKind.i64 (g * Prod.fst (atoiE (Str.mk (List.takeWhile digB s))))))) (mapP m)) = true ∧ (G (((.pv (.bool (nameB (Str.mk (List.takeWhile letB (List.dropWhile digB s)))))), ([(.box [(.pv (.str (List.dropWhile letB (List.dropWhile digB s)))), (.pv (.int .i64 n)), (.map 1)]), (.map (updL (PV.str (List.takeWhile letB (List.dropWhile digB s))) (PV.int .i64 (IntKind.wrap IntKind.i64 (PV.asInt (lookD (PV.str (List.takeWhile letB (List.dropWhile digB s))) (PV.int .i64 0) (mapP m)) + IntKind.wrap IntKind.i64 (g * Prod.fst (atoiE (Str.mk (List.takeWhile digB s))))))) (mapP m)))], [])))))))))))))))))))))) : Gets T_item 2 (endO' 2 rs_item G) ic_item [] (st0O 104 [.ptr 0 0, .pv (.int .i64 g)] [.box [.pv (.str s), .pv (.int .i64 n), .map 1], .map (mapP m)]) := Gets.to (.lit (.ask (.nil) (.req (.req (.abs (Bool) (fun YY => AV.pv (enc YY)) (.ask (.req (.keep (.req (.keep (.lit (.req (.nil))))))) (.req (.keep (.ask (.nil) (.lit (.abs (Str) (fun YY => AV.pv (enc YY)) (.lit (.abs (Bool) (fun YY => AV.pv (enc YY)) (.ask (.req (.req (.keep (.req (.keep (.req (.keep (.lit (.lit (.req (.nil))))))))))) (.lit (.ask (.lit (.lit (.lit (.lit (.lit (.lit (.lit (.lit (.lit (.lit (.nil))))))))))) (.lit (.lit (.lit (.lit (.req (.lit (.req (.abs (Bool) (fun YY => AV.pv (enc YY)) (.lit (.lit (.ask (.lit (.lit (.nil))) (.req (.keep (.req (.keep (.lit (.lit (.req (.nil))))))))))))))))))))))))))))))))))) h (by kernel_rfl)
end Go.Pl

namespace Go.Pl
open Go.RowKit
open Enc (enc dec is)
open EncL (encL decL isL)
set_option maxRecDepth 100000
def ic_letter : IC := (.seq (.reg [⟨(some 2), (.mv (.c (.bool false))), 0, none⟩] none) (.seq (.reg [⟨(some 3), (.mv (.t 0)), 0, none⟩, ⟨(some 4), (.bin .num .geq (.t 3) (.c (.int .u8 97))), 0, none⟩, ⟨(some 5), (.mv (.t 4)), 0, none⟩, ⟨(some 6), (.mv (.t 0)), 0, (some (5, true))⟩, ⟨(some 7), (.bin .num .leq (.t 6) (.c (.int .u8 122))), 0, (some (5, true))⟩, ⟨(some 8), (.pick (.t 5) (.t 7) (.c (.bool false))), 0, none⟩, ⟨(some 9), (.mv (.t 8)), 0, none⟩, ⟨(some 10), (.mv (.t 0)), 0, (some (9, false))⟩, ⟨(some 11), (.bin .num .eql (.t 10) (.c (.int .u8 95))), 0, (some (9, false))⟩, ⟨(some 12), (.pick (.t 9) (.c (.bool true)) (.t 11)), 0, none⟩, ⟨(some 13), (.mv (.t 12)), 0, none⟩, ⟨(some 14), (.mv (.t 0)), 0, (some (13, false))⟩, ⟨(some 15), (.call (.c (.fn 129)) [(.t 14)]), 0, (some (13, false))⟩, ⟨(some 16), (.pick (.t 13) (.c (.bool true)) (.t 15)), 2, none⟩, ⟨(some 2), (.mv (.t 16)), 2, none⟩] none) .ret))
def rs_letter : List IRes := [(.tmp 2)]
abbrev nt_letter : Nat := 17
def T_letter : Tab := tab [(129, .pure (preT (fun _ : UInt8 × Unit => true)) (valT (fun x : UInt8 × Unit => digB x.1)))]
theorem letter_s {G : PV → Prop} (c : UInt8) (h : if (decide ((↑(UInt8.toNat c) : Int) ≥ 97)) = true then if (decide ((↑(UInt8.toNat c) : Int) ≤ 122)) = true then G ((.bool true)) else (if ((↑(UInt8.toNat c) : Int) == 95) = true then G ((.bool true)) else ((Go.Pl.preT (fun (x : UInt8 × Unit) => true) [(.int IntKind.u8 (↑(UInt8.toNat c) : Int))]) = true ∧ (∃ y0 : Bool, AV.pv (valT (fun (x : UInt8 × Unit) => digB x.1) [(.int IntKind.u8 (↑(UInt8.toNat c) : Int))]) = AV.pv (enc y0) ∧ (G ((.bool y0)))))) else (if ((↑(UInt8.toNat c) : Int) == 95) = true then G ((.bool true)) else ((Go.Pl.preT (fun (x : UInt8 × Unit) => true) [(.int IntKind.u8 (↑(UInt8.toNat c) : Int))]) = true ∧ (∃ y1 : Bool, AV.pv (valT (fun (x : UInt8 × Unit) => digB x.1) [(.int IntKind.u8 (↑(UInt8.toNat c) : Int))]) = AV.pv (enc y1) ∧ (G ((.bool y1))))))) : Gets T_letter 0 (endP' rs_letter G) ic_letter [] (st0 17 [enc c]) := Gets.tp (.lit (.ask (.lit (.lit (.lit (.ask (.lit (.lit (.lit (.lit (.lit (.nil)))))) (.lit (.lit (.lit (.ask (.lit (.lit (.nil))) (.lit (.req (.abs (Bool) (fun YY => AV.pv (enc YY)) (.lit (.nil))))))))))))) (.lit (.lit (.lit (.lit (.lit (.lit (.ask (.lit (.lit (.nil))) (.lit (.req (.abs (Bool) (fun YY => AV.pv (enc YY)) (.lit (.nil)))))))))))))) h (by kernel_rfl)
def ic_spaces : IC := (.reg [⟨(some 2), (.mv (.t 0)), 0, none⟩, ⟨(some 3), (.mv (.t 0)), 0, none⟩, ⟨(some 4), (.nilchk (.t 3)), 0, none⟩, ⟨(some 5), (.faddr 0 (.t 4)), 0, none⟩, ⟨(some 6), (.load false [.str] (.t 5)), 0, none⟩, ⟨(some 7), (.call (.c (.fn 132)) [(.t 6), (.c (.str [32]))]), 0, none⟩, ⟨(some 8), (.nilchk (.t 2)), 2, none⟩, ⟨(some 9), (.faddr 0 (.t 8)), 2, none⟩, ⟨none, (.store 1 (.t 9) (.t 7)), 2, none⟩] none)
def rs_spaces : List IRes := []
abbrev nt_spaces : Nat := 10
def T_spaces : Tab := tab [(132, .pure (preT (fun x : Str × Str × Unit => decide (x.2.1 = ⟨[32]⟩))) (valT (fun x : Str × Str × Unit => (⟨blanksS x.1.s⟩ : Str))))]
theorem spaces_s {G : AV × List AObj × List AObj → Prop} (s : List UInt8) (n : Int) (es : List (PV × PV)) (h : ∃ y0 : Str, AV.pv (valT (fun (x : Str × Str × Unit) => Str.mk (blanksS (Str.s x.1))) [(.str s), (.str [(32 : UInt8)])]) = AV.pv (enc y0) ∧ (G (((.tup []), ([(.box [(.pv (.str (Str.s y0))), (.pv (.int .i64 n)), (.map 1)]), (.map es)], []))))) : Gets T_spaces 2 (endO' 2 rs_spaces G) ic_spaces [] (st0O 10 [.ptr 0 0] [.box [.pv (.str s), .pv (.int .i64 n), .map 1], .map es]) := Gets.to (.lit (.abs (Str) (fun YY => AV.pv (enc YY)) (.nil))) h (by kernel_rfl)
def ic_taked : IC := (.seq (.reg [⟨(some 4), (.mv (.c (.str []))), 0, none⟩] none) (.seq (.reg [⟨(some 5), (.mv (.c (.int .i64 0))), 0, none⟩] none) (.seq (.block 0 (.loop [5, 0, 1] (.seq (.seq (.reg [⟨(some 7), (.mv (.t 5)), 0, none⟩, ⟨(some 8), (.mv (.t 0)), 0, none⟩, ⟨(some 9), (.nilchk (.t 8)), 0, none⟩, ⟨(some 10), (.faddr 0 (.t 9)), 0, none⟩, ⟨(some 11), (.load false [.str] (.t 10)), 0, none⟩, ⟨(some 12), (.len 0 (.t 11)), 0, none⟩, ⟨(some 13), (.bin .num .lss (.t 7) (.t 12)), 0, none⟩, ⟨(some 14), (.mv (.t 13)), 0, none⟩, ⟨(some 15), (.mv (.t 1)), 0, (some (14, true))⟩, ⟨(some 16), (.mv (.t 0)), 0, (some (14, true))⟩, ⟨(some 17), (.nilchk (.t 16)), 0, (some (14, true))⟩, ⟨(some 18), (.faddr 0 (.t 17)), 0, (some (14, true))⟩, ⟨(some 19), (.load false [.str] (.t 18)), 0, (some (14, true))⟩, ⟨(some 20), (.mv (.t 5)), 0, (some (14, true))⟩, ⟨(some 21), (.index (.t 19) (.t 20)), 0, (some (14, true))⟩, ⟨(some 22), (.call (.t 15) [(.t 21)]), 0, (some (14, true))⟩, ⟨(some 23), (.pick (.t 14) (.t 22) (.c (.bool false))), 2, none⟩] none) (.cond (.t 23) .skip (.exit 0))) (.block 1 (.reg [⟨(some 24), (.mv (.t 5)), 0, none⟩, ⟨(some 25), (.bin .num .add (.t 24) (.c (.int .i64 1))), 0, none⟩, ⟨(some 5), (.mv (.t 25)), 0, none⟩] none))))) (.seq (.reg [⟨(some 26), (.mv (.t 0)), 0, none⟩, ⟨(some 27), (.nilchk (.t 26)), 0, none⟩, ⟨(some 28), (.faddr 0 (.t 27)), 0, none⟩, ⟨(some 29), (.load false [.str] (.t 28)), 0, none⟩, ⟨(some 30), (.mv (.t 5)), 0, none⟩, ⟨(some 31), (.strslc (.t 29) none (some (.t 30))), 0, none⟩, ⟨(some 6), (.mv (.t 31)), 0, none⟩] none) (.seq (.reg [⟨(some 32), (.mv (.t 0)), 0, none⟩, ⟨(some 33), (.mv (.t 0)), 0, none⟩, ⟨(some 34), (.nilchk (.t 33)), 0, none⟩, ⟨(some 35), (.faddr 0 (.t 34)), 0, none⟩, ⟨(some 36), (.load false [.str] (.t 35)), 0, none⟩, ⟨(some 37), (.mv (.t 5)), 0, none⟩, ⟨(some 38), (.strslc (.t 36) (some (.t 37)) none), 0, none⟩, ⟨(some 39), (.nilchk (.t 32)), 0, none⟩, ⟨(some 40), (.faddr 0 (.t 39)), 0, none⟩, ⟨none, (.store 1 (.t 40) (.t 38)), 0, none⟩] none) (.seq (.reg [⟨(some 41), (.mv (.t 6)), 0, none⟩, ⟨(some 4), (.mv (.t 41)), 0, none⟩] none) .ret))))))
def rs_taked : List IRes := [(.tmp 4)]
abbrev nt_taked : Nat := 42
def T_taked : Tab := tab [(129, .pure (preT (fun _ : UInt8 × Unit => true)) (valT (fun x : UInt8 × Unit => digB x.1)))]
theorem taked_s {G : AV × List AObj × List AObj → Prop} (s : List UInt8) (n : Int) (es : List (PV × PV)) (h : At T_taked 2 (endO' 2 rs_taked G) ic_taked 0 42 [(0, (.ptr 0 0)), (1, (.pv (.fn 129))), (5, (.pv (.int .i64 0)))] [(.obj (.box [(.pv (.str s)), (.pv (.int .i64 n)), (.map 1)])), (.obj (.map es))]) : Gets T_taked 2 (endO' 2 rs_taked G) ic_taked [] (st0O 42 [.ptr 0 0, .pv (.fn 129)] [.box [.pv (.str s), .pv (.int .i64 n), .map 1], .map es]) := Gets.to (.nil) h (by kernel_rfl)
theorem taked_h0 {G : AV × List AObj × List AObj → Prop} (s : List UInt8) (n : Int) (es : List (PV × PV)) (i : Int) (h : if (decide (i < (↑(List.length s) : Int))) = true then (decide (0 ≤ i) && decide (Int.toNat i < List.length s)) = true ∧ ((Go.Pl.preT (fun (x : UInt8 × Unit) => true) [(.int IntKind.u8 (↑(UInt8.toNat (List.getD s (Int.toNat i) (0 : UInt8))) : Int))]) = true ∧ (∃ y0 : Bool, AV.pv (valT (fun (x : UInt8 × Unit) => digB x.1) [(.int IntKind.u8 (↑(UInt8.toNat (List.getD s (Int.toNat i) (0 : UInt8))) : Int))]) = AV.pv (enc y0) ∧ (if (y0) = true then At T_taked 2 (endO' 2 rs_taked G) ic_taked 0 42 [(0, (.ptr 0 0)), (1, (.pv (.fn 129))), (5, (.pv (.int .i64 (IntKind.wrap IntKind.i64 (i + 1)))))] [(.obj (.box [(.pv (.str s)), (.pv (.int .i64 n)), (.map 1)])), (.obj (.map es))] else ((true && decide (0 ≤ i) && decide (0 ≤ Int.toNat i) && decide (Int.toNat i ≤ List.length s)) = true ∧ ((decide (0 ≤ i) && true && decide (Int.toNat i ≤ List.length s) && decide (List.length s ≤ List.length s)) = true ∧ (G (((.pv (.str (List.drop 0 (List.take (Int.toNat i) s)))), ([(.box [(.pv (.str (List.drop (Int.toNat i) (List.take (List.length s) s)))), (.pv (.int .i64 n)), (.map 1)]), (.map es)], []))))))))) else ((true && decide (0 ≤ i) && decide (0 ≤ Int.toNat i) && decide (Int.toNat i ≤ List.length s)) = true ∧ ((decide (0 ≤ i) && true && decide (Int.toNat i ≤ List.length s) && decide (List.length s ≤ List.length s)) = true ∧ (G (((.pv (.str (List.drop 0 (List.take (Int.toNat i) s)))), ([(.box [(.pv (.str (List.drop (Int.toNat i) (List.take (List.length s) s)))), (.pv (.int .i64 n)), (.map 1)]), (.map es)], []))))))) : At T_taked 2 (endO' 2 rs_taked G) ic_taked 0 42 [(0, .ptr 0 0), (1, .pv (.fn 129)), (5, .pv (.int .i64 i))] [.obj (.box [.pv (.str s), .pv (.int .i64 n), .map 1]), .obj (.map es)] := At.to (.lit (.ask (.lit (.lit (.lit (.lit (.lit (.lit (.req (.lit (.req (.abs (Bool) (fun YY => AV.pv (enc YY)) (.lit (.ask (.lit (.nil)) (.req (.req (.nil))))))))))))))) (.lit (.lit (.lit (.lit (.lit (.lit (.lit (.lit (.lit (.req (.req (.nil)))))))))))))) h (by kernel_rfl)
def ic_takel : IC := ic_taked
def rs_takel : List IRes := [(.tmp 4)]
abbrev nt_takel : Nat := 42
def T_takel : Tab := tab [(134, .pure (preT (fun _ : UInt8 × Unit => true)) (valT (fun x : UInt8 × Unit => letB x.1)))]
theorem takel_s {G : AV × List AObj × List AObj → Prop} (s : List UInt8) (n : Int) (es : List (PV × PV)) (h : At T_takel 2 (endO' 2 rs_takel G) ic_takel 0 42 [(0, (.ptr 0 0)), (1, (.pv (.fn 134))), (5, (.pv (.int .i64 0)))] [(.obj (.box [(.pv (.str s)), (.pv (.int .i64 n)), (.map 1)])), (.obj (.map es))]) : Gets T_takel 2 (endO' 2 rs_takel G) ic_takel [] (st0O 42 [.ptr 0 0, .pv (.fn 134)] [.box [.pv (.str s), .pv (.int .i64 n), .map 1], .map es]) := Gets.to (.nil) h (by kernel_rfl)
theorem takel_h0 {G : AV × List AObj × List AObj → Prop} (s : List UInt8) (n : Int) (es : List (PV × PV)) (i : Int) (h : if (decide (i < (↑(List.length s) : Int))) = true then (decide (0 ≤ i) && decide (Int.toNat i < List.length s)) = true ∧ ((Go.Pl.preT (fun (x : UInt8 × Unit) => true) [(.int IntKind.u8 (↑(UInt8.toNat (List.getD s (Int.toNat i) (0 : UInt8))) : Int))]) = true ∧ (∃ y0 : Bool, AV.pv (valT (fun (x : UInt8 × Unit) => letB x.1) [(.int IntKind.u8 (↑(UInt8.toNat (List.getD s (Int.toNat i) (0 : UInt8))) : Int))]) = AV.pv (enc y0) ∧ (if (y0) = true then At T_takel 2 (endO' 2 rs_takel G) ic_takel 0 42 [(0, (.ptr 0 0)), (1, (.pv (.fn 134))), (5, (.pv (.int .i64 (IntKind.wrap IntKind.i64 (i + 1)))))] [(.obj (.box [(.pv (.str s)), (.pv (.int .i64 n)), (.map 1)])), (.obj (.map es))] else ((true && decide (0 ≤ i) && decide (0 ≤ Int.toNat i) && decide (Int.toNat i ≤ List.length s)) = true ∧ ((decide (0 ≤ i) && true && decide (Int.toNat i ≤ List.length s) && decide (List.length s ≤ List.length s)) = true ∧ (G (((.pv (.str (List.drop 0 (List.take (Int.toNat i) s)))), ([(.box [(.pv (.str (List.drop (Int.toNat i) (List.take (List.length s) s)))), (.pv (.int .i64 n)), (.map 1)]), (.map es)], []))))))))) else ((true && decide (0 ≤ i) && decide (0 ≤ Int.toNat i) && decide (Int.toNat i ≤ List.length s)) = true ∧ ((decide (0 ≤ i) && true && decide (Int.toNat i ≤ List.length s) && decide (List.length s ≤ List.length s)) = true ∧ (G (((.pv (.str (List.drop 0 (List.take (Int.toNat i) s)))), ([(.box [(.pv (.str (List.drop (Int.toNat i) (List.take (List.length s) s)))), (.pv (.int .i64 n)), (.map 1)]), (.map es)], []))))))) : At T_takel 2 (endO' 2 rs_takel G) ic_takel 0 42 [(0, .ptr 0 0), (1, .pv (.fn 134)), (5, .pv (.int .i64 i))] [.obj (.box [.pv (.str s), .pv (.int .i64 n), .map 1]), .obj (.map es)] := At.to (.lit (.ask (.lit (.lit (.lit (.lit (.lit (.lit (.req (.lit (.req (.abs (Bool) (fun YY => AV.pv (enc YY)) (.lit (.ask (.lit (.nil)) (.req (.req (.nil))))))))))))))) (.lit (.lit (.lit (.lit (.lit (.lit (.lit (.lit (.lit (.req (.req (.nil)))))))))))))) h (by kernel_rfl)
def ic_number : IC := (.seq (.reg [⟨(some 2), (.mv (.c (.int .i64 0))), 0, none⟩, ⟨(some 3), (.mv (.c (.bool false))), 0, none⟩] none) (.seq (.reg [⟨(some 7), (.mv (.t 0)), 0, none⟩, ⟨(some 8), (.call (.c (.fn 166)) [(.t 7), (.c (.fn 129))]), 0, none⟩, ⟨(some 4), (.mv (.t 8)), 2, none⟩] none) (.seq (.reg [⟨(some 10), (.mv (.t 4)), 0, none⟩, ⟨(some 11), (.call (.c (.fn 151)) [(.t 10)]), 0, none⟩, ⟨(some 9), (.mv (.t 11)), 2, none⟩, ⟨(some 12), (.extract (.t 9) 0), 2, none⟩, ⟨(some 13), (.extract (.t 9) 1), 2, none⟩, ⟨(some 5), (.mv (.t 12)), 2, none⟩, ⟨(some 6), (.mv (.t 13)), 2, none⟩] none) (.seq (.reg [⟨(some 14), (.mv (.t 5)), 0, none⟩, ⟨(some 15), (.mv (.t 6)), 0, none⟩, ⟨(some 16), (.bin .ifc .eql (.t 15) (.c .nili)), 0, none⟩, ⟨(some 17), (.mv (.t 16)), 0, none⟩, ⟨(some 18), (.mv (.t 4)), 0, (some (17, true))⟩, ⟨(some 19), (.len 0 (.t 18)), 0, (some (17, true))⟩, ⟨(some 20), (.bin .num .leq (.t 19) (.c (.int .i64 7))), 0, (some (17, true))⟩, ⟨(some 21), (.pick (.t 17) (.t 20) (.c (.bool false))), 0, none⟩, ⟨(some 22), (.mv (.t 21)), 0, none⟩, ⟨(some 23), (.mv (.t 4)), 0, (some (22, true))⟩, ⟨(some 24), (.index (.t 23) (.c (.int .i64 0))), 0, (some (22, true))⟩, ⟨(some 25), (.bin .num .neq (.t 24) (.c (.int .u8 48))), 0, (some (22, true))⟩, ⟨(some 26), (.mv (.t 25)), 0, (some (22, true))⟩, ⟨(some 27), (.mv (.t 4)), 0, (some (26, false))⟩, ⟨(some 28), (.bin .num .eql (.t 27) (.c (.str [48]))), 0, (some (26, false))⟩, ⟨(some 29), (.pick (.t 26) (.c (.bool true)) (.t 28)), 0, (some (22, true))⟩, ⟨(some 30), (.pick (.t 22) (.t 29) (.c (.bool false))), 0, none⟩, ⟨(some 2), (.mv (.t 14)), 0, none⟩, ⟨(some 3), (.mv (.t 30)), 0, none⟩] none) .ret))))
def rs_number : List IRes := [(.tmp 2), (.tmp 3)]
abbrev nt_number : Nat := 31
def T_number : Tab := tab [(166, .own (pre_take 129) (takeW digB)), (151, .pure (preT (fun x : Str × Unit => decide (x.1.s.length ≤ 1000000))) (valT (fun x : Str × Unit => atoiE x.1)))]
theorem number_s {G : AV × List AObj × List AObj → Prop} (s : List UInt8) (n : Int) (es : List (PV × PV)) (h : (pre_take 129 [(.ptr 0 0), (.pv (.fn 129))] [(.box [(.pv (.str s)), (.pv (.int .i64 n)), (.map 1)]), (.map es)]) = true ∧ ((Go.Pl.preT (fun (x : Str × Unit) => decide (List.length (Str.s x.1) ≤ 1000000)) [(.str (List.takeWhile digB s))]) = true ∧ (∃ y0 : Int × Er, AV.pv (valT (fun (x : Str × Unit) => atoiE x.1) [(.str (List.takeWhile digB s))]) = AV.pv (enc y0) ∧ ((isIfP (enc y0.2) && Prod.fst (true, PV.bool (isNilI (enc y0.2)))) = true ∧ (if (isNilI (enc y0.2)) = true then if (decide ((↑(List.length (List.takeWhile digB s)) : Int) ≤ 7)) = true then (decide (0 ≤ 0) && decide (Int.toNat 0 < List.length (List.takeWhile digB s))) = true ∧ (if ((↑(UInt8.toNat (List.getD (List.takeWhile digB s) (Int.toNat 0) (0 : UInt8))) : Int) != 48) = true then G (((.tup [(.pv (.int .i64 y0.1)), (.pv (.bool true))]), ([(.box [(.pv (.str (List.dropWhile digB s))), (.pv (.int .i64 n)), (.map 1)]), (.map es)], []))) else (G (((.tup [(.pv (.int .i64 y0.1)), (.pv (.bool (List.takeWhile digB s == [(48 : UInt8)])))]), ([(.box [(.pv (.str (List.dropWhile digB s))), (.pv (.int .i64 n)), (.map 1)]), (.map es)], []))))) else (G (((.tup [(.pv (.int .i64 y0.1)), (.pv (.bool false))]), ([(.box [(.pv (.str (List.dropWhile digB s))), (.pv (.int .i64 n)), (.map 1)]), (.map es)], [])))) else (G (((.tup [(.pv (.int .i64 y0.1)), (.pv (.bool false))]), ([(.box [(.pv (.str (List.dropWhile digB s))), (.pv (.int .i64 n)), (.map 1)]), (.map es)], []))))))))) : Gets T_number 2 (endO' 2 rs_number G) ic_number [] (st0O 31 [.ptr 0 0] [.box [.pv (.str s), .pv (.int .i64 n), .map 1], .map es]) := Gets.to (.req (.keep (.req (.abs (Int × Er) (fun YY => AV.pv (enc YY)) (.req (.ask (.lit (.lit (.lit (.lit (.ask (.lit (.req (.lit (.lit (.lit (.ask (.lit (.lit (.lit (.lit (.nil))))) (.lit (.lit (.lit (.lit (.lit (.nil)))))))))))) (.lit (.lit (.lit (.lit (.lit (.nil))))))))))) (.lit (.lit (.lit (.lit (.lit (.lit (.lit (.lit (.lit (.nil)))))))))))))))) h (by kernel_rfl)
def ic_variable : IC := (.seq (.reg [⟨(some 2), (.mv (.c (.str []))), 0, none⟩, ⟨(some 3), (.mv (.c (.bool false))), 0, none⟩] none) (.seq (.reg [⟨(some 5), (.mv (.t 0)), 0, none⟩, ⟨(some 6), (.call (.c (.fn 166)) [(.t 5), (.c (.fn 134))]), 0, none⟩, ⟨(some 4), (.mv (.t 6)), 2, none⟩] none) (.seq (.reg [⟨(some 7), (.mv (.t 4)), 0, none⟩, ⟨(some 8), (.mv (.t 4)), 0, none⟩, ⟨(some 9), (.call (.c (.fn 116)) [(.t 8)]), 0, none⟩, ⟨(some 2), (.mv (.t 7)), 2, none⟩, ⟨(some 3), (.mv (.t 9)), 2, none⟩] none) .ret)))
def rs_variable : List IRes := [(.tmp 2), (.tmp 3)]
abbrev nt_variable : Nat := 10
def T_variable : Tab := tab [(166, .own (pre_take 134) (takeW letB)), (116, .pure (preT (fun x : Str × Unit => decide (x.1.s.length ≤ 1000000))) (valT (fun x : Str × Unit => nameB x.1)))]
theorem variable_s {G : AV × List AObj × List AObj → Prop} (s : List UInt8) (n : Int) (es : List (PV × PV)) (h : (pre_take 134 [(.ptr 0 0), (.pv (.fn 134))] [(.box [(.pv (.str s)), (.pv (.int .i64 n)), (.map 1)]), (.map es)]) = true ∧ ((Go.Pl.preT (fun (x : Str × Unit) => decide (List.length (Str.s x.1) ≤ 1000000)) [(.str (List.takeWhile letB s))]) = true ∧ (∃ y0 : Bool, AV.pv (valT (fun (x : Str × Unit) => nameB x.1) [(.str (List.takeWhile letB s))]) = AV.pv (enc y0) ∧ (G (((.tup [(.pv (.str (List.takeWhile letB s))), (.pv (.bool y0))]), ([(.box [(.pv (.str (List.dropWhile letB s))), (.pv (.int .i64 n)), (.map 1)]), (.map es)], []))))))) : Gets T_variable 2 (endO' 2 rs_variable G) ic_variable [] (st0O 10 [.ptr 0 0] [.box [.pv (.str s), .pv (.int .i64 n), .map 1], .map es]) := Gets.to (.req (.keep (.req (.abs (Bool) (fun YY => AV.pv (enc YY)) (.nil))))) h (by kernel_rfl)
def ic_sign : IC := (.seq (.reg [⟨(some 2), (.mv (.c (.int .i64 0))), 0, none⟩, ⟨(some 3), (.mv (.c (.bool false))), 0, none⟩] none) (.seq (.seq (.reg [⟨(some 6), (.build [(.str []), (.str [])] [(0, (1, (.c (.str [43])))), (1, (1, (.c (.str [45]))))]), 0, none⟩, ⟨(some 7), (.mv (.c (.int .i64 0))), 0, none⟩] none) (.block 0 (.loop [7, 6, 0] (.seq (.reg [⟨(some 8), (.bin .num .lss (.t 7) (.c (.int .i64 2))), 0, none⟩] none) (.seq (.cond (.t 8) .skip (.exit 0)) (.seq (.block 1 (.seq (.reg [⟨(some 9), (.mv (.t 7)), 0, none⟩, ⟨(some 10), (.indexA 2 1 (.t 6) (.t 7)), 0, none⟩, ⟨(some 4), (.mv (.t 9)), 0, none⟩, ⟨(some 5), (.mv (.t 10)), 0, none⟩] none) (.seq (.reg [⟨(some 11), (.mv (.t 0)), 0, none⟩, ⟨(some 12), (.nilchk (.t 11)), 0, none⟩, ⟨(some 13), (.faddr 0 (.t 12)), 0, none⟩, ⟨(some 14), (.load false [.str] (.t 13)), 0, none⟩, ⟨(some 15), (.mv (.t 5)), 0, none⟩, ⟨(some 16), (.call (.c (.fn 133)) [(.t 14), (.t 15)]), 0, none⟩] none) (.cond (.t 16) (.seq (.reg [⟨(some 17), (.mv (.t 0)), 0, none⟩, ⟨(some 18), (.mv (.t 0)), 0, none⟩, ⟨(some 19), (.nilchk (.t 18)), 0, none⟩, ⟨(some 20), (.faddr 0 (.t 19)), 0, none⟩, ⟨(some 21), (.load false [.str] (.t 20)), 0, none⟩, ⟨(some 22), (.strslc (.t 21) (some (.c (.int .i64 1))) none), 0, none⟩, ⟨(some 23), (.nilchk (.t 17)), 0, none⟩, ⟨(some 24), (.faddr 0 (.t 23)), 0, none⟩, ⟨none, (.store 1 (.t 24) (.t 22)), 0, none⟩] none) (.seq (.reg [⟨(some 25), (.mv (.t 4)), 0, none⟩, ⟨(some 26), (.bin .num .mul (.c (.int .i64 2)) (.t 25)), 0, none⟩, ⟨(some 27), (.bin .num .sub (.c (.int .i64 1)) (.t 26)), 0, none⟩, ⟨(some 2), (.mv (.t 27)), 0, none⟩, ⟨(some 3), (.mv (.c (.bool true))), 0, none⟩] none) .ret)) .skip)))) (.reg [⟨(some 28), (.bin .num .add (.t 7) (.c (.int .i64 1))), 0, none⟩, ⟨(some 7), (.mv (.t 28)), 0, none⟩] none))))))) (.seq (.reg [⟨(some 2), (.mv (.c (.int .i64 1))), 0, none⟩, ⟨(some 3), (.mv (.c (.bool false))), 0, none⟩] none) .ret)))
def rs_sign : List IRes := [(.tmp 2), (.tmp 3)]
abbrev nt_sign : Nat := 29
def T_sign : Tab := tab [(133, .pure (preT (fun _ : Str × Str × Unit => true)) (valT (fun x : Str × Str × Unit => x.2.1.s.isPrefixOf x.1.s)))]
theorem sign_s {G : AV × List AObj × List AObj → Prop} (s : List UInt8) (n : Int) (es : List (PV × PV)) (h : At T_sign 2 (endO' 2 rs_sign G) ic_sign 0 29 [(0, (.ptr 0 0)), (6, (.pv (.agg [(.str [(43 : UInt8)]), (.str [(45 : UInt8)])]))), (7, (.pv (.int .i64 0)))] [(.obj (.box [(.pv (.str s)), (.pv (.int .i64 n)), (.map 1)])), (.obj (.map es))]) : Gets T_sign 2 (endO' 2 rs_sign G) ic_sign [] (st0O 29 [.ptr 0 0] [.box [.pv (.str s), .pv (.int .i64 n), .map 1], .map es]) := Gets.to (.nil) h (by kernel_rfl)
theorem sign_h0a {G : AV × List AObj × List AObj → Prop} (s : List UInt8) (n : Int) (es : List (PV × PV))  (h : ∃ y0 : Bool, AV.pv (valT (fun (x : Str × Str × Unit) => List.isPrefixOf (Str.s x.2.1) (Str.s x.1)) [(.str s), (.str [(43 : UInt8)])]) = AV.pv (enc y0) ∧ (if (y0) = true then (decide (0 ≤ 1) && true && decide (Int.toNat 1 ≤ List.length s) && decide (List.length s ≤ List.length s)) = true ∧ (G (((.tup [(.pv (.int .i64 1)), (.pv (.bool true))]), ([(.box [(.pv (.str (List.drop (Int.toNat 1) (List.take (List.length s) s)))), (.pv (.int .i64 n)), (.map 1)]), (.map es)], [])))) else (At T_sign 2 (endO' 2 rs_sign G) ic_sign 0 29 [(0, (.ptr 0 0)), (6, (.pv (.agg [(.str [(43 : UInt8)]), (.str [(45 : UInt8)])]))), (7, (.pv (.int .i64 1)))] [(.obj (.box [(.pv (.str s)), (.pv (.int .i64 n)), (.map 1)])), (.obj (.map es))]))) : At T_sign 2 (endO' 2 rs_sign G) ic_sign 0 29 [(0, .ptr 0 0), (6, .pv (.agg [(.str [(43 : UInt8)]), (.str [(45 : UInt8)])])), (7, .pv (.int .i64 0))] [.obj (.box [.pv (.str s), .pv (.int .i64 n), .map 1]), .obj (.map es)] := At.to (.lit (.lit (.lit (.lit (.abs (Bool) (fun YY => AV.pv (enc YY)) (.ask (.req (.lit (.lit (.nil)))) (.lit (.nil)))))))) h (by kernel_rfl)
theorem sign_h0b {G : AV × List AObj × List AObj → Prop} (s : List UInt8) (n : Int) (es : List (PV × PV))  (h : ∃ y0 : Bool, AV.pv (valT (fun (x : Str × Str × Unit) => List.isPrefixOf (Str.s x.2.1) (Str.s x.1)) [(.str s), (.str [(45 : UInt8)])]) = AV.pv (enc y0) ∧ (if (y0) = true then (decide (0 ≤ 1) && true && decide (Int.toNat 1 ≤ List.length s) && decide (List.length s ≤ List.length s)) = true ∧ (G (((.tup [(.pv (.int .i64 (-1))), (.pv (.bool true))]), ([(.box [(.pv (.str (List.drop (Int.toNat 1) (List.take (List.length s) s)))), (.pv (.int .i64 n)), (.map 1)]), (.map es)], [])))) else (At T_sign 2 (endO' 2 rs_sign G) ic_sign 0 29 [(0, (.ptr 0 0)), (6, (.pv (.agg [(.str [(43 : UInt8)]), (.str [(45 : UInt8)])]))), (7, (.pv (.int .i64 2)))] [(.obj (.box [(.pv (.str s)), (.pv (.int .i64 n)), (.map 1)])), (.obj (.map es))]))) : At T_sign 2 (endO' 2 rs_sign G) ic_sign 0 29 [(0, .ptr 0 0), (6, .pv (.agg [(.str [(43 : UInt8)]), (.str [(45 : UInt8)])])), (7, .pv (.int .i64 1))] [.obj (.box [.pv (.str s), .pv (.int .i64 n), .map 1]), .obj (.map es)] := At.to (.lit (.lit (.lit (.lit (.abs (Bool) (fun YY => AV.pv (enc YY)) (.ask (.req (.lit (.lit (.nil)))) (.lit (.nil)))))))) h (by kernel_rfl)
theorem sign_h0c {G : AV × List AObj × List AObj → Prop} (s : List UInt8) (n : Int) (es : List (PV × PV))  (h : G (((.tup [(.pv (.int .i64 1)), (.pv (.bool false))]), ([(.box [(.pv (.str s)), (.pv (.int .i64 n)), (.map 1)]), (.map es)], [])))) : At T_sign 2 (endO' 2 rs_sign G) ic_sign 0 29 [(0, .ptr 0 0), (6, .pv (.agg [(.str [(43 : UInt8)]), (.str [(45 : UInt8)])])), (7, .pv (.int .i64 2))] [.obj (.box [.pv (.str s), .pv (.int .i64 n), .map 1]), .obj (.map es)] := At.to (.lit (.lit (.nil))) h (by kernel_rfl)
end Go.Pl

namespace Go.Pl
open Go.RowKit
open Enc (enc dec is)
open EncL (encL decL isL)
theorem u8_eq (c : UInt8) (k : Nat) (hk : k < 256) : (((c.toNat : Int)) == (k : Int)) = (c == UInt8.ofNat k) := by
  rw [Bool.eq_iff_iff, beq_iff_eq, beq_iff_eq]
  constructor
  · intro h
    have h : c.toNat = k := by omega
    rw [← h, UInt8.ofNat_toNat]
  · intro h
    rw [h, UInt8.toNat_ofNat_of_lt' (by show k < 2 ^ 8; omega)]
theorem letter_run : ∀ a : UInt8 × Unit, true = true → Gets T_letter 0 (endP' rs_letter (Fits (letB a.1))) ic_letter [] (st0 nt_letter (encL a)) := by
  rintro ⟨c, ⟨⟩⟩ -
  have e95 : (((c.toNat : Int)) == 95) = (c == 95) := u8_eq c 95 (by omega)
  have el := low_eq c
  refine letter_s c ?_
  show if decide ((c.toNat : Int) ≥ 97) = true then (if decide ((c.toNat : Int) ≤ 122) = true then Fits (letB c) (.bool true) else if ((c.toNat : Int) == 95) = true then Fits (letB c) (.bool true) else _) else if ((c.toNat : Int) == 95) = true then Fits (letB c) (.bool true) else _
  rw [e95]
  have rest : lowB c = false → (if (c == 95) = true then Fits (letB c) (.bool true) else preT (fun _ : UInt8 × Unit => true) [enc c] = true ∧ ∃ y0 : Bool, AV.pv (valT (fun x : UInt8 × Unit => digB x.1) [enc c]) = AV.pv (enc y0) ∧ Fits (letB c) (.bool y0)) := by
    intro hl
    refine iteB (fun h => fitB ?_) fun h => ⟨pre_enc (c, ()) rfl rfl, ex_enc (c, ()) rfl (fitB ?_)⟩
    · unfold letB; rw [h]; simp
    · unfold letB; rw [hl, h]; rfl
  refine iteD (fun h1 => iteD (fun h2 => fitB ?_) fun h2 => rest ?_) fun h1 => rest ?_
  · have : lowB c = true := by rw [el]; simp [h1, h2]
    unfold letB; rw [this]; rfl
  · rw [el]; simp [h2]
  · rw [el]; simp [h1]
theorem spaces_run : ∀ args os, pre_rd0 args os = true → Gets T_spaces os.length (endO' os.length rs_spaces fun r => r = val_spaces args os) ic_spaces [] (st0O nt_spaces args os) := by
  intro args os h
  unfold pre_rd0 at h
  split at h
  · rename_i s n es
    exact spaces_s s n es (ex_enc ((⟨s⟩ : Str), (⟨[32]⟩ : Str), ()) rfl rfl)
  · cases h
theorem take_at (p : UInt8 → Bool) : ∀ (s : List UInt8) (i : Nat), i ≤ s.length → (∀ j (h : j < s.length), j < i → p s[j] = true) → (∀ h : i < s.length, p s[i] = false) → s.takeWhile p = s.take i ∧ s.dropWhile p = s.drop i
  | [], i, hi, h1, h2 => by
    have : i = 0 := by simpa using hi
    subst this
    exact ⟨rfl, rfl⟩
  | c :: s, 0, hi, h1, h2 => by
    have := h2 (by simp)
    simp only [List.getElem_cons_zero] at this
    simp [List.takeWhile_cons, List.dropWhile_cons, this]
  | c :: s, i + 1, hi, h1, h2 => by
    have hc : p c = true := h1 0 (by simp) (by omega)
    have ih := take_at p s i (by simpa using hi) (fun j h hj => h1 (j + 1) (by simp; omega) (by omega)) fun h => h2 (by simp; omega)
    simp [List.takeWhile_cons, List.dropWhile_cons, hc, ih.1, ih.2]
theorem getB {s : List UInt8} {i : Nat} (h : i < s.length) : ((UInt8.toNat (List.getD s (Int.toNat (i : Int)) (0 : UInt8)) : Nat) : Int) = ((s[i].toNat : Nat) : Int) := by simp [List.getD, h]
theorem taked_loop (s : List UInt8) (n : Int) (es : List (PV × PV)) (hs : s.length ≤ 1000000) : ∀ (m i : Nat), m + i = s.length → (∀ j (h : j < s.length), j < i → digB s[j] = true) →
    At T_taked 2 (endO' 2 rs_taked fun r => r = (.pv (.str (s.takeWhile digB)), rdV (s.dropWhile digB) n es, [])) ic_taked 0 42 [(0, .ptr 0 0), (1, .pv (.fn 129)), (5, .pv (.int .i64 i))] [.obj (.box [.pv (.str s), .pv (.int .i64 n), .map 1]), .obj (.map es)] := by
  intro m
  induction m with
  | zero =>
    intro i hi h
    obtain ⟨e1, e2⟩ := take_at digB s i (by omega) h (fun hlt => by omega)
    refine taked_h0 s n es i (iteF (by simp; omega) ⟨by simp; omega, by simp; omega, ?_⟩)
    rw [e1, e2, Int.toNat_natCast, List.drop_zero, List.take_length]; rfl
  | succ m ih =>
    intro i hi h
    have hlt : i < s.length := by omega
    refine taked_h0 s n es i ?_
    rw [getB hlt]
    refine iteT (by simp; omega) ⟨by simp; omega, pre_enc (s[i], ()) rfl rfl, ex_enc (s[i], ()) rfl (iteB (fun hc => ?_) fun hc => ⟨by simp; omega, by simp; omega, ?_⟩)⟩
    · rw [next (by omega)]
      exact ih (i + 1) (by omega) fun j hj hji => if e : j = i then by subst e; exact hc else h j hj (by omega)
    · obtain ⟨e1, e2⟩ := take_at digB s i (by omega) h (fun _ => hc)
      rw [e1, e2, Int.toNat_natCast, List.drop_zero, List.take_length]; rfl
theorem takel_loop (s : List UInt8) (n : Int) (es : List (PV × PV)) (hs : s.length ≤ 1000000) : ∀ (m i : Nat), m + i = s.length → (∀ j (h : j < s.length), j < i → letB s[j] = true) →
    At T_takel 2 (endO' 2 rs_takel fun r => r = (.pv (.str (s.takeWhile letB)), rdV (s.dropWhile letB) n es, [])) ic_takel 0 42 [(0, .ptr 0 0), (1, .pv (.fn 134)), (5, .pv (.int .i64 i))] [.obj (.box [.pv (.str s), .pv (.int .i64 n), .map 1]), .obj (.map es)] := by
  intro m
  induction m with
  | zero =>
    intro i hi h
    obtain ⟨e1, e2⟩ := take_at letB s i (by omega) h (fun hlt => by omega)
    refine takel_h0 s n es i (iteF (by simp; omega) ⟨by simp; omega, by simp; omega, ?_⟩)
    rw [e1, e2, Int.toNat_natCast, List.drop_zero, List.take_length]; rfl
  | succ m ih =>
    intro i hi h
    have hlt : i < s.length := by omega
    refine takel_h0 s n es i ?_
    rw [getB hlt]
    refine iteT (by simp; omega) ⟨by simp; omega, pre_enc (s[i], ()) rfl rfl, ex_enc (s[i], ()) rfl (iteB (fun hc => ?_) fun hc => ⟨by simp; omega, by simp; omega, ?_⟩)⟩
    · rw [next (by omega)]
      exact ih (i + 1) (by omega) fun j hj hji => if e : j = i then by subst e; exact hc else h j hj (by omega)
    · obtain ⟨e1, e2⟩ := take_at letB s i (by omega) h (fun _ => hc)
      rw [e1, e2, Int.toNat_natCast, List.drop_zero, List.take_length]; rfl
theorem taked_run : ∀ args os, pre_take 129 args os = true → Gets T_taked os.length (endO' os.length rs_taked fun r => r = takeW digB args os) ic_taked [] (st0O nt_taked args os) := by
  intro args os h
  unfold pre_take at h
  split at h
  · rename_i g s n es
    simp only [Bool.and_eq_true, beq_iff_eq, decide_eq_true_eq] at h
    obtain ⟨rfl, h⟩ := h
    exact taked_s s n es (taked_loop s n es h s.length 0 (by omega) fun j _ hj => by omega)
  · cases h
theorem takel_run : ∀ args os, pre_take 134 args os = true → Gets T_takel os.length (endO' os.length rs_takel fun r => r = takeW letB args os) ic_takel [] (st0O nt_takel args os) := by
  intro args os h
  unfold pre_take at h
  split at h
  · rename_i g s n es
    simp only [Bool.and_eq_true, beq_iff_eq, decide_eq_true_eq] at h
    obtain ⟨rfl, h⟩ := h
    exact takel_s s n es (takel_loop s n es h s.length 0 (by omega) fun j _ hj => by omega)
  · cases h
theorem take_len (p : UInt8 → Bool) (s : List UInt8) : (s.takeWhile p).length ≤ s.length := (List.takeWhile_sublist p).length_le
theorem atoi_len {d : List UInt8} (h : (atoiE ⟨d⟩).2.b = false) : 0 < d.length := by
  cases d with
  | nil => exact absurd h (by decide)
  | cons c d => simp
theorem nil_er (e : Er) : isNilI (enc e) = !e.b := by obtain ⟨b⟩ := e; cases b <;> rfl
theorem ifc_er (e : Er) : isIfP (enc e) = true := by obtain ⟨b⟩ := e; cases b <;> rfl
theorem number_run : ∀ args os, pre_rd0 args os = true → Gets T_number os.length (endO' os.length rs_number fun r => r = val_number args os) ic_number [] (st0O nt_number args os) := by
  intro args os h
  unfold pre_rd0 at h
  split at h
  · rename_i s n es
    have h : s.length ≤ 1000000 := by simpa using h
    have hl := take_len digB s
    refine number_s s n es ⟨by simp [pre_take, h], ?_⟩
    have ev : val_number [.ptr 0 0] [.box [.pv (.str s), .pv (.int .i64 n), .map 1], .map es] = (.tup [.pv (.int .i64 (atoiE ⟨s.takeWhile digB⟩).1), .pv (.bool (numOk (s.takeWhile digB)))], rdV (s.dropWhile digB) n es, []) := rfl
    rw [ev]
    generalize s.takeWhile digB = d at hl ⊢
    refine ⟨pre_enc ((⟨d⟩ : Str), ()) rfl (decide_eq_true (by show d.length ≤ _; omega)), ex_enc ((⟨d⟩ : Str), ()) rfl ⟨?_, ?_⟩⟩
    · show (isIfP (enc (atoiE ⟨d⟩).2) && true) = true
      rw [ifc_er]; rfl
    show if isNilI (enc (atoiE ⟨d⟩).2) = true then _ else _
    rw [nil_er]
    unfold numOk
    refine iteN (fun hb => ?_) fun hb => ?_
    · have hp := atoi_len hb
      rw [hb]
      refine iteD (fun h7 => ?_) fun h7 => ?_
      · have h7 : d.length ≤ 7 := by omega
        cases d with
        | nil => simp at hp
        | cons c r =>
          refine ⟨by simp, ?_⟩
          rw [decide_eq_true h7]
          have e : ((UInt8.toNat (List.getD (c :: r) (Int.toNat 0) (0 : UInt8)) : Int) != 48) = !(c == 48) := by
            show (!((c.toNat : Int) == ((48 : Nat) : Int))) = _
            rw [u8_eq c 48 (by omega)]; rfl
          rw [e]
          refine iteN (fun hc => ?_) fun hc => ?_
          · have hc : c ≠ 48 := by simpa using hc
            simp [hc]; rfl
          · have hc : c = 48 := by simpa using hc
            subst hc
            have e : ((48 :: r : List UInt8) == [48]) = (!false && true && (decide (((48 : UInt8) :: r).head? ≠ some 48) || decide ((48 :: r : List UInt8) = [48]))) := by cases r <;> simp
            rw [← e]; rfl
      · have h7 : ¬ d.length ≤ 7 := by omega
        simp [h7]; rfl
    · rw [hb]; rfl
  · cases h
theorem variable_run : ∀ args os, pre_rd0 args os = true → Gets T_variable os.length (endO' os.length rs_variable fun r => r = val_variable args os) ic_variable [] (st0O nt_variable args os) := by
  intro args os h
  unfold pre_rd0 at h
  split at h
  · rename_i s n es
    have h : s.length ≤ 1000000 := by simpa using h
    have hl := take_len letB s
    exact variable_s s n es ⟨by simp [pre_take, h], pre_enc ((⟨s.takeWhile letB⟩ : Str), ()) rfl (decide_eq_true (by show (s.takeWhile letB).length ≤ _; omega)), ex_enc ((⟨s.takeWhile letB⟩ : Str), ()) rfl rfl⟩
  · cases h
theorem sign_run : ∀ args os, pre_rd0 args os = true → Gets T_sign os.length (endO' os.length rs_sign fun r => r = val_sign args os) ic_sign [] (st0O nt_sign args os) := by
  intro args os h
  unfold pre_rd0 at h
  split at h
  · rename_i s n es
    have h : s.length ≤ 1000000 := by simpa using h
    have ev : val_sign [.ptr 0 0] [.box [.pv (.str s), .pv (.int .i64 n), .map 1], .map es] = (.tup [.pv (.int .i64 (signR s).1.1), .pv (.bool (signR s).1.2)], rdV (signR s).2 n es, []) := rfl
    rw [ev]
    refine sign_s s n es (sign_h0a s n es (ex_enc ((⟨s⟩ : Str), (⟨[43]⟩ : Str), ()) rfl (iteB (fun h1 => ?_) fun h1 => sign_h0b s n es (ex_enc ((⟨s⟩ : Str), (⟨[45]⟩ : Str), ()) rfl (iteB (fun h2 => ?_) fun h2 => sign_h0c s n es ?_)))))
    · cases s with
      | nil => cases h1
      | cons c r =>
        have hc : c = 43 := by
          have : ([43] : List UInt8).isPrefixOf (c :: r) = true := h1
          exact (by simpa [List.isPrefixOf] using this : 43 = c).symm
        subst hc
        refine ⟨by simp, ?_⟩
        simp [signR, rdV]
    · cases s with
      | nil => cases h2
      | cons c r =>
        have hc : c = 45 := by
          have : ([45] : List UInt8).isPrefixOf (c :: r) = true := h2
          exact (by simpa [List.isPrefixOf] using this : 45 = c).symm
        subst hc
        refine ⟨by simp, ?_⟩
        simp [signR, rdV]
    · cases s with
      | nil => rfl
      | cons c r =>
        have hc1 : c ≠ 43 := by
          intro e; subst e
          have : ([43] : List UInt8).isPrefixOf (43 :: r) = false := h1
          simp [List.isPrefixOf] at this
        have hc2 : c ≠ 45 := by
          intro e; subst e
          have : ([45] : List UInt8).isPrefixOf (45 :: r) = false := h2
          simp [List.isPrefixOf] at this
        simp [signR, hc1, hc2, rdV]
  · cases h
end Go.Pl

namespace Go.Pl
open Go.RowKit
open Enc (enc dec is)
open EncL (encL decL isL)
theorem var_ok1 (v : List UInt8) (m : List (Str × Int)) : (lookOK (PV.str v) (mapP m) && Sh.fit (Sh.int .i64) (lookD (PV.str v) (PV.int .i64 0) (mapP m))) = true := by rw [lookOK_map, lookD_map]; rfl
theorem var_ok2 (v : List UInt8) (c : Int) (m : List (Str × Int)) : updOK (PV.str v) (PV.int .i64 c) (mapP m) = true := by
  unfold updOK
  rw [upd_map ⟨v⟩ c m]; rfl
theorem var_upd (v : List UInt8) (k : Int) (m : List (Str × Int)) : updL (PV.str v) (PV.int .i64 (IntKind.i64.wrap (PV.asInt (lookD (PV.str v) (PV.int .i64 0) (mapP m)) + k))) (mapP m) = mapP (updM ⟨v⟩ (w64 (atM m v + k)) m) := by
  rw [lookD_map]
  unfold updL
  rw [upd_map ⟨v⟩ _ m]; rfl
theorem rd0_ok (s : List UInt8) (n : Int) (m : List (Str × Int)) (h : s.length ≤ 1000000) : pre_rd0 [.ptr 0 0] [.box [.pv (.str s), .pv (.int .i64 n), .map 1], .map (mapP m)] = true := decide_eq_true h
theorem drop_len (p : UInt8 → Bool) (s : List UInt8) : (s.dropWhile p).length ≤ s.length := (List.dropWhile_sublist p).length_le
theorem item_get (r : RdS) (g : Int) (hs : r.s.length ≤ 1000000) : Gets T_item 2 (endO' 2 rs_item fun z => z = itemV (itemR r g)) ic_item [] (st0O nt_item [.ptr 0 0, .pv (.int .i64 g)] [.box [.pv (.str r.s), .pv (.int .i64 r.n), .map 1], .map (mapP r.m)]) := by
  obtain ⟨s, n, m⟩ := r
  have hs : s.length ≤ 1000000 := hs
  show Gets T_item 2 (endO' 2 rs_item fun z => z = itemV (itemR ⟨s, n, m⟩ g)) _ _ _
  refine item_s s n m g (iteE (fun h0 => ?_) fun h0 => ?_)
  · have h0 : s = [] := h0
    subst h0
    rfl
  have h0 : s ≠ [] := h0
  have hp : 0 < s.length := List.length_pos_iff.2 h0
  have hg : ((UInt8.toNat (List.getD s (Int.toNat 0) (0 : UInt8)) : Nat) : Int) = (((s.headD 0).toNat : Nat) : Int) := by
    cases s with
    | nil => exact absurd rfl h0
    | cons c s => rfl
  rw [hg]
  refine ⟨by simp; omega, pre_enc (s.headD 0, ()) rfl rfl, ex_enc (s.headD 0, ()) rfl (iteN (fun hd => ?_) fun hd => ?_)⟩
  · have hd : digB (s.headD 0) = false := hd
    have e : itemR ⟨s, n, m⟩ g = varR s n m g := by
      unfold itemR
      rw [if_neg h0, if_pos hd]
    rw [e]
    refine ⟨rd0_ok s n m hs, var_ok1 _ _, var_ok2 _ _ _, ?_⟩
    rw [var_upd]; rfl
  have hd : digB (s.headD 0) = true := hd
  refine ⟨rd0_ok s n m hs, iteN (fun hn => ?_) fun hn => ?_⟩
  · have e : itemR ⟨s, n, m⟩ g = (false, ⟨s.dropWhile digB, n, m⟩) := by
      unfold itemR
      rw [if_neg h0, if_neg (by rw [hd]; simp), if_pos hn]
    rw [e]; rfl
  have e : itemR ⟨s, n, m⟩ g = afterR (s.dropWhile digB) n m (w64 (g * (atoiE ⟨s.takeWhile digB⟩).1)) := by
    unfold itemR
    rw [if_neg h0, if_neg (by rw [hd]; simp), if_neg (by rw [hn]; simp)]
  rw [e]
  have hl := drop_len digB s
  generalize (atoiE ⟨s.takeWhile digB⟩).1 = k
  generalize s.dropWhile digB = t at hl ⊢
  have hb := drop_len (fun c => c == 32) t
  have hb : (blanksS t).length ≤ t.length := hb
  refine ex_enc ((⟨t⟩ : Str), (⟨[32]⟩ : Str), ()) rfl (ex_enc ((⟨blanksS t⟩ : Str), (⟨[42]⟩ : Str), ()) rfl (iteB (fun hx => ?_) fun hx => ?_))
  · have hx : ([42] : List UInt8).isPrefixOf (blanksS t) = true := hx
    have ed : List.drop (Int.toNat 1) (List.take (List.length (blanksS t)) (blanksS t)) = (blanksS t).drop 1 := by rw [List.take_length]; rfl
    have hpos : 1 ≤ (blanksS t).length := by
      cases h : blanksS t with
      | nil => rw [h] at hx; cases hx
      | cons c r => simp
    have e2 : afterR t n m (w64 (g * k)) = varR (blanksS ((blanksS t).drop 1)) n m (w64 (g * k)) := by unfold afterR; rw [if_pos hx]
    rw [e2]
    show _ ∧ _
    refine ⟨by simp; omega, ?_⟩
    show pre_rd0 [.ptr 0 0] [.box [.pv (.str (List.drop (Int.toNat 1) (List.take (List.length (blanksS t)) (blanksS t)))), .pv (.int .i64 n), .map 1], .map (mapP m)] = true ∧ _
    rw [ed]
    have hl2 : ((blanksS t).drop 1).length ≤ 1000000 := by simp; omega
    generalize (blanksS t).drop 1 = u at hl2 ⊢
    have hl3 : (blanksS u).length ≤ u.length := drop_len (fun c => c == 32) u
    refine ⟨rd0_ok u n m hl2, rd0_ok (blanksS u) n m (by omega), var_ok1 _ _, var_ok2 _ _ _, ?_⟩
    rw [var_upd]; rfl
  · have hx : ([42] : List UInt8).isPrefixOf (blanksS t) = false := hx
    have e2 : afterR t n m (w64 (g * k)) = if t = [] ∨ letB (t.headD 0) = false then (true, ⟨t, w64 (n + w64 (g * k)), m⟩) else varR t n m (w64 (g * k)) := by unfold afterR; rw [if_neg (by rw [hx]; simp)]
    rw [e2]
    refine iteE (fun ht => ?_) fun ht => ?_
    · have ht : t = [] := ht
      rw [if_pos (.inl ht)]; rfl
    have ht : t ≠ [] := ht
    have htp : 0 < t.length := List.length_pos_iff.2 ht
    have hg2 : ((UInt8.toNat (List.getD t (Int.toNat 0) (0 : UInt8)) : Nat) : Int) = (((t.headD 0).toNat : Nat) : Int) := by
      cases t with
      | nil => exact absurd rfl ht
      | cons c s => rfl
    rw [hg2]
    refine ⟨by simp; omega, pre_enc (t.headD 0, ()) rfl rfl, ex_enc (t.headD 0, ()) rfl (iteN (fun hc => ?_) fun hc => ?_)⟩
    · have hc : letB (t.headD 0) = false := hc
      rw [if_pos (.inr hc)]; rfl
    · have hc : letB (t.headD 0) = true := hc
      rw [if_neg (by rintro (h | h); exact ht h; rw [hc] at h; cases h)]
      refine ⟨rd0_ok t n m (by omega), var_ok1 _ _, var_ok2 _ _ _, ?_⟩
      rw [var_upd]; rfl
theorem item_run : ∀ args os, pre_rd1 args os = true → Gets T_item os.length (endO' os.length rs_item fun r => r = val_item args os) ic_item [] (st0O nt_item args os) := by
  intro args os h
  unfold pre_rd1 at h
  split at h
  · rename_i g s n es
    simp only [Bool.and_eq_true, decide_eq_true_eq] at h
    obtain ⟨h1, h2⟩ := h
    obtain ⟨m, rfl⟩ := canM_eq h1
    have ev : val_item [.ptr 0 0, .pv (.int .i64 g)] [.box [.pv (.str s), .pv (.int .i64 n), .map 1], .map (mapP m)] = itemV (itemR ⟨s, n, m⟩ g) := by
      show itemV (itemR ⟨s, n, mapD (mapP m)⟩ g) = _
      rw [mapD_map]
    rw [ev]
    exact item_get ⟨s, n, m⟩ g h2
  · cases h
end Go.Pl

namespace Go.Pl
open Go.RowKit
open Enc (enc dec is)
open EncL (encL decL isL)
theorem sign_len (u : List UInt8) : (signR u).2.length ≤ u.length ∧ ((signR u).1.2 = true → (signR u).2.length < u.length) := by
  cases u with
  | nil => exact ⟨Nat.le_refl _, fun h => by cases h⟩
  | cons c r =>
    have e : signR (c :: r) = if c = 43 then ((1, true), r) else if c = 45 then ((-1, true), r) else ((1, false), c :: r) := rfl
    rw [e]
    by_cases h1 : c = 43
    · rw [if_pos h1]; exact ⟨by simp, fun _ => by simp⟩
    · rw [if_neg h1]
      by_cases h2 : c = 45
      · rw [if_pos h2]; exact ⟨by simp, fun _ => by simp⟩
      · rw [if_neg h2]; exact ⟨Nat.le_refl _, fun h => by cases h⟩
theorem blanks_len (s : List UInt8) : (blanksS s).length ≤ s.length := drop_len _ s
theorem upd_keys' (s : Str) (c : Int) (m : List (Str × Int)) (x : List UInt8) (h : x ∈ keysM (updM s c m)) : x ∈ keysM m ∨ x = s.s := by
  rcases upd_keys s c m with e | ⟨_, e⟩
  · rw [e] at h; exact .inl h
  · rw [e, List.mem_append] at h
    rcases h with h | h
    · exact .inl h
    · exact .inr (List.mem_singleton.1 h)
def okR (r : RdS) (z : Bool × RdS) : Prop := z.2.s.length ≤ r.s.length ∧ z.2.m.length ≤ r.m.length + 1 ∧ ∀ x ∈ keysM z.2.m, x ∈ keysM r.m ∨ x.length ≤ r.s.length
theorem var_okR (s : List UInt8) (n n' : Int) (m : List (Str × Int)) (k : Int) (t : List UInt8) (h : s.length ≤ t.length) : okR ⟨t, n', m⟩ (varR s n m k) := by
  have h1 := drop_len letB s
  have h2 := take_len letB s
  refine ⟨by show (s.dropWhile letB).length ≤ t.length; omega, upd_len _ _ _, fun x hx => ?_⟩
  rcases upd_keys' _ _ _ x hx with h | rfl
  · exact .inl h
  · exact .inr (by show (s.takeWhile letB).length ≤ t.length; omega)
theorem item_okR (r : RdS) (g : Int) : okR r (itemR r g) := by
  obtain ⟨s, n, m⟩ := r
  have self : ∀ (b : Bool) (t : List UInt8) (n' : Int), t.length ≤ s.length → okR ⟨s, n, m⟩ (b, ⟨t, n', m⟩) := fun b t n' h => ⟨h, Nat.le_succ _, fun x hx => .inl hx⟩
  have h1 := drop_len digB s
  unfold itemR
  split
  · exact self _ _ _ (Nat.le_refl _)
  · split
    · exact var_okR _ _ _ _ _ _ (Nat.le_refl _)
    · split
      · exact self _ _ _ h1
      · simp only
        generalize s.dropWhile digB = t at h1 ⊢
        have hb := blanks_len t
        unfold afterR
        split
        · have hc := blanks_len ((blanksS t).drop 1)
          have hd : ((blanksS t).drop 1).length ≤ (blanksS t).length := by rw [List.length_drop]; omega
          exact var_okR _ _ _ _ _ _ (by omega)
        · split
          · exact self _ _ _ h1
          · exact var_okR _ _ _ _ _ _ h1
theorem rd1_ok (s : List UInt8) (n : Int) (m : List (Str × Int)) (g : Int) (h : s.length ≤ 1000000) : pre_rd1 [.ptr 0 0, .pv (.int .i64 g)] [.box [.pv (.str s), .pv (.int .i64 n), .map 1], .map (mapP m)] = true := by
  show (canM (mapP m) && decide (s.length ≤ 1000000)) = true
  rw [canM_map, decide_eq_true h]; rfl
theorem parse_loop (s : List UInt8) : ∀ (f : Nat) (t : List UInt8) (n : Int) (m : List (Str × Int)) (g : Int), t.length < f → t.length + m.length ≤ 500000 → (∀ x ∈ keysM m, x.length ≤ 500000) →
    At T_parse 0 (endP' rs_parse (Fits (parseR f t n m g))) ic_parse 0 51 [(2, .ptr 0 0), (4, .ptr 1 0), (5, .fn 82 [.ptr 1 0] []), (6, .pv (.int .i64 g))] [.obj (.box [.pv (.int .i64 0), .pv (.sl 0 true [])]), .obj (.box [.pv (.str t), .pv (.int .i64 n), .map 2]), .obj (.map (mapP m))] := by
  intro f
  induction f with
  | zero => intro t n m g h; omega
  | succ f ih =>
    intro t n m g hf hl hk
    have hbl := blanks_len t
    refine parse_h0 s t n m g ⟨rd0_ok t n m (by omega), rd1_ok _ n m g (by omega), ?_⟩
    rw [mapD_map]
    have ho := item_okR ⟨blanksS t, n, m⟩ g
    unfold parseR
    generalize itemR ⟨blanksS t, n, m⟩ g = z at ho ⊢
    obtain ⟨b, u, n', m'⟩ := z
    obtain ⟨o1, o2, o3⟩ := ho
    have o1 : u.length ≤ (blanksS t).length := o1
    have o2 : m'.length ≤ m.length + 1 := o2
    have o3 : ∀ x ∈ keysM m', x ∈ keysM m ∨ x.length ≤ (blanksS t).length := o3
    have hk' : ∀ x ∈ keysM m', x.length ≤ 500000 := fun x hx => (o3 x hx).elim (hk x) fun h => by omega
    have hub := blanks_len u
    simp only
    generalize hV : (if b = false then ((⟨0, []⟩, 6) : Lin × Int) else if blanksS u = [] then resM n' m' else if (signR (blanksS u)).1.2 = false then (⟨0, []⟩, 6) else parseR f (signR (blanksS u)).2 n' m' (signR (blanksS u)).1.1) = V
    refine iteN (fun hb => ?_) fun hb => ?_
    · have hv : V = (⟨0, []⟩, 6) := by rw [← hV, if_pos hb]
      rw [hv]
      exact ⟨rfl, rfl⟩
    have hb' : ¬ b = false := by
      have : b = true := hb
      rw [this]; simp
    rw [if_neg hb'] at hV
    refine ⟨rd0_ok u n' m' (by omega), iteE (fun he => ?_) fun he => ?_⟩
    · have hv : V = resM n' m' := by rw [← hV, if_pos he]
      rw [hv, mapD_map]
      refine ⟨?_, fits_of (x := resM n' m') rfl⟩
      show (canM (mapP m') && mapSm (mapD (mapP m'))) = true
      rw [canM_map, mapD_map]
      simp only [mapSm, Bool.true_and, Bool.and_eq_true, decide_eq_true_eq, List.all_eq_true]
      exact ⟨by omega, fun x hx => by have := hk' x hx; omega⟩
    · rw [if_neg he] at hV
      obtain ⟨s1, s2⟩ := sign_len (blanksS u)
      refine ⟨rd0_ok (blanksS u) n' m' (by omega), iteN (fun hs => ?_) fun hs => ?_⟩
      · have hv : V = (⟨0, []⟩, 6) := by rw [← hV, if_pos hs]
        rw [hv]
        exact ⟨rfl, rfl⟩
      · have hs' : ¬ (signR (blanksS u)).1.2 = false := by
          have : (signR (blanksS u)).1.2 = true := hs
          rw [this]; simp
        rw [if_neg hs'] at hV
        have := s2 hs
        rw [← hV]
        exact ih (signR (blanksS u)).2 n' m' (signR (blanksS u)).1.1 (by omega) (by omega) hk'
theorem parse_run : ∀ a : Str × Unit, decide (a.1.s.length ≤ 400000) = true → Gets T_parse 0 (endP' rs_parse (Fits (parseL a.1.s))) ic_parse [] (st0 nt_parse (encL a)) := by
  rintro ⟨⟨s⟩, ⟨⟩⟩ h
  have h : s.length ≤ 400000 := by simpa using h
  have h1 := blanks_len s
  have h2 := (sign_len (blanksS s)).1
  refine parse_s s ⟨rd0_ok s 0 [] (by omega), rd0_ok (blanksS s) 0 [] (by omega), ?_⟩
  exact parse_loop s (s.length + 1) (signR (blanksS s)).2 0 [] (signR (blanksS s)).1.1 (by omega) (by simp; omega) (fun x hx => by cases hx)
end Go.Pl

namespace Go.Pl
open Go.RowKit
open Enc (enc dec is)
open EncL (encL decL isL)
set_option maxRecDepth 100000
def ic_lorder : IC := (.seq (.reg [⟨(some 4), (.mv (.c (.int .i64 0))), 0, none⟩] none) (.seq (.block 0 (.seq (.reg [⟨(some 6), (.mv (.t 0)), 0, none⟩, ⟨(some 7), (.mv (.t 1)), 0, none⟩, ⟨(some 8), (.bin .num .lss (.t 6) (.t 7)), 0, none⟩, ⟨(some 5), (.mv (.t 8)), 0, none⟩] none) (.cond (.t 5) (.seq (.reg [⟨(some 4), (.mv (.c (.int .i64 (-1)))), 0, none⟩] none) .ret) (.seq (.reg [⟨(some 10), (.mv (.t 0)), 0, none⟩, ⟨(some 11), (.mv (.t 1)), 0, none⟩, ⟨(some 12), (.bin .num .gtr (.t 10) (.t 11)), 0, none⟩, ⟨(some 9), (.mv (.t 12)), 0, none⟩] none) (.cond (.t 9) (.seq (.reg [⟨(some 4), (.mv (.c (.int .i64 1))), 0, none⟩] none) .ret) .skip))))) (.seq (.reg [⟨(some 4), (.mv (.c (.int .i64 0))), 0, none⟩] none) .ret)))
def rs_lorder : List IRes := [(.tmp 4)]
abbrev nt_lorder : Nat := 13
def T_lorder : Tab := tab []
theorem lorder_s {G : PV → Prop} (a b : Int) (h : if (decide (a < b)) = true then G ((.int .i64 (-1))) else (if (decide (a > b)) = true then G ((.int .i64 1)) else (G ((.int .i64 0))))) : Gets T_lorder 0 (endP' rs_lorder G) ic_lorder [] (st0 13 [enc a, enc b]) := Gets.tp (.lit (.ask (.nil) (.lit (.ask (.nil) (.nil))))) h (by kernel_rfl)
def ic_lcmp1 : IC := (.seq (.reg [⟨(some 2), (.box 2 (.t 0)), 0, none⟩, ⟨(some 3), (.box 2 (.t 1)), 1, none⟩, ⟨(some 4), (.mv (.c (.int .i64 0))), 2, none⟩] none) (.seq (.seq (.reg [⟨(some 6), (.faddr 0 (.t 2)), 0, none⟩, ⟨(some 7), (.load false [.str] (.t 6)), 0, none⟩, ⟨(some 8), (.faddr 0 (.t 3)), 0, none⟩, ⟨(some 9), (.load false [.str] (.t 8)), 0, none⟩, ⟨(some 10), (.call (.c (.fn 94)) [(.t 7), (.t 9)]), 0, none⟩, ⟨(some 5), (.mv (.t 10)), 2, none⟩] none) (.seq (.reg [⟨(some 11), (.mv (.t 5)), 0, none⟩, ⟨(some 12), (.bin .num .neq (.t 11) (.c (.int .i64 0))), 0, none⟩] none) (.cond (.t 12) (.seq (.reg [⟨(some 13), (.mv (.t 5)), 0, none⟩, ⟨(some 4), (.mv (.t 13)), 0, none⟩] none) .ret) .skip))) (.seq (.reg [⟨(some 14), (.faddr 1 (.t 2)), 0, none⟩, ⟨(some 15), (.load false [(.int .i64)] (.t 14)), 0, none⟩, ⟨(some 16), (.faddr 1 (.t 3)), 0, none⟩, ⟨(some 17), (.load false [(.int .i64)] (.t 16)), 0, none⟩, ⟨(some 18), (.call (.c (.fn 95)) [(.t 15), (.t 17)]), 0, none⟩, ⟨(some 4), (.mv (.t 18)), 2, none⟩] none) .ret)))
def rs_lcmp1 : List IRes := [(.tmp 4)]
abbrev nt_lcmp1 : Nat := 19
def T_lcmp1 : Tab := tab [(94, .pure (preT (fun _ : Str × Str × Unit => true)) (valT (fun x : Str × Str × Unit => Lib.compareBytes x.1.s x.2.1.s))), (95, .pure (preT (fun _ : Int × Int × Unit => true)) (valT (fun x : Int × Int × Unit => cmpK x.1 x.2.1)))]
theorem lcmp1_s {G : PV → Prop} (x y : Coef) (h : ∃ y0 : Int, AV.pv (valT (fun (x : Str × Str × Unit) => Lib.compareBytes (Str.s x.1) (Str.s x.2.1)) [(.str (Str.s (Coef.v x))), (.str (Str.s (Coef.v y)))]) = AV.pv (enc y0) ∧ (if (y0 != 0) = true then G ((.int .i64 y0)) else (∃ y1 : Int, AV.pv (valT (fun (x : Int × Int × Unit) => cmpK x.1 x.2.1) [(.int .i64 (Coef.c x)), (.int .i64 (Coef.c y))]) = AV.pv (enc y1) ∧ (G ((.int .i64 y1)))))) : Gets T_lcmp1 0 (endP' rs_lcmp1 G) ic_lcmp1 [] (st0 19 [enc x, enc y]) := Gets.tp (.lit (.abs (Int) (fun YY => AV.pv (enc YY)) (.lit (.ask (.nil) (.lit (.abs (Int) (fun YY => AV.pv (enc YY)) (.nil))))))) h (by kernel_rfl)
def ic_lcmpf : IC := (.seq (.reg [⟨(some 6), (.mv (.c (.int .i64 0))), 0, none⟩] none) (.seq (.seq (.reg [⟨(some 11), (.mv (.t 0)), 0, none⟩, ⟨(some 12), (.len 1 (.t 11)), 0, none⟩, ⟨(some 13), (.mv (.c (.int .i64 0))), 0, none⟩] none) (.block 0 (.loop [13, 12, 11, 1, 2, 0] (.seq (.reg [⟨(some 14), (.bin .num .lss (.t 13) (.t 12)), 0, none⟩] none) (.seq (.cond (.t 14) .skip (.exit 0)) (.seq (.block 1 (.seq (.reg [⟨(some 15), (.mv (.t 13)), 0, none⟩, ⟨(some 16), (.iaddr 2 (.t 11) (.t 13)), 0, none⟩, ⟨(some 17), (.load true [.str, (.int .i64)] (.t 16)), 0, none⟩, ⟨(some 8), (.alloc (.agg [(.str []), (.int .i64 0)])), 0, none⟩, ⟨(some 7), (.mv (.t 15)), 1, none⟩, ⟨none, (.store 2 (.t 8) (.t 17)), 1, none⟩] none) (.seq (.seq (.reg [⟨(some 18), (.mv (.t 7)), 0, none⟩, ⟨(some 19), (.mv (.t 1)), 0, none⟩, ⟨(some 20), (.len 1 (.t 19)), 0, none⟩, ⟨(some 21), (.bin .num .geq (.t 18) (.t 20)), 0, none⟩] none) (.cond (.t 21) (.seq (.reg [⟨(some 6), (.mv (.c (.int .i64 1))), 0, none⟩] none) .ret) .skip)) (.seq (.reg [⟨(some 22), (.mv (.t 1)), 0, none⟩, ⟨(some 23), (.mv (.t 7)), 0, none⟩, ⟨(some 24), (.iaddr 2 (.t 22) (.t 23)), 0, none⟩, ⟨(some 25), (.load true [.str, (.int .i64)] (.t 24)), 0, none⟩, ⟨(some 9), (.alloc (.agg [(.str []), (.int .i64 0)])), 0, none⟩, ⟨none, (.store 2 (.t 9) (.t 25)), 1, none⟩] none) (.seq (.reg [⟨(some 26), (.mv (.t 2)), 0, none⟩, ⟨(some 27), (.load true [.str, (.int .i64)] (.t 8)), 0, none⟩, ⟨(some 28), (.load true [.str, (.int .i64)] (.t 9)), 0, none⟩, ⟨(some 29), (.call (.t 26) [(.t 27), (.t 28)]), 0, none⟩, ⟨(some 10), (.mv (.t 29)), 2, none⟩] none) (.seq (.reg [⟨(some 30), (.mv (.t 10)), 0, none⟩, ⟨(some 31), (.bin .num .neq (.t 30) (.c (.int .i64 0))), 0, none⟩] none) (.cond (.t 31) (.seq (.reg [⟨(some 32), (.mv (.t 10)), 0, none⟩, ⟨(some 6), (.mv (.t 32)), 0, none⟩] none) .ret) .skip))))))) (.reg [⟨(some 33), (.bin .num .add (.t 13) (.c (.int .i64 1))), 0, none⟩, ⟨(some 13), (.mv (.t 33)), 0, none⟩] none))))))) (.seq (.seq (.reg [⟨(some 34), (.mv (.t 0)), 0, none⟩, ⟨(some 35), (.len 1 (.t 34)), 0, none⟩, ⟨(some 36), (.mv (.t 1)), 0, none⟩, ⟨(some 37), (.len 1 (.t 36)), 0, none⟩, ⟨(some 38), (.bin .num .lss (.t 35) (.t 37)), 0, none⟩] none) (.cond (.t 38) (.seq (.reg [⟨(some 6), (.mv (.c (.int .i64 (-1)))), 0, none⟩] none) .ret) .skip)) (.seq (.reg [⟨(some 6), (.mv (.c (.int .i64 0))), 0, none⟩] none) .ret))))
def rs_lcmpf : List IRes := [(.tmp 6)]
abbrev nt_lcmpf : Nat := 39
def T_lcmpf : Tab := tab [(93, .pure (preT (fun _ : Coef × Coef × Unit => true)) (valT (fun x : Coef × Coef × Unit => cmpC x.1 x.2.1)))]
theorem lcmpf_s {G : PV → Prop} (a b : List Coef) (h : At T_lcmpf 0 (endP' rs_lcmpf G) ic_lcmpf 0 39 [(0, (.pv (.sl 2 false (List.map enc a)))), (1, (.pv (.sl 2 false (List.map enc b)))), (2, (.pv (.fn 93))), (11, (.pv (.sl 2 false (List.map enc a)))), (12, (.pv (.int .i64 (↑(List.length (List.map enc a)) : Int)))), (13, (.pv (.int .i64 0)))] []) : Gets T_lcmpf 0 (endP' rs_lcmpf G) ic_lcmpf [] (st0 39 [enc a, enc b, .fn 93]) := Gets.tp (.nil) h (by kernel_rfl)
theorem lcmpf_h0 {G : PV → Prop} (a b : List Coef) (i : Int) (h : if (decide (i < (↑(List.length a) : Int))) = true then (decide (0 ≤ i) && decide (Int.toNat i < List.length (List.map enc a)) && Enc.sz Coef == 2) = true ∧ (∃ y0 : Coef, AV.pv (PV.rptr (PV.cells (List.getD (List.map enc a) (Int.toNat i) default))) = AV.pv (PV.rptr (PV.cells ((enc) y0))) ∧ (if (decide (i ≥ (↑(List.length (List.map enc b)) : Int))) = true then G ((.int .i64 1)) else ((decide (0 ≤ i) && decide (Int.toNat i < List.length (List.map enc b)) && Enc.sz Coef == 2) = true ∧ (∃ y1 : Coef, AV.pv (PV.rptr (PV.cells (List.getD (List.map enc b) (Int.toNat i) default))) = AV.pv (PV.rptr (PV.cells ((enc) y1))) ∧ (∃ y2 : Int, AV.pv (valT (fun (x : Coef × Coef × Unit) => cmpC x.1 x.2.1) [(.agg [(.str (PV.asStr (List.getD (PV.cells (enc y0)) 0 default))), (.int .i64 (PV.asInt (List.getD (PV.cells (enc y0)) (0 + 1) default)))]), (.agg [(.str (PV.asStr (List.getD (PV.cells (enc y1)) 0 default))), (.int .i64 (PV.asInt (List.getD (PV.cells (enc y1)) (0 + 1) default)))])]) = AV.pv (enc y2) ∧ (if (y2 != 0) = true then G ((.int .i64 y2)) else (At T_lcmpf 0 (endP' rs_lcmpf G) ic_lcmpf 0 39 [(0, (.pv (.sl 2 false (List.map enc a)))), (1, (.pv (.sl 2 false (List.map enc b)))), (2, (.pv (.fn 93))), (11, (.pv (.sl 2 false (List.map enc a)))), (12, (.pv (.int .i64 (↑(List.length a) : Int)))), (13, (.pv (.int .i64 (IntKind.wrap IntKind.i64 (i + 1)))))] []))))))) else (if (decide ((↑(List.length (List.map enc a)) : Int) < (↑(List.length (List.map enc b)) : Int))) = true then G ((.int .i64 (-1))) else (G ((.int .i64 0))))) : At T_lcmpf 0 (endP' rs_lcmpf G) ic_lcmpf 0 39 [(0, .pv (enc a)), (1, .pv (enc b)), (2, .pv (.fn 93)), (11, .pv (enc a)), (12, .pv (.int .i64 a.length)), (13, .pv (.int .i64 i))] [] := At.tp (.lit (.ask (.req (.abs (Coef) (fun YY => AV.pv (PV.rptr (PV.cells ((enc) YY)))) (.lit (.lit (.ask (.nil) (.req (.abs (Coef) (fun YY => AV.pv (PV.rptr (PV.cells ((enc) YY)))) (.lit (.lit (.abs (Int) (fun YY => AV.pv (enc YY)) (.lit (.ask (.nil) (.lit (.nil)))))))))))))) (.lit (.ask (.nil) (.nil))))) h (by kernel_rfl)
def ic_lcmp : IC := (.seq (.reg [⟨(some 2), (.box 2 (.t 0)), 0, none⟩, ⟨(some 3), (.box 2 (.t 1)), 1, none⟩, ⟨(some 4), (.mv (.c (.int .i64 0))), 2, none⟩] none) (.seq (.reg [⟨(some 6), (.faddr 1 (.t 2)), 0, none⟩, ⟨(some 7), (.load false [(.sl 2)] (.t 6)), 0, none⟩, ⟨(some 8), (.faddr 1 (.t 3)), 0, none⟩, ⟨(some 9), (.load false [(.sl 2)] (.t 8)), 0, none⟩, ⟨(some 10), (.call (.c (.fn 92)) [(.t 7), (.t 9), (.c (.fn 93))]), 0, none⟩, ⟨(some 5), (.mv (.t 10)), 2, none⟩] none) (.seq (.seq (.reg [⟨(some 11), (.mv (.t 5)), 0, none⟩, ⟨(some 12), (.bin .num .neq (.t 11) (.c (.int .i64 0))), 0, none⟩] none) (.cond (.t 12) (.seq (.reg [⟨(some 13), (.mv (.t 5)), 0, none⟩, ⟨(some 4), (.mv (.t 13)), 0, none⟩] none) .ret) .skip)) (.seq (.reg [⟨(some 14), (.faddr 0 (.t 2)), 0, none⟩, ⟨(some 15), (.load false [(.int .i64)] (.t 14)), 0, none⟩, ⟨(some 16), (.faddr 0 (.t 3)), 0, none⟩, ⟨(some 17), (.load false [(.int .i64)] (.t 16)), 0, none⟩, ⟨(some 18), (.call (.c (.fn 95)) [(.t 15), (.t 17)]), 0, none⟩, ⟨(some 4), (.mv (.t 18)), 2, none⟩] none) .ret))))
def rs_lcmp : List IRes := [(.tmp 4)]
abbrev nt_lcmp : Nat := 19
def T_lcmp : Tab := tab [(92, .pure (preT (fun x : List Coef × List Coef × FnV 93 × Unit => decide (x.1.length ≤ 9223372036854775807) && decide (x.2.1.length ≤ 9223372036854775807))) (valT (fun x : List Coef × List Coef × FnV 93 × Unit => cmpCs x.1 x.2.1))), (95, .pure (preT (fun _ : Int × Int × Unit => true)) (valT (fun x : Int × Int × Unit => cmpK x.1 x.2.1)))]
theorem lcmp_s {G : PV → Prop} (a b : Lin) (h : (Go.Pl.preT (fun (x : List Coef × List Coef × FnV 93 × Unit) => decide (List.length x.1 ≤ 9223372036854775807) && decide (List.length x.2.1 ≤ 9223372036854775807)) [(.sl 2 false (List.map enc a.t)), (.sl 2 false (List.map enc b.t)), (.fn 93)]) = true ∧ (∃ y0 : Int, AV.pv (valT (fun (x : List Coef × List Coef × FnV 93 × Unit) => cmpCs x.1 x.2.1) [(.sl 2 false (List.map enc a.t)), (.sl 2 false (List.map enc b.t)), (.fn 93)]) = AV.pv (enc y0) ∧ (if (y0 != 0) = true then G ((.int .i64 y0)) else (∃ y1 : Int, AV.pv (valT (fun (x : Int × Int × Unit) => cmpK x.1 x.2.1) [(.int .i64 a.k), (.int .i64 b.k)]) = AV.pv (enc y1) ∧ (G ((.int .i64 y1))))))) : Gets T_lcmp 0 (endP' rs_lcmp G) ic_lcmp [] (st0 19 [enc a, enc b]) := Gets.tp (.req (.abs (Int) (fun YY => AV.pv (enc YY)) (.lit (.ask (.nil) (.lit (.abs (Int) (fun YY => AV.pv (enc YY)) (.nil))))))) h (by kernel_rfl)
def ic_leq : IC := (.seq (.reg [⟨(some 2), (.box 2 (.t 0)), 0, none⟩, ⟨(some 3), (.box 2 (.t 1)), 1, none⟩, ⟨(some 4), (.mv (.c (.bool false))), 2, none⟩] none) (.seq (.reg [⟨(some 5), (.load true [(.int .i64), (.sl 2)] (.t 2)), 0, none⟩, ⟨(some 6), (.load true [(.int .i64), (.sl 2)] (.t 3)), 0, none⟩, ⟨(some 7), (.call (.c (.fn 39)) [(.t 5), (.t 6)]), 0, none⟩, ⟨(some 8), (.bin .num .eql (.t 7) (.c (.int .i64 0))), 2, none⟩, ⟨(some 4), (.mv (.t 8)), 2, none⟩] none) .ret))
def rs_leq : List IRes := [(.tmp 4)]
abbrev nt_leq : Nat := 9
def T_leq : Tab := tab [(39, .pure (preT (fun x : Lin × Lin × Unit => linOk x.1 && linOk x.2.1)) (valT (fun x : Lin × Lin × Unit => cmpLin x.1 x.2.1)))]
theorem leq_s {G : PV → Prop} (a b : Lin) (h : (Go.Pl.preT (fun (x : Lin × Lin × Unit) => linOk x.1 && linOk x.2.1) [(.agg [(.int .i64 a.k), (.sl 2 false (List.map enc a.t))]), (.agg [(.int .i64 b.k), (.sl 2 false (List.map enc b.t))])]) = true ∧ (∃ y0 : Int, AV.pv (valT (fun (x : Lin × Lin × Unit) => cmpLin x.1 x.2.1) [(.agg [(.int .i64 a.k), (.sl 2 false (List.map enc a.t))]), (.agg [(.int .i64 b.k), (.sl 2 false (List.map enc b.t))])]) = AV.pv (enc y0) ∧ (G ((.bool (y0 == 0)))))) : Gets T_leq 0 (endP' rs_leq G) ic_leq [] (st0 9 [enc a, enc b]) := Gets.tp (.req (.abs (Int) (fun YY => AV.pv (enc YY)) (.lit (.nil)))) h (by kernel_rfl)
def ic_part : IC := (.seq (.reg [⟨(some 6), (.mv (.t 0)), 0, none⟩, ⟨(some 7), (.call (.c (.fn 79)) [(.t 6)]), 0, none⟩, ⟨(some 5), (.mv (.t 7)), 2, none⟩] none) (.seq (.seq (.reg [⟨(some 8), (.mv (.t 1)), 0, none⟩, ⟨(some 9), (.bin .num .neq (.t 8) (.c (.str []))), 0, none⟩, ⟨(some 10), (.mv (.t 9)), 0, none⟩, ⟨(some 11), (.mv (.t 0)), 0, (some (10, true))⟩, ⟨(some 12), (.bin .num .eql (.t 11) (.c (.int .i64 1))), 0, (some (10, true))⟩, ⟨(some 13), (.mv (.t 12)), 0, (some (10, true))⟩, ⟨(some 14), (.mv (.t 0)), 0, (some (13, false))⟩, ⟨(some 15), (.bin .num .eql (.t 14) (.c (.int .i64 (-1)))), 0, (some (13, false))⟩, ⟨(some 16), (.pick (.t 13) (.c (.bool true)) (.t 15)), 0, (some (10, true))⟩, ⟨(some 17), (.pick (.t 10) (.t 16) (.c (.bool false))), 0, none⟩] none) (.cond (.t 17) (.reg [⟨(some 18), (.mv (.t 5)), 0, none⟩, ⟨(some 19), (.call (.c (.fn 80)) [(.t 18), (.c (.str [49]))]), 0, none⟩, ⟨(some 5), (.mv (.t 19)), 2, none⟩] none) .skip)) (.seq (.seq (.reg [⟨(some 20), (.mv (.t 0)), 0, none⟩, ⟨(some 21), (.bin .num .geq (.t 20) (.c (.int .i64 0))), 0, none⟩, ⟨(some 22), (.mv (.t 21)), 0, none⟩, ⟨(some 23), (.load false [.str] (.t 2)), 0, (some (22, true))⟩, ⟨(some 24), (.bin .num .neq (.t 23) (.c (.str []))), 0, (some (22, true))⟩, ⟨(some 25), (.pick (.t 22) (.t 24) (.c (.bool false))), 0, none⟩] none) (.cond (.t 25) (.reg [⟨(some 26), (.load false [.str] (.t 2)), 0, none⟩, ⟨(some 27), (.bin .num .add (.t 26) (.c (.str [43]))), 0, none⟩, ⟨none, (.store 1 (.t 2) (.t 27)), 0, none⟩] none) .skip)) (.reg [⟨(some 28), (.load false [.str] (.t 2)), 0, none⟩, ⟨(some 29), (.mv (.t 5)), 0, none⟩, ⟨(some 30), (.mv (.t 1)), 0, none⟩, ⟨(some 31), (.bin .num .add (.t 29) (.t 30)), 0, none⟩, ⟨(some 32), (.bin .num .add (.t 28) (.t 31)), 0, none⟩, ⟨none, (.store 1 (.t 2) (.t 32)), 0, none⟩] none))))
def rs_part : List IRes := []
abbrev nt_part : Nat := 33
def T_part : Tab := tab [(79, .pure (preT (fun x : Int × Unit => decide (-9223372036854775808 ≤ x.1) && decide (x.1 ≤ 9223372036854775807))) (valT (fun x : Int × Unit => itoaS x.1))), (80, .pure (preT (fun x : Str × Str × Unit => decide (x.1.s.length ≤ 1000000))) (valT (fun x : Str × Str × Unit => (⟨Lib.trimSuffix x.1.s x.2.1.s⟩ : Str))))]
theorem part_s {G : AV × List AObj × List AObj → Prop} (n : Int) (s o : List UInt8) (h : (Go.Pl.preT (fun (x : Int × Unit) => decide ((-9223372036854775808 : Int) ≤ x.1) && decide (x.1 ≤ 9223372036854775807)) [(.int .i64 n)]) = true ∧ (∃ y0 : Str, AV.pv (valT (fun (x : Int × Unit) => itoaS x.1) [(.int .i64 n)]) = AV.pv (enc y0) ∧ (if (!s == []) = true then if (n == 1) = true then (Go.Pl.preT (fun (x : Str × Str × Unit) => decide (List.length (Str.s x.1) ≤ 1000000)) [(.str (Str.s y0)), (.str [(49 : UInt8)])]) = true ∧ (∃ y1 : Str, AV.pv (valT (fun (x : Str × Str × Unit) => Str.mk (Lib.trimSuffix (Str.s x.1) (Str.s x.2.1))) [(.str (Str.s y0)), (.str [(49 : UInt8)])]) = AV.pv (enc y1) ∧ (if (decide (n ≥ 0)) = true then if (!o == []) = true then (decide (List.length o + List.length [(43 : UInt8)] ≤ 1099511627776)) = true ∧ ((decide (List.length (Str.s y1) + List.length s ≤ 1099511627776)) = true ∧ ((decide (List.length (o ++ [(43 : UInt8)]) + List.length (Str.s y1 ++ s) ≤ 1099511627776)) = true ∧ (G (((.tup []), ([(.box [(.pv (.str (o ++ [(43 : UInt8)] ++ (Str.s y1 ++ s))))])], [])))))) else ((decide (List.length (Str.s y1) + List.length s ≤ 1099511627776)) = true ∧ ((decide (List.length o + List.length (Str.s y1 ++ s) ≤ 1099511627776)) = true ∧ (G (((.tup []), ([(.box [(.pv (.str (o ++ (Str.s y1 ++ s))))])], [])))))) else ((decide (List.length (Str.s y1) + List.length s ≤ 1099511627776)) = true ∧ ((decide (List.length o + List.length (Str.s y1 ++ s) ≤ 1099511627776)) = true ∧ (G (((.tup []), ([(.box [(.pv (.str (o ++ (Str.s y1 ++ s))))])], [])))))))) else (if (n == (-1 : Int)) = true then (Go.Pl.preT (fun (x : Str × Str × Unit) => decide (List.length (Str.s x.1) ≤ 1000000)) [(.str (Str.s y0)), (.str [(49 : UInt8)])]) = true ∧ (∃ y2 : Str, AV.pv (valT (fun (x : Str × Str × Unit) => Str.mk (Lib.trimSuffix (Str.s x.1) (Str.s x.2.1))) [(.str (Str.s y0)), (.str [(49 : UInt8)])]) = AV.pv (enc y2) ∧ (if (decide (n ≥ 0)) = true then if (!o == []) = true then (decide (List.length o + List.length [(43 : UInt8)] ≤ 1099511627776)) = true ∧ ((decide (List.length (Str.s y2) + List.length s ≤ 1099511627776)) = true ∧ ((decide (List.length (o ++ [(43 : UInt8)]) + List.length (Str.s y2 ++ s) ≤ 1099511627776)) = true ∧ (G (((.tup []), ([(.box [(.pv (.str (o ++ [(43 : UInt8)] ++ (Str.s y2 ++ s))))])], [])))))) else ((decide (List.length (Str.s y2) + List.length s ≤ 1099511627776)) = true ∧ ((decide (List.length o + List.length (Str.s y2 ++ s) ≤ 1099511627776)) = true ∧ (G (((.tup []), ([(.box [(.pv (.str (o ++ (Str.s y2 ++ s))))])], [])))))) else ((decide (List.length (Str.s y2) + List.length s ≤ 1099511627776)) = true ∧ ((decide (List.length o + List.length (Str.s y2 ++ s) ≤ 1099511627776)) = true ∧ (G (((.tup []), ([(.box [(.pv (.str (o ++ (Str.s y2 ++ s))))])], [])))))))) else (if (decide (n ≥ 0)) = true then if (!o == []) = true then (decide (List.length o + List.length [(43 : UInt8)] ≤ 1099511627776)) = true ∧ ((decide (List.length (Str.s y0) + List.length s ≤ 1099511627776)) = true ∧ ((decide (List.length (o ++ [(43 : UInt8)]) + List.length (Str.s y0 ++ s) ≤ 1099511627776)) = true ∧ (G (((.tup []), ([(.box [(.pv (.str (o ++ [(43 : UInt8)] ++ (Str.s y0 ++ s))))])], [])))))) else ((decide (List.length (Str.s y0) + List.length s ≤ 1099511627776)) = true ∧ ((decide (List.length o + List.length (Str.s y0 ++ s) ≤ 1099511627776)) = true ∧ (G (((.tup []), ([(.box [(.pv (.str (o ++ (Str.s y0 ++ s))))])], [])))))) else ((decide (List.length (Str.s y0) + List.length s ≤ 1099511627776)) = true ∧ ((decide (List.length o + List.length (Str.s y0 ++ s) ≤ 1099511627776)) = true ∧ (G (((.tup []), ([(.box [(.pv (.str (o ++ (Str.s y0 ++ s))))])], [])))))))) else (if (decide (n ≥ 0)) = true then if (!o == []) = true then (decide (List.length o + List.length [(43 : UInt8)] ≤ 1099511627776)) = true ∧ ((decide (List.length (Str.s y0) + List.length s ≤ 1099511627776)) = true ∧ ((decide (List.length (o ++ [(43 : UInt8)]) + List.length (Str.s y0 ++ s) ≤ 1099511627776)) = true ∧ (G (((.tup []), ([(.box [(.pv (.str (o ++ [(43 : UInt8)] ++ (Str.s y0 ++ s))))])], [])))))) else ((decide (List.length (Str.s y0) + List.length s ≤ 1099511627776)) = true ∧ ((decide (List.length o + List.length (Str.s y0 ++ s) ≤ 1099511627776)) = true ∧ (G (((.tup []), ([(.box [(.pv (.str (o ++ (Str.s y0 ++ s))))])], [])))))) else ((decide (List.length (Str.s y0) + List.length s ≤ 1099511627776)) = true ∧ ((decide (List.length o + List.length (Str.s y0 ++ s) ≤ 1099511627776)) = true ∧ (G (((.tup []), ([(.box [(.pv (.str (o ++ (Str.s y0 ++ s))))])], [])))))))))) : Gets T_part 1 (endO' 1 rs_part G) ic_part [] (st0O 33 [.pv (enc n), .pv (.str s), .ptr 0 0] [.box [.pv (.str o)]]) := Gets.to (.req (.abs (Str) (fun YY => AV.pv (enc YY)) (.lit (.ask (.lit (.lit (.lit (.ask (.lit (.lit (.lit (.lit (.lit (.req (.abs (Str) (fun YY => AV.pv (enc YY)) (.lit (.ask (.lit (.lit (.lit (.ask (.req (.req (.req (.nil)))) (.req (.req (.nil))))))) (.lit (.lit (.lit (.req (.req (.nil))))))))))))))) (.lit (.lit (.lit (.lit (.lit (.ask (.req (.abs (Str) (fun YY => AV.pv (enc YY)) (.lit (.ask (.lit (.lit (.lit (.ask (.req (.req (.req (.nil)))) (.req (.req (.nil))))))) (.lit (.lit (.lit (.req (.req (.nil)))))))))) (.lit (.ask (.lit (.lit (.lit (.ask (.req (.req (.req (.nil)))) (.req (.req (.nil))))))) (.lit (.lit (.lit (.req (.req (.nil)))))))))))))))))) (.lit (.lit (.lit (.lit (.lit (.lit (.ask (.lit (.lit (.lit (.ask (.req (.req (.req (.nil)))) (.req (.req (.nil))))))) (.lit (.lit (.lit (.req (.req (.nil))))))))))))))))) h (by kernel_rfl)
def ic_lprint : IC := (.seq (.reg [⟨(some 1), (.box 2 (.t 0)), 0, none⟩, ⟨(some 2), (.mv (.c (.str []))), 1, none⟩] none) (.seq (.seq (.reg [⟨(some 7), (.load true [(.int .i64), (.sl 2)] (.t 1)), 0, none⟩, ⟨(some 8), (.call (.c (.fn 67)) [(.t 7)]), 0, none⟩, ⟨(some 9), (.un .not (.t 8)), 2, none⟩] none) (.cond (.t 9) (.seq (.reg [⟨(some 2), (.mv (.c (.str []))), 0, none⟩] none) .ret) .skip)) (.seq (.reg [⟨(some 3), (.alloc (.str [])), 0, none⟩, ⟨none, (.store 1 (.t 3) (.c (.str []))), 1, none⟩] none) (.seq (.reg [⟨(some 10), (.mkfn 78 [] [(.t 3)]), 0, none⟩, ⟨(some 4), (.mv (.t 10)), 0, none⟩] none) (.seq (.seq (.reg [⟨(some 11), (.faddr 1 (.t 1)), 0, none⟩, ⟨(some 12), (.load false [(.sl 2)] (.t 11)), 0, none⟩, ⟨(some 13), (.len 1 (.t 12)), 0, none⟩, ⟨(some 14), (.mv (.c (.int .i64 0))), 0, none⟩] none) (.block 0 (.loop [14, 13, 12, 4, 1, 3] (.seq (.reg [⟨(some 15), (.bin .num .lss (.t 14) (.t 13)), 0, none⟩] none) (.seq (.cond (.t 15) .skip (.exit 0)) (.seq (.block 1 (.seq (.reg [⟨(some 16), (.iaddr 2 (.t 12) (.t 14)), 0, none⟩, ⟨(some 17), (.load true [.str, (.int .i64)] (.t 16)), 0, none⟩, ⟨(some 6), (.alloc (.agg [(.str []), (.int .i64 0)])), 0, none⟩, ⟨none, (.store 2 (.t 6) (.t 17)), 1, none⟩] none) (.reg [⟨(some 18), (.mv (.t 4)), 0, none⟩, ⟨(some 19), (.faddr 1 (.t 6)), 0, none⟩, ⟨(some 20), (.load false [(.int .i64)] (.t 19)), 0, none⟩, ⟨(some 21), (.faddr 0 (.t 6)), 0, none⟩, ⟨(some 22), (.load false [.str] (.t 21)), 0, none⟩, ⟨(some 23), (.call (.t 18) [(.t 20), (.t 22)]), 0, none⟩] none))) (.reg [⟨(some 24), (.bin .num .add (.t 14) (.c (.int .i64 1))), 0, none⟩, ⟨(some 14), (.mv (.t 24)), 0, none⟩] none))))))) (.seq (.seq (.reg [⟨(some 25), (.faddr 0 (.t 1)), 0, none⟩, ⟨(some 26), (.load false [(.int .i64)] (.t 25)), 0, none⟩, ⟨(some 27), (.bin .num .neq (.t 26) (.c (.int .i64 0))), 0, none⟩, ⟨(some 28), (.mv (.t 27)), 0, none⟩, ⟨(some 29), (.load false [.str] (.t 3)), 0, (some (28, false))⟩, ⟨(some 30), (.bin .num .eql (.t 29) (.c (.str []))), 0, (some (28, false))⟩, ⟨(some 31), (.pick (.t 28) (.c (.bool true)) (.t 30)), 0, none⟩] none) (.cond (.t 31) (.reg [⟨(some 32), (.mv (.t 4)), 0, none⟩, ⟨(some 33), (.faddr 0 (.t 1)), 0, none⟩, ⟨(some 34), (.load false [(.int .i64)] (.t 33)), 0, none⟩, ⟨(some 35), (.call (.t 32) [(.t 34), (.c (.str []))]), 0, none⟩] none) .skip)) (.seq (.reg [⟨(some 36), (.load false [.str] (.t 3)), 0, none⟩, ⟨(some 2), (.mv (.t 36)), 0, none⟩] none) .ret)))))))
def rs_lprint : List IRes := [(.tmp 2)]
abbrev nt_lprint : Nat := 37
def T_lprint : Tab := tab [(67, .pure (preT (fun x : Lin × Unit => linSm x.1)) (valT (fun x : Lin × Unit => validL x.1))), (78, .own pre_part val_part)]
theorem lprint_s {G : PV → Prop} (l : Lin) (h : (Go.Pl.preT (fun (x : Lin × Unit) => linSm x.1) [(.agg [(.int .i64 l.k), (.sl 2 false (List.map enc l.t))])]) = true ∧ (∃ y0 : Bool, AV.pv (valT (fun (x : Lin × Unit) => validL x.1) [(.agg [(.int .i64 l.k), (.sl 2 false (List.map enc l.t))])]) = AV.pv (enc y0) ∧ (if (!y0) = true then G ((.str [])) else (At T_lprint 0 (endP' rs_lprint G) ic_lprint 0 37 [(1, (.ptr 0 0)), (3, (.ptr 1 0)), (4, (.fn 78 [] [(.ptr 1 0)])), (12, (.pv (.sl 2 false (List.map enc l.t)))), (13, (.pv (.int .i64 (↑(List.length (List.map enc l.t)) : Int)))), (14, (.pv (.int .i64 0)))] [(.obj (.box [(.pv (.int .i64 l.k)), (.pv (.sl 2 false (List.map enc l.t)))])), (.obj (.box [(.pv (.str []))]))])))) : Gets T_lprint 0 (endP' rs_lprint G) ic_lprint [] (st0 37 [enc l]) := Gets.tp (.req (.abs (Bool) (fun YY => AV.pv (enc YY)) (.ask (.nil) (.nil)))) h (by kernel_rfl)
theorem lprint_h0 {G : PV → Prop} (l : Lin) (o : List UInt8) (i : Int) (h : if (decide (i < (↑(List.length l.t) : Int))) = true then (decide (0 ≤ i) && decide (Int.toNat i < List.length (List.map enc l.t)) && Enc.sz Coef == 2) = true ∧ (∃ y0 : Coef, AV.pv (PV.rptr (PV.cells (List.getD (List.map enc l.t) (Int.toNat i) default))) = AV.pv (PV.rptr (PV.cells ((enc) y0))) ∧ ((pre_part [(.pv (.int .i64 (PV.asInt (List.getD (PV.cells (enc y0)) (0 + 1) default)))), (.pv (.str (PV.asStr (List.getD (PV.cells (enc y0)) 0 default)))), (.ptr 0 0)] [(.box [(.pv (.str o))])]) = true ∧ (At T_lprint 0 (endP' rs_lprint G) ic_lprint 0 37 [(1, (.ptr 0 0)), (3, (.ptr 1 0)), (4, (.fn 78 [] [(.ptr 1 0)])), (12, (.pv (.sl 2 false (List.map enc l.t)))), (13, (.pv (.int .i64 (↑(List.length l.t) : Int)))), (14, (.pv (.int .i64 (IntKind.wrap IntKind.i64 (i + 1)))))] [(.obj (.box [(.pv (.int .i64 l.k)), (.pv (.sl 2 false (List.map enc l.t)))])), (.obj (.box [(.pv (.str (partS o (PV.asInt (List.getD (PV.cells (enc y0)) (0 + 1) default)) (PV.asStr (List.getD (PV.cells (enc y0)) 0 default)))))]))]))) else (if (l.k != 0) = true then (pre_part [(.pv (.int .i64 l.k)), (.pv (.str [])), (.ptr 0 0)] [(.box [(.pv (.str o))])]) = true ∧ (G ((.str (partS o l.k [])))) else (if (o == []) = true then (pre_part [(.pv (.int .i64 l.k)), (.pv (.str [])), (.ptr 0 0)] [(.box [(.pv (.str o))])]) = true ∧ (G ((.str (partS o l.k [])))) else (G ((.str o)))))) : At T_lprint 0 (endP' rs_lprint G) ic_lprint 0 37 [(1, .ptr 0 0), (3, .ptr 1 0), (4, .fn 78 [] [.ptr 1 0]), (12, .pv (enc l.t)), (13, .pv (.int .i64 l.t.length)), (14, .pv (.int .i64 i))] [.obj (.box [.pv (.int .i64 l.k), .pv (enc l.t)]), .obj (.box [.pv (.str o)])] := At.tp (.lit (.ask (.req (.abs (Coef) (fun YY => AV.pv (PV.rptr (PV.cells ((enc) YY)))) (.lit (.req (.keep (.lit (.nil))))))) (.lit (.ask (.lit (.lit (.lit (.req (.keep (.nil)))))) (.lit (.lit (.lit (.ask (.req (.keep (.nil))) (.nil))))))))) h (by kernel_rfl)
end Go.Pl

namespace Go.Pl
open Go.RowKit
open Enc (enc dec is)
open EncL (encL decL isL)
theorem lorder_run : ∀ a : Int × Int × Unit, true = true → Gets T_lorder 0 (endP' rs_lorder (Fits (cmpK a.1 a.2.1))) ic_lorder [] (st0 nt_lorder (encL a)) := by
  rintro ⟨a, b, ⟨⟩⟩ -
  show Gets T_lorder 0 (endP' rs_lorder (Fits (cmpK a b))) _ _ _
  refine lorder_s a b (iteD (fun h => ?_) fun h => iteD (fun k => ?_) fun k => ?_)
  · exact fitI (by simp [cmpK, h])
  · exact fitI (by simp [cmpK, h, k])
  · exact fitI (by simp [cmpK, h, k])
theorem lcmp1_run : ∀ a : Coef × Coef × Unit, true = true → Gets T_lcmp1 0 (endP' rs_lcmp1 (Fits (cmpC a.1 a.2.1))) ic_lcmp1 [] (st0 nt_lcmp1 (encL a)) := by
  rintro ⟨x, y, ⟨⟩⟩ -
  show Gets T_lcmp1 0 (endP' rs_lcmp1 (Fits (cmpC x y))) _ _ _
  unfold cmpC
  refine lcmp1_s x y (ex_enc (x.v, y.v, ()) rfl (iteC (fun h => ?_) fun h => ex_enc (x.c, y.c, ()) rfl ?_))
  · have h : Lib.compareBytes x.v.s y.v.s ≠ 0 := by simpa using h
    rw [if_pos h]
    exact fitI rfl
  · have h : ¬ Lib.compareBytes x.v.s y.v.s ≠ 0 := by simpa using h
    rw [if_neg h]
    exact fitI rfl
theorem coef_arg (t : Coef) : (PV.agg [.str (PV.asStr (List.getD (PV.cells (enc t)) 0 default)), .int .i64 (PV.asInt (List.getD (PV.cells (enc t)) (0 + 1) default))]) = enc t := rfl
theorem lcmpf_loop (a b : List Coef) (ha : a.length ≤ 9223372036854775807) : ∀ (m i : Nat), m + i = a.length → i ≤ b.length →
    At T_lcmpf 0 (endP' rs_lcmpf (Fits (cmpCs (a.drop i) (b.drop i)))) ic_lcmpf 0 39 [(0, .pv (enc a)), (1, .pv (enc b)), (2, .pv (.fn 93)), (11, .pv (enc a)), (12, .pv (.int .i64 a.length)), (13, .pv (.int .i64 i))] [] := by
  intro m
  induction m with
  | zero =>
    intro i hi hb
    have ea : a.drop i = [] := List.drop_of_length_le (by omega)
    rw [ea]
    refine lcmpf_h0 a b i (iteF (lt_no' (by omega)) (iteD (fun h => ?_) fun h => ?_))
    · have h : a.length < b.length := by simpa using h
      have : b.drop i = b[i] :: b.drop (i + 1) := List.drop_eq_getElem_cons (by omega)
      rw [this]
      exact fitI (by rw [cmpCs])
    · have h : ¬ a.length < b.length := by simpa using h
      have : b.drop i = [] := List.drop_of_length_le (by omega)
      rw [this]
      exact fitI (by rw [cmpCs])
  | succ m ih =>
    intro i hi hb
    have hlt : i < a.length := by omega
    have ea : a.drop i = a[i] :: a.drop (i + 1) := List.drop_eq_getElem_cons hlt
    rw [ea]
    refine lcmpf_h0 a b i (iteT (lt_ok' hlt) ⟨idx_ok hlt rfl, el_ex hlt (iteD (fun h => ?_) fun h => ?_)⟩)
    · have h : b.length ≤ i := by
        have : (i : Int) ≥ ((List.map (enc : Coef → PV) b).length : Int) := h
        rw [List.length_map] at this
        omega
      have : b.drop i = [] := List.drop_of_length_le h
      rw [this]
      exact fitI (by rw [cmpCs])
    · have h : i < b.length := by
        have : ¬ (i : Int) ≥ ((List.map (enc : Coef → PV) b).length : Int) := h
        rw [List.length_map] at this
        omega
      have eb : b.drop i = b[i] :: b.drop (i + 1) := List.drop_eq_getElem_cons h
      rw [eb]
      refine ⟨idx_ok h rfl, el_ex h ?_⟩
      rw [coef_arg, coef_arg]
      refine ex_enc (a[i], b[i], ()) rfl (iteC (fun hc => ?_) fun hc => ?_)
      · have hc : cmpC a[i] b[i] ≠ 0 := by simpa using hc
        exact fitI (by rw [cmpCs, if_pos hc])
      · have hc : ¬ cmpC a[i] b[i] ≠ 0 := by simpa using hc
        have e : cmpCs (a[i] :: a.drop (i + 1)) (b[i] :: b.drop (i + 1)) = cmpCs (a.drop (i + 1)) (b.drop (i + 1)) := by rw [cmpCs, if_neg hc]
        rw [e, next (by omega)]
        exact ih (i + 1) (by omega) (by omega)
theorem lcmpf_run : ∀ a : List Coef × List Coef × FnV 93 × Unit, (decide (a.1.length ≤ 9223372036854775807) && decide (a.2.1.length ≤ 9223372036854775807)) = true → Gets T_lcmpf 0 (endP' rs_lcmpf (Fits (cmpCs a.1 a.2.1))) ic_lcmpf [] (st0 nt_lcmpf (encL a)) := by
  rintro ⟨a, b, g, ⟨⟩⟩ h
  simp only [Bool.and_eq_true, decide_eq_true_eq] at h
  refine lcmpf_s a b ?_
  rw [List.length_map]
  exact lcmpf_loop a b h.1 a.length 0 (by omega) (by omega)
theorem lcmp_run : ∀ a : Lin × Lin × Unit, (linOk a.1 && linOk a.2.1) = true → Gets T_lcmp 0 (endP' rs_lcmp (Fits (cmpLin a.1 a.2.1))) ic_lcmp [] (st0 nt_lcmp (encL a)) := by
  rintro ⟨a, b, ⟨⟩⟩ h
  show Gets T_lcmp 0 (endP' rs_lcmp (Fits (cmpLin a b))) _ _ _
  unfold cmpLin
  refine lcmp_s a b ⟨pre_enc (a.t, b.t, ({} : FnV 93), ()) rfl h, ex_enc (a.t, b.t, ({} : FnV 93), ()) rfl (iteC (fun hc => ?_) fun hc => ex_enc (a.k, b.k, ()) rfl ?_)⟩
  · have hc : cmpCs a.t b.t ≠ 0 := by simpa using hc
    rw [if_pos hc]
    exact fitI rfl
  · have hc : ¬ cmpCs a.t b.t ≠ 0 := by simpa using hc
    rw [if_neg hc]
    exact fitI rfl
theorem leq_run : ∀ a : Lin × Lin × Unit, (linOk a.1 && linOk a.2.1) = true → Gets T_leq 0 (endP' rs_leq (Fits (cmpLin a.1 a.2.1 == 0))) ic_leq [] (st0 nt_leq (encL a)) := by
  rintro ⟨a, b, ⟨⟩⟩ h
  exact leq_s a b ⟨pre_enc (a, b, ()) rfl h, ex_enc (a, b, ()) rfl (fitB rfl)⟩
theorem trim_len (s p : List UInt8) : (Lib.trimSuffix s p).length ≤ s.length := by
  unfold Lib.trimSuffix
  split
  · rw [List.length_take]; omega
  · exact Nat.le_refl _
theorem part_run : ∀ args os, pre_part args os = true → Gets T_part os.length (endO' os.length rs_part fun r => r = val_part args os) ic_part [] (st0O nt_part args os) := by
  intro args os h
  unfold pre_part at h
  split at h
  · rename_i n s o
    simp only [Bool.and_eq_true, decide_eq_true_eq] at h
    obtain ⟨⟨⟨n1, n2⟩, hs⟩, ho⟩ := h
    have ev : val_part [.pv (.int .i64 n), .pv (.str s), .ptr 0 0] [.box [.pv (.str o)]] = (.tup [], [.box [.pv (.str (partS o n s))]], []) := rfl
    rw [ev]
    have hi := Lib.itoa_length_le n n1 n2
    have hi : (itoaS n).s.length ≤ 21 := hi
    have ht := trim_len (itoaS n).s [49]
    have fin : ∀ (b : Bool) (x : List UInt8), x.length ≤ 21 → (decide (s ≠ []) && (decide (n = 1) || decide (n = -1))) = b → x = (if b then Lib.trimSuffix (itoaS n).s [49] else (itoaS n).s) →
        (if decide (n ≥ 0) = true then (if (!o == []) = true then (decide (o.length + List.length [(43 : UInt8)] ≤ 1099511627776) = true ∧ (decide (x.length + s.length ≤ 1099511627776) = true ∧ (decide (List.length (o ++ [(43 : UInt8)]) + List.length (x ++ s) ≤ 1099511627776) = true ∧ ((AV.tup [], [AObj.box [.pv (.str (o ++ [(43 : UInt8)] ++ (x ++ s)))]], ([] : List AObj)) = (.tup [], [.box [.pv (.str (partS o n s))]], [])))))
          else (decide (x.length + s.length ≤ 1099511627776) = true ∧ (decide (o.length + List.length (x ++ s) ≤ 1099511627776) = true ∧ ((AV.tup [], [AObj.box [.pv (.str (o ++ (x ++ s)))]], ([] : List AObj)) = (.tup [], [.box [.pv (.str (partS o n s))]], [])))))
        else (decide (x.length + s.length ≤ 1099511627776) = true ∧ (decide (o.length + List.length (x ++ s) ≤ 1099511627776) = true ∧ ((AV.tup [], [AObj.box [.pv (.str (o ++ (x ++ s)))]], ([] : List AObj)) = (.tup [], [.box [.pv (.str (partS o n s))]], []))))) := by
      intro b x hx hb hxe
      have hp : ∀ o2 : List UInt8, o2 = (if decide (n ≥ 0) && decide (o ≠ []) then o ++ [43] else o) → partS o n s = o2 ++ (x ++ s) := by
        intro o2 h2
        unfold partS
        rw [hb, ← h2, ← hxe]
      refine iteD (fun h0 => iteC (fun h1 => ?_) fun h1 => ?_) fun h0 => ?_
      · have h1 : o ≠ [] := by simpa using h1
        refine ⟨by simp; omega, by simp; omega, by simp; omega, ?_⟩
        rw [hp (o ++ [43]) (by simp [h0, h1])]
      · have h1 : o = [] := by simpa using h1
        refine ⟨by simp; omega, by simp; omega, ?_⟩
        rw [hp o (by simp [h1])]
      · refine ⟨by simp; omega, by simp; omega, ?_⟩
        rw [hp o (by simp [h0])]
    refine part_s n s o ⟨pre_enc (n, ()) rfl (by show (decide (-9223372036854775808 ≤ n) && decide (n ≤ 9223372036854775807)) = true; rw [decide_eq_true n1, decide_eq_true n2]; rfl), ex_enc (n, ()) rfl (iteC (fun h1 => ?_) fun h1 => ?_)⟩
    · have h1 : s ≠ [] := by simpa using h1
      have htr : decide ((itoaS n).s.length ≤ 1000000) = true := decide_eq_true (by omega)
      refine iteE (fun h2 => ?_) fun h2 => iteE (fun h3 => ?_) fun h3 => ?_
      · have h2 : n = 1 := h2
        exact ⟨pre_enc (itoaS n, (⟨[49]⟩ : Str), ()) rfl htr, ex_enc (itoaS n, (⟨[49]⟩ : Str), ()) rfl (fin true _ (by show (Lib.trimSuffix (itoaS n).s [49]).length ≤ 21; omega) (by simp [h1, h2]) rfl)⟩
      · have h3 : n = -1 := h3
        exact ⟨pre_enc (itoaS n, (⟨[49]⟩ : Str), ()) rfl htr, ex_enc (itoaS n, (⟨[49]⟩ : Str), ()) rfl (fin true _ (by show (Lib.trimSuffix (itoaS n).s [49]).length ≤ 21; omega) (by simp [h1, h3]) rfl)⟩
      · have h2 : n ≠ 1 := h2
        have h3 : n ≠ -1 := h3
        exact fin false _ hi (by simp [h2, h3]) rfl
    · have h1 : s = [] := by simpa using h1
      exact fin false _ hi (by simp [h1]) rfl
  · cases h
theorem part_len (o : List UInt8) (n : Int) (s : List UInt8) (n1 : -9223372036854775808 ≤ n) (n2 : n ≤ 9223372036854775807) : (partS o n s).length ≤ o.length + 1 + 21 + s.length := by
  have hi := Lib.itoa_length_le n n1 n2
  have hi : (itoaS n).s.length ≤ 21 := hi
  have ht := trim_len (itoaS n).s [49]
  unfold partS
  split <;> split <;> simp <;> omega
theorem lprint_loop (l : Lin) (hv : validL l = true) : ∀ (m i : Nat) (o : List UInt8), m + i = l.t.length → o.length ≤ 100 * i →
    At T_lprint 0 (endP' rs_lprint (Fits (⟨if decide (l.k ≠ 0) || decide ((l.t.drop i).foldl (fun o t => partS o t.c t.v.s) o = []) then partS ((l.t.drop i).foldl (fun o t => partS o t.c t.v.s) o) l.k [] else (l.t.drop i).foldl (fun o t => partS o t.c t.v.s) o⟩ : Str))) ic_lprint 0 37 [(1, .ptr 0 0), (3, .ptr 1 0), (4, .fn 78 [] [.ptr 1 0]), (12, .pv (enc l.t)), (13, .pv (.int .i64 l.t.length)), (14, .pv (.int .i64 i))] [.obj (.box [.pv (.int .i64 l.k), .pv (enc l.t)]), .obj (.box [.pv (.str o)])] := by
  have hlen := valid_len hv
  have hk := valid_k hv
  intro m
  induction m with
  | zero =>
    intro i o hi ho
    have ed : l.t.drop i = [] := List.drop_of_length_le (by omega)
    rw [ed, List.foldl_nil]
    have hp : pre_part [.pv (.int .i64 l.k), .pv (.str []), .ptr 0 0] [.box [.pv (.str o)]] = true := by
      simp only [pre_part, Bool.and_eq_true, decide_eq_true_eq, List.length_nil]
      exact ⟨⟨⟨by omega, by omega⟩, by omega⟩, by omega⟩
    refine lprint_h0 l o i (iteF (lt_no' (by omega)) (iteC (fun h1 => ⟨hp, ?_⟩) fun h1 => iteE (fun h2 => ⟨hp, ?_⟩) fun h2 => ?_))
    · have h1 : l.k ≠ 0 := by simpa using h1
      rw [if_pos (by simp [h1])]
      exact ⟨rfl, rfl⟩
    · have h2 : o = [] := h2
      rw [if_pos (by simp [h2])]
      exact ⟨rfl, rfl⟩
    · have h1 : l.k = 0 := by simpa using h1
      have h2 : o ≠ [] := h2
      rw [if_neg (by simp [h1, h2])]
      exact ⟨rfl, rfl⟩
  | succ m ih =>
    intro i o hi ho
    have hlt : i < l.t.length := by omega
    have ed : l.t.drop i = l.t[i] :: l.t.drop (i + 1) := List.drop_eq_getElem_cons hlt
    rw [ed, List.foldl_cons]
    obtain ⟨c0, c1, c2, c3⟩ := valid_coef hv (List.getElem_mem hlt)
    have hn := name_len c0
    have hpl := part_len o l.t[i].c l.t[i].v.s (by omega) (by omega)
    refine lprint_h0 l o i (iteT (lt_ok' hlt) ⟨idx_ok hlt rfl, el_ex hlt ⟨?_, ?_⟩⟩)
    · have hp : pre_part [.pv (.int .i64 l.t[i].c), .pv (.str l.t[i].v.s), .ptr 0 0] [.box [.pv (.str o)]] = true := by
        simp only [pre_part, Bool.and_eq_true, decide_eq_true_eq]
        exact ⟨⟨⟨by omega, by omega⟩, by omega⟩, by omega⟩
      exact hp
    · rw [next (by omega)]
      exact ih (i + 1) (partS o l.t[i].c l.t[i].v.s) (by omega) (by omega)
theorem lprint_run : ∀ a : Lin × Unit, linSm a.1 = true → Gets T_lprint 0 (endP' rs_lprint (Fits (⟨printL a.1⟩ : Str))) ic_lprint [] (st0 nt_lprint (encL a)) := by
  rintro ⟨l, ⟨⟩⟩ h
  show Gets T_lprint 0 (endP' rs_lprint (Fits (⟨printL l⟩ : Str))) _ _ _
  refine lprint_s l ⟨pre_enc (l, ()) rfl h, ex_enc (l, ()) rfl (iteN (fun hv => ?_) fun hv => ?_)⟩
  · have hv : validL l = false := hv
    unfold printL
    rw [hv]
    exact ⟨rfl, rfl⟩
  · have hv : validL l = true := hv
    unfold printL
    rw [hv, if_pos rfl, List.length_map]
    exact lprint_loop l hv l.t.length 0 [] (by omega) (by simp)
end Go.Pl

namespace Go.Pl
open Go.RowKit
open Enc (enc dec is)
open EncL (encL decL isL)
set_option maxRecDepth 100000
def ic_sub1 : IC := (.seq (.reg [⟨(some 2), (.box 7 (.t 0)), 0, none⟩, ⟨(some 3), (.mv (.c (.bool false))), 1, none⟩] none) (.seq (.reg [⟨(some 4), (.faddr 0 (.t 2)), 0, none⟩, ⟨(some 5), (.load false [(.int .i64)] (.t 4)), 0, none⟩, ⟨(some 6), (.bin .num .eql (.t 5) (.c (.int .i64 1))), 0, none⟩, ⟨(some 7), (.mv (.t 6)), 0, none⟩, ⟨(some 8), (.faddr 1 (.t 2)), 0, (some (7, true))⟩, ⟨(some 9), (.load false [.str] (.t 8)), 0, (some (7, true))⟩, ⟨(some 10), (.faddr 0 (.t 1)), 0, (some (7, true))⟩, ⟨(some 11), (.load false [.str] (.t 10)), 0, (some (7, true))⟩, ⟨(some 12), (.bin .num .eql (.t 9) (.t 11)), 0, (some (7, true))⟩, ⟨(some 13), (.pick (.t 7) (.t 12) (.c (.bool false))), 0, none⟩, ⟨(some 3), (.mv (.t 13)), 0, none⟩] none) .ret))
def rs_sub1 : List IRes := [(.tmp 3)]
abbrev nt_sub1 : Nat := 14
def T_sub1 : Tab := tab []
theorem sub1_s {G : AV × List AObj × List AObj → Prop} (x : Bnd) (v : List UInt8) (c : Int) (h : if (Bnd.kind x == 1) = true then G (((.pv (.bool (Str.s (Bnd.v x) == v))), ([(.box [(.pv (.str v)), (.pv (.int .i64 c))])], []))) else (G (((.pv (.bool false)), ([(.box [(.pv (.str v)), (.pv (.int .i64 c))])], []))))) : Gets T_sub1 1 (endO' 1 rs_sub1 G) ic_sub1 [] (st0O 14 [.pv (enc x), .ptr 0 0] [.box [.pv (.str v), .pv (.int .i64 c)]]) := Gets.to (.lit (.ask (.lit (.lit (.lit (.lit (.lit (.lit (.nil))))))) (.lit (.lit (.lit (.lit (.lit (.nil)))))))) h (by kernel_rfl)
def ic_ixs : IC := (.seq (.reg [⟨(some 4), (.mv (.c (.int .i64 0))), 0, none⟩] none) (.seq (.seq (.reg [⟨(some 6), (.mv (.t 0)), 0, none⟩, ⟨(some 7), (.len 1 (.t 6)), 0, none⟩, ⟨(some 8), (.mv (.c (.int .i64 0))), 0, none⟩] none) (.block 0 (.loop [8, 7, 1, 0] (.seq (.reg [⟨(some 9), (.bin .num .lss (.t 8) (.t 7)), 0, none⟩] none) (.seq (.cond (.t 9) .skip (.exit 0)) (.seq (.block 1 (.seq (.reg [⟨(some 10), (.mv (.t 8)), 0, none⟩, ⟨(some 5), (.mv (.t 10)), 0, none⟩] none) (.seq (.reg [⟨(some 11), (.mv (.t 1)), 0, none⟩, ⟨(some 12), (.mv (.t 0)), 0, none⟩, ⟨(some 13), (.mv (.t 5)), 0, none⟩, ⟨(some 14), (.iaddr 7 (.t 12) (.t 13)), 0, none⟩, ⟨(some 15), (.load true [(.int .i64), .str, (.int .i64), (.sl 2), .str, (.sl 2), .str] (.t 14)), 0, none⟩, ⟨(some 16), (.call (.t 11) [(.t 15)]), 0, none⟩] none) (.cond (.t 16) (.seq (.reg [⟨(some 17), (.mv (.t 5)), 0, none⟩, ⟨(some 4), (.mv (.t 17)), 0, none⟩] none) .ret) .skip)))) (.reg [⟨(some 18), (.bin .num .add (.t 8) (.c (.int .i64 1))), 0, none⟩, ⟨(some 8), (.mv (.t 18)), 0, none⟩] none))))))) (.seq (.reg [⟨(some 4), (.mv (.c (.int .i64 (-1)))), 0, none⟩] none) .ret)))
def rs_ixs : List IRes := [(.tmp 4)]
abbrev nt_ixs : Nat := 19
def T_ixs : Tab := tab [(107, .own pre_s1 val_s1)]
theorem ixs_s {G : AV × List AObj × List AObj → Prop} (l : List Bnd) (v : List UInt8) (c : Int) (h : At T_ixs 1 (endO' 1 rs_ixs G) ic_ixs 0 19 [(0, (.pv (.sl 7 false (List.map enc l)))), (1, (.fn 107 [] [(.ptr 0 0)])), (7, (.pv (.int .i64 (↑(List.length (List.map enc l)) : Int)))), (8, (.pv (.int .i64 0)))] [(.obj (.box [(.pv (.str v)), (.pv (.int .i64 c))]))]) : Gets T_ixs 1 (endO' 1 rs_ixs G) ic_ixs [] (st0O 19 [.pv (enc l), .fn 107 [] [.ptr 0 0]] [.box [.pv (.str v), .pv (.int .i64 c)]]) := Gets.to (.nil) h (by kernel_rfl)
theorem ixs_h0 {G : AV × List AObj × List AObj → Prop} (l : List Bnd) (v : List UInt8) (c : Int) (i : Int) (h : if (decide (i < (↑(List.length l) : Int))) = true then (decide (0 ≤ i) && decide (Int.toNat i < List.length (List.map enc l)) && Enc.sz Bnd == 7) = true ∧ (∃ y0 : Bnd, AV.pv (PV.rptr (PV.cells (List.getD (List.map enc l) (Int.toNat i) default))) = AV.pv (PV.rptr (PV.cells ((enc) y0))) ∧ ((pre_s1 [(.pv (.agg [(.int .i64 (PV.asInt (List.getD (PV.cells (enc y0)) 0 default))), (.str (PV.asStr (List.getD (PV.cells (enc y0)) (0 + 1) default))), (.int .i64 (PV.asInt (List.getD (PV.cells (enc y0)) (0 + 1 + 1) default))), (.sl 2 false (PV.asXs (List.getD (PV.cells (enc y0)) (0 + 1 + 1 + 1) default))), (.str (PV.asStr (List.getD (PV.cells (enc y0)) (0 + 1 + 1 + 1 + 1) default))), (.sl 2 false (PV.asXs (List.getD (PV.cells (enc y0)) (0 + 1 + 1 + 1 + 1 + 1) default))), (.str (PV.asStr (List.getD (PV.cells (enc y0)) (0 + 1 + 1 + 1 + 1 + 1 + 1) default)))])), (.ptr 0 0)] [(.box [(.pv (.str v)), (.pv (.int .i64 c))])]) = true ∧ (if (bndB v (dec (PV.agg (shAll (PV.cells (enc y0)) 0 [Sh.int .i64, Sh.str, Sh.int .i64, Sh.sl 2, Sh.str, Sh.sl 2, Sh.str])))) = true then G (((.pv (.int .i64 i)), ([(.box [(.pv (.str v)), (.pv (.int .i64 c))])], []))) else (At T_ixs 1 (endO' 1 rs_ixs G) ic_ixs 0 19 [(0, (.pv (.sl 7 false (List.map enc l)))), (1, (.fn 107 [] [(.ptr 0 0)])), (7, (.pv (.int .i64 (↑(List.length l) : Int)))), (8, (.pv (.int .i64 (IntKind.wrap IntKind.i64 (i + 1)))))] [(.obj (.box [(.pv (.str v)), (.pv (.int .i64 c))]))])))) else (G (((.pv (.int .i64 (-1))), ([(.box [(.pv (.str v)), (.pv (.int .i64 c))])], []))))) : At T_ixs 1 (endO' 1 rs_ixs G) ic_ixs 0 19 [(0, .pv (enc l)), (1, .fn 107 [] [.ptr 0 0]), (7, .pv (.int .i64 l.length)), (8, .pv (.int .i64 i))] [.obj (.box [.pv (.str v), .pv (.int .i64 c)])] := At.to (.lit (.ask (.req (.abs (Bnd) (fun YY => AV.pv (PV.rptr (PV.cells ((enc) YY)))) (.lit (.req (.keep (.ask (.nil) (.lit (.nil)))))))) (.nil))) h (by kernel_rfl)
def ic_subst : IC := (.seq (.reg [⟨(some 2), (.box 2 (.t 0)), 0, none⟩, ⟨(some 4), (.alloc (.agg [(.int .i64 0), (.sl 0 true [])])), 1, none⟩, ⟨(some 5), (.mv (.c (.int .i64 0))), 2, none⟩] none) (.seq (.seq (.reg [⟨(some 10), (.load true [(.int .i64), (.sl 2)] (.t 2)), 0, none⟩, ⟨(some 11), (.call (.c (.fn 67)) [(.t 10)]), 0, none⟩, ⟨(some 12), (.un .not (.t 11)), 2, none⟩] none) (.cond (.t 12) (.seq (.reg [⟨(some 13), (.build [(.int .i64 0), (.sl 0 true [])] []), 0, none⟩, ⟨none, (.store 2 (.t 4) (.t 13)), 0, none⟩, ⟨(some 5), (.mv (.c (.int .i64 1))), 0, none⟩] none) .ret) .skip)) (.seq (.reg [⟨(some 14), (.faddr 0 (.t 2)), 0, none⟩, ⟨(some 15), (.load false [(.int .i64)] (.t 14)), 0, none⟩, ⟨(some 16), .mkmap, 0, none⟩, ⟨(some 17), (.build [(.int .i64 0), .nilmap] [(0, (1, (.t 15))), (1, (1, (.t 16)))]), 1, none⟩, ⟨(some 6), (.alloc (.agg [(.int .i64 0), .nilmap])), 1, none⟩, ⟨none, (.store 2 (.t 6) (.t 17)), 2, none⟩] none) (.seq (.seq (.reg [⟨(some 18), (.faddr 1 (.t 2)), 0, none⟩, ⟨(some 19), (.load false [(.sl 2)] (.t 18)), 0, none⟩, ⟨(some 20), (.len 1 (.t 19)), 0, none⟩, ⟨(some 21), (.mv (.c (.int .i64 0))), 0, none⟩] none) (.block 0 (.loop [21, 20, 19, 1, 6, 4] (.seq (.reg [⟨(some 22), (.bin .num .lss (.t 21) (.t 20)), 0, none⟩] none) (.seq (.cond (.t 22) .skip (.exit 0)) (.seq (.block 1 (.seq (.reg [⟨(some 23), (.iaddr 2 (.t 19) (.t 21)), 0, none⟩, ⟨(some 24), (.load true [.str, (.int .i64)] (.t 23)), 0, none⟩, ⟨(some 8), (.alloc (.agg [(.str []), (.int .i64 0)])), 0, none⟩, ⟨none, (.store 2 (.t 8) (.t 24)), 1, none⟩] none) (.seq (.reg [⟨(some 25), (.mv (.t 1)), 0, none⟩, ⟨(some 26), (.mkfn 107 [] [(.t 8)]), 0, none⟩, ⟨(some 27), (.call (.c (.fn 106)) [(.t 25), (.t 26)]), 0, none⟩, ⟨(some 9), (.mv (.t 27)), 2, none⟩] none) (.block 2 (.seq (.reg [⟨(some 37), (.mv (.t 9)), 0, none⟩, ⟨(some 38), (.bin .num .lss (.t 37) (.c (.int .i64 0))), 0, none⟩, ⟨(some 36), (.mv (.t 38)), 0, none⟩] none) (.cond (.t 36) (.reg [⟨(some 39), (.faddr 1 (.t 6)), 0, none⟩, ⟨(some 40), (.load false [.any] (.t 39)), 0, none⟩, ⟨(some 41), (.faddr 0 (.t 8)), 0, none⟩, ⟨(some 42), (.load false [.str] (.t 41)), 0, none⟩, ⟨(some 43), (.lookup true (.int .i64) (.int .i64 0) false (.t 40) (.t 42)), 0, none⟩, ⟨(some 44), (.faddr 1 (.t 8)), 0, none⟩, ⟨(some 45), (.load false [(.int .i64)] (.t 44)), 0, none⟩, ⟨(some 46), (.bin .num .add (.t 43) (.t 45)), 0, none⟩, ⟨none, (.mapupd true (.t 40) (.t 42) (.t 46)), 0, none⟩] none) (.seq (.reg [⟨(some 48), (.mv (.t 1)), 0, none⟩, ⟨(some 49), (.mv (.t 9)), 0, none⟩, ⟨(some 50), (.iaddr 7 (.t 48) (.t 49)), 0, none⟩, ⟨(some 51), (.faddr 2 (.t 50)), 0, none⟩, ⟨(some 52), (.load true [(.int .i64), (.sl 2)] (.t 51)), 0, none⟩, ⟨(some 53), (.call (.c (.fn 67)) [(.t 52)]), 0, none⟩, ⟨(some 54), (.un .not (.t 53)), 2, none⟩, ⟨(some 47), (.mv (.t 54)), 2, none⟩] none) (.cond (.t 47) (.seq (.reg [⟨(some 55), (.build [(.int .i64 0), (.sl 0 true [])] []), 0, none⟩, ⟨none, (.store 2 (.t 4) (.t 55)), 0, none⟩, ⟨(some 5), (.mv (.c (.int .i64 1))), 0, none⟩] none) .ret) (.reg [⟨(some 28), (.mv (.t 1)), 0, none⟩, ⟨(some 29), (.mv (.t 9)), 0, none⟩, ⟨(some 30), (.iaddr 7 (.t 28) (.t 29)), 0, none⟩, ⟨(some 31), (.faddr 2 (.t 30)), 0, none⟩, ⟨(some 32), (.load true [(.int .i64), (.sl 2)] (.t 31)), 0, none⟩, ⟨(some 33), (.faddr 1 (.t 8)), 0, none⟩, ⟨(some 34), (.load false [(.int .i64)] (.t 33)), 0, none⟩, ⟨(some 35), (.call (.c (.fn 108)) [(.t 6), (.t 32), (.t 34)]), 0, none⟩] (some [[], [], [0, 1], [2, 0, 1], [3, 2, 0, 1], [], [5], [4, 6, 3, 2, 0, 1, 5]])))))))))) (.reg [⟨(some 56), (.bin .num .add (.t 21) (.c (.int .i64 1))), 0, none⟩, ⟨(some 21), (.mv (.t 56)), 0, none⟩] none))))))) (.seq (.reg [⟨(some 57), (.call (.c (.fn 85)) [(.t 6)]), 0, none⟩, ⟨(some 58), (.extract (.t 57) 0), 2, none⟩, ⟨(some 59), (.extract (.t 57) 1), 2, none⟩, ⟨none, (.store 2 (.t 4) (.t 58)), 2, none⟩, ⟨(some 5), (.mv (.t 59)), 2, none⟩] none) .ret)))))
def rs_subst : List IRes := [(.cell true 2 4), (.tmp 5)]
abbrev nt_subst : Nat := 60
def T_subst : Tab := tab [(67, .pure (preT (fun x : Lin × Unit => linSm x.1)) (valT (fun x : Lin × Unit => validL x.1))), (106, .own (pre_ixS 107) val_ixS), (108, .own pre_add val_add), (85, .own pre_res val_res)]
theorem subst_s {G : PV → Prop} (l : Lin) (bs : List Bnd) (h : (Go.Pl.preT (fun (x : Lin × Unit) => linSm x.1) [(.agg [(.int .i64 l.k), (.sl 2 false (List.map enc l.t))])]) = true ∧ (∃ y0 : Bool, AV.pv (valT (fun (x : Lin × Unit) => validL x.1) [(.agg [(.int .i64 l.k), (.sl 2 false (List.map enc l.t))])]) = AV.pv (enc y0) ∧ (if (!y0) = true then G ((.tup [(.agg [(.int .i64 0), (.sl 0 true [])]), (.int .i64 1)])) else (At T_subst 0 (endP' rs_subst G) ic_subst 0 60 [(1, (.pv (.sl 7 false (List.map enc bs)))), (4, (.ptr 0 0)), (6, (.ptr 1 0)), (19, (.pv (.sl 2 false (List.map enc l.t)))), (20, (.pv (.int .i64 (↑(List.length (List.map enc l.t)) : Int)))), (21, (.pv (.int .i64 0)))] [(.obj (.box [(.pv (.int .i64 0)), (.pv (.sl 0 true []))])), (.obj (.box [(.pv (.int .i64 l.k)), (.map 2)])), (.obj (.map []))])))) : Gets T_subst 0 (endP' rs_subst G) ic_subst [] (st0 60 [enc l, enc bs]) := Gets.tp (.req (.abs (Bool) (fun YY => AV.pv (enc YY)) (.ask (.nil) (.nil)))) h (by kernel_rfl)
theorem subst_h0 {G : PV → Prop} (l : Lin) (bs : List Bnd) (n : Int) (m : List (Str × Int)) (i : Int) (h : if (decide (i < (↑(List.length l.t) : Int))) = true then (decide (0 ≤ i) && decide (Int.toNat i < List.length (List.map enc l.t)) && Enc.sz Coef == 2) = true ∧ (∃ y0 : Coef, AV.pv (PV.rptr (PV.cells (List.getD (List.map enc l.t) (Int.toNat i) default))) = AV.pv (PV.rptr (PV.cells ((enc) y0))) ∧ ((pre_ixS 107 [(.pv (.sl 7 false (List.map enc bs))), (.fn 107 [] [(.ptr 0 0)])] [(.box [(.pv (.str (PV.asStr (List.getD (PV.cells (enc y0)) 0 default)))), (.pv (.int .i64 (PV.asInt (List.getD (PV.cells (enc y0)) (0 + 1) default))))])]) = true ∧ (if (decide (ixFind (bndB (PV.asStr (List.getD (PV.cells (enc y0)) 0 default))) (dec (enc bs)) < 0)) = true then (lookOK (PV.str (PV.asStr (List.getD (PV.cells (enc y0)) 0 default))) (mapP m) && Sh.fit (Sh.int .i64) (lookD (PV.str (PV.asStr (List.getD (PV.cells (enc y0)) 0 default))) (PV.int .i64 0) (mapP m))) = true ∧ ((updOK (PV.str (PV.asStr (List.getD (PV.cells (enc y0)) 0 default))) (PV.int .i64 (IntKind.wrap IntKind.i64 (PV.asInt (lookD (PV.str (PV.asStr (List.getD (PV.cells (enc y0)) 0 default))) (PV.int .i64 0) (mapP m)) + PV.asInt (List.getD (PV.cells (enc y0)) (0 + 1) default)))) (mapP m)) = true ∧ (At T_subst 0 (endP' rs_subst G) ic_subst 0 60 [(1, (.pv (.sl 7 false (List.map enc bs)))), (4, (.ptr 0 0)), (6, (.ptr 1 0)), (19, (.pv (.sl 2 false (List.map enc l.t)))), (20, (.pv (.int .i64 (↑(List.length l.t) : Int)))), (21, (.pv (.int .i64 (IntKind.wrap IntKind.i64 (i + 1)))))] [(.obj (.box [(.pv (.int .i64 0)), (.pv (.sl 0 true []))])), (.obj (.box [(.pv (.int .i64 n)), (.map 2)])), (.obj (.map (updL (PV.str (PV.asStr (List.getD (PV.cells (enc y0)) 0 default))) (PV.int .i64 (IntKind.wrap IntKind.i64 (PV.asInt (lookD (PV.str (PV.asStr (List.getD (PV.cells (enc y0)) 0 default))) (PV.int .i64 0) (mapP m)) + PV.asInt (List.getD (PV.cells (enc y0)) (0 + 1) default)))) (mapP m))))])) else ((decide (0 ≤ ixFind (bndB (PV.asStr (List.getD (PV.cells (enc y0)) 0 default))) (dec (enc bs))) && decide (Int.toNat (ixFind (bndB (PV.asStr (List.getD (PV.cells (enc y0)) 0 default))) (dec (enc bs))) < List.length (List.map enc bs)) && Enc.sz Bnd == 7) = true ∧ (∃ y1 : Bnd, AV.pv (PV.rptr (PV.cells (List.getD (List.map enc bs) (Int.toNat (ixFind (bndB (PV.asStr (List.getD (PV.cells (enc y0)) 0 default))) (dec (enc bs)))) default))) = AV.pv (PV.rptr (PV.cells ((enc) y1))) ∧ ((Go.Pl.preT (fun (x : Lin × Unit) => linSm x.1) [(.agg [(.int .i64 (PV.asInt (List.getD (List.drop 2 (PV.cells (enc y1))) 0 default))), (.sl 2 false (PV.asXs (List.getD (List.drop 2 (PV.cells (enc y1))) (0 + 1) default)))])]) = true ∧ (∃ y2 : Bool, AV.pv (valT (fun (x : Lin × Unit) => validL x.1) [(.agg [(.int .i64 (PV.asInt (List.getD (List.drop 2 (PV.cells (enc y1))) 0 default))), (.sl 2 false (PV.asXs (List.getD (List.drop 2 (PV.cells (enc y1))) (0 + 1) default)))])]) = AV.pv (enc y2) ∧ (if (!y2) = true then G ((.tup [(.agg [(.int .i64 0), (.sl 0 true [])]), (.int .i64 1)])) else ((decide (0 ≤ ixFind (bndB (PV.asStr (List.getD (PV.cells (enc y0)) 0 default))) (dec (enc bs))) && decide (Int.toNat (ixFind (bndB (PV.asStr (List.getD (PV.cells (enc y0)) 0 default))) (dec (enc bs))) < List.length (List.map enc bs)) && Enc.sz Bnd == 7) = true ∧ (∃ y3 : Bnd, AV.pv (PV.rptr (PV.cells (List.getD (List.map enc bs) (Int.toNat (ixFind (bndB (PV.asStr (List.getD (PV.cells (enc y0)) 0 default))) (dec (enc bs)))) default))) = AV.pv (PV.rptr (PV.cells ((enc) y3))) ∧ ((pre_add [(.ptr 0 0), (.pv (.agg [(.int .i64 (PV.asInt (List.getD (List.drop 2 (PV.cells (enc y3))) 0 default))), (.sl 2 false (PV.asXs (List.getD (List.drop 2 (PV.cells (enc y3))) (0 + 1) default)))])), (.pv (.int .i64 (PV.asInt (List.getD (PV.cells (enc y0)) (0 + 1) default))))] [(.box [(.pv (.int .i64 n)), (.map 1)]), (.map (mapP m))]) = true ∧ (At T_subst 0 (endP' rs_subst G) ic_subst 0 60 [(1, (.pv (.sl 7 false (List.map enc bs)))), (4, (.ptr 0 0)), (6, (.ptr 1 0)), (19, (.pv (.sl 2 false (List.map enc l.t)))), (20, (.pv (.int .i64 (↑(List.length l.t) : Int)))), (21, (.pv (.int .i64 (IntKind.wrap IntKind.i64 (i + 1)))))] [(.obj (.box [(.pv (.int .i64 0)), (.pv (.sl 0 true []))])), (.obj (.box [(.pv (.int .i64 (w64 (n + w64 (PV.asInt (List.getD (PV.cells (enc y0)) (0 + 1) default) * Lin.k (dec (PV.agg (shAll (List.drop 2 (PV.cells (enc y3))) 0 [Sh.int .i64, Sh.sl 2])))))))), (.map 2)])), (.obj (.map (mapP (addT (PV.asInt (List.getD (PV.cells (enc y0)) (0 + 1) default)) (Lin.t (dec (PV.agg (shAll (List.drop 2 (PV.cells (enc y3))) 0 [Sh.int .i64, Sh.sl 2])))) (mapD (mapP m))))))])))))))))))) else ((pre_res [(.ptr 0 0)] [(.box [(.pv (.int .i64 n)), (.map 1)]), (.map (mapP m))]) = true ∧ (G ((.tup [(.agg [(.int .i64 (Lin.k (Prod.fst (resM n (mapD (mapP m)))))), (.sl 2 false (List.map enc (Lin.t (Prod.fst (resM n (mapD (mapP m)))))))]), (.int .i64 (Prod.snd (resM n (mapD (mapP m)))))]))))) : At T_subst 0 (endP' rs_subst G) ic_subst 0 60 [(1, .pv (enc bs)), (4, .ptr 0 0), (6, .ptr 1 0), (19, .pv (enc l.t)), (20, .pv (.int .i64 l.t.length)), (21, .pv (.int .i64 i))] [.obj (.box [.pv (.int .i64 0), .pv (.sl 0 true [])]), .obj (.box [.pv (.int .i64 n), .map 2]), .obj (.map (mapP m))] := At.tp (.lit (.ask (.req (.abs (Coef) (fun YY => AV.pv (PV.rptr (PV.cells ((enc) YY)))) (.lit (.req (.keep (.lit (.ask (.req (.keep (.lit (.req (.lit (.nil)))))) (.req (.abs (Bnd) (fun YY => AV.pv (PV.rptr (PV.cells ((enc) YY)))) (.lit (.req (.abs (Bool) (fun YY => AV.pv (enc YY)) (.ask (.nil) (.req (.abs (Bnd) (fun YY => AV.pv (PV.rptr (PV.cells ((enc) YY)))) (.lit (.req (.keep (.lit (.nil)))))))))))))))))))) (.req (.keep (.nil))))) h (by kernel_rfl)
end Go.Pl

namespace Go.Pl
open Go.RowKit
open Enc (enc dec is)
open EncL (encL decL isL)
theorem sub1_run : ∀ args os, pre_s1 args os = true → Gets T_sub1 os.length (endO' os.length rs_sub1 fun r => r = val_s1 args os) ic_sub1 [] (st0O nt_sub1 args os) := by
  intro args os h
  unfold pre_s1 at h
  split at h
  · rename_i x v c
    obtain ⟨x, rfl⟩ := can_eq h
    refine sub1_s x v c ?_
    simp only [val_s1, Enc.dec_enc, bndB]
    refine iteE (fun h => ?_) fun h => ?_
    · simp [h]
    · simp [h]
  · cases h
theorem ixs_loop (l : List Bnd) (v : List UInt8) (c : Int) (hl : l.length ≤ 9223372036854775807) (H : AV × List AObj × List AObj) (hH : H = (.pv (.int .i64 (ixFind (bndB v) l)), [.box [.pv (.str v), .pv (.int .i64 c)]], [])) : ∀ (m i : Nat), m + i = l.length → (∀ j (hj : j < l.length), j < i → bndB v l[j] = false) →
    At T_ixs 1 (endO' 1 rs_ixs fun r => r = H) ic_ixs 0 19 [(0, .pv (enc l)), (1, .fn 107 [] [.ptr 0 0]), (7, .pv (.int .i64 l.length)), (8, .pv (.int .i64 i))] [.obj (.box [.pv (.str v), .pv (.int .i64 c)])] := by
  subst hH
  intro m
  induction m with
  | zero =>
    intro i hi hno
    refine ixs_h0 l v c i (iteF (lt_no' (by omega)) ?_)
    rw [ix_none _ _ (fun j hj => hno j hj (by omega))]
  | succ m ih =>
    intro i hi hno
    have hlt : i < l.length := by omega
    have ed : (dec (PV.agg (shAll (PV.cells (enc l[i])) 0 [Sh.int .i64, Sh.str, Sh.int .i64, Sh.sl 2, Sh.str, Sh.sl 2, Sh.str])) : Bnd) = l[i] := Enc.dec_enc l[i]
    refine ixs_h0 l v c i (iteT (lt_ok' hlt) ⟨idx_ok hlt rfl, el_ex hlt ⟨can_enc l[i], ?_⟩⟩)
    rw [ed]
    refine iteB (fun hb => ?_) fun hb => ?_
    · rw [ix_step (bndB v) l i hlt hno hb]
    · rw [next (by omega)]
      refine ih (i + 1) (by omega) fun j hj hji => ?_
      by_cases e : j = i
      · subst e; exact hb
      · exact hno j hj (by omega)
theorem ixs_run : ∀ args os, pre_ixS 107 args os = true → Gets T_ixs os.length (endO' os.length rs_ixs fun r => r = val_ixS args os) ic_ixs [] (st0O nt_ixs args os) := by
  intro args os h
  unfold pre_ixS at h
  split at h
  · rename_i l g v c
    simp only [Bool.and_eq_true, beq_iff_eq, decide_eq_true_eq] at h
    obtain ⟨⟨rfl, hl⟩, h2⟩ := h
    obtain ⟨l, rfl⟩ := can_eq hl
    rw [Enc.dec_enc] at h2
    refine ixs_s l v c ?_
    rw [List.length_map]
    exact ixs_loop l v c h2 _ (by simp only [val_ixS, Enc.dec_enc]) l.length 0 (by omega) (fun j hj h => by omega)
  · cases h
theorem ix_find {α : Type} (p : α → Bool) (l : List α) : (ixFind p l < 0 ∧ l.find? p = none) ∨ ∃ (i : Nat) (hi : i < l.length), ixFind p l = i ∧ l.find? p = some l[i] := by
  unfold ixFind
  cases h : l.findIdx? p with
  | none =>
    refine .inl ⟨by decide, ?_⟩
    rw [List.findIdx?_eq_none_iff] at h
    rw [List.find?_eq_none]
    intro x hx
    rw [h x hx]; simp
  | some i =>
    rw [List.findIdx?_eq_some_iff_getElem] at h
    obtain ⟨hi, hp, hno⟩ := h
    refine .inr ⟨i, hi, rfl, ?_⟩
    rw [List.find?_eq_some_iff_getElem]
    exact ⟨hp, i, hi, rfl, fun j hj => by simpa using hno j hj⟩
theorem addT_keys' (k : Int) (l : Lin) (hl : validL l = true) (m : List (Str × Int)) (hm : ∀ x ∈ keysM m, x.length ≤ 1000) : ∀ x ∈ keysM (addT k l.t m), x.length ≤ 1000 := by
  intro x hx
  rcases addT_keys k l.t m x hx with h | ⟨t, ht, rfl⟩
  · exact hm x h
  · have := name_len (valid_coef hl ht).1
    omega
theorem coef_cells (t : Coef) : PV.asStr (List.getD (PV.cells (enc t)) 0 default) = t.v.s ∧ PV.asInt (List.getD (PV.cells (enc t)) (0 + 1) default) = t.c := ⟨rfl, rfl⟩
theorem subst_loop (l : Lin) (hv : validL l = true) (bs : List Bnd) (hb : bndsSm bs = true) : ∀ (j i : Nat) (n : Int) (m : List (Str × Int)), j + i = l.t.length → m.length ≤ 12 * i → (∀ x ∈ keysM m, x.length ≤ 1000) →
    At T_subst 0 (endP' rs_subst (Fits (match foldS bs (l.t.drop i) (n, m) with | none => ((⟨0, []⟩, 1) : Lin × Int) | some s => resM s.1 s.2))) ic_subst 0 60 [(1, .pv (enc bs)), (4, .ptr 0 0), (6, .ptr 1 0), (19, .pv (enc l.t)), (20, .pv (.int .i64 l.t.length)), (21, .pv (.int .i64 i))] [.obj (.box [.pv (.int .i64 0), .pv (.sl 0 true [])]), .obj (.box [.pv (.int .i64 n), .map 2]), .obj (.map (mapP m))] := by
  have hlen := valid_len hv
  simp only [bndsSm, Bool.and_eq_true, decide_eq_true_eq, List.all_eq_true] at hb
  obtain ⟨hb1, hb2⟩ := hb
  intro j
  induction j with
  | zero =>
    intro i n m hi hm hk
    have ed : l.t.drop i = [] := List.drop_of_length_le (by omega)
    rw [ed]
    refine subst_h0 l bs n m i (iteF (lt_no' (by omega)) ?_)
    rw [mapD_map]
    refine ⟨?_, fits_of (x := resM n m) rfl⟩
    show (canM (mapP m) && mapSm (mapD (mapP m))) = true
    rw [canM_map, mapD_map]
    simp only [mapSm, Bool.true_and, Bool.and_eq_true, decide_eq_true_eq, List.all_eq_true]
    exact ⟨by omega, fun x hx => by have := hk x hx; omega⟩
  | succ j ih =>
    intro i n m hi hm hk
    have hlt : i < l.t.length := by omega
    have hd : l.t.drop i = l.t[i] :: l.t.drop (i + 1) := List.drop_eq_getElem_cons hlt
    rw [hd]
    have hnm := name_len (valid_coef hv (List.getElem_mem hlt)).1
    refine subst_h0 l bs n m i (iteT (lt_ok' hlt) ⟨idx_ok hlt rfl, el_ex hlt ?_⟩)
    generalize l.t[i] = t at hnm ⊢
    have edb : (dec (enc bs : PV) : List Bnd) = bs := Enc.dec_enc bs
    have hpre : pre_ixS 107 [.pv (enc bs), .fn 107 [] [.ptr 0 0]] [.box [.pv (.str t.v.s), .pv (.int .i64 t.c)]] = true := by
      show (_ == _ && can (List Bnd) (enc bs) && decide ((dec (enc bs : PV) : List Bnd).length ≤ 9223372036854775807)) = true
      rw [can_enc, edb, decide_eq_true hb1]
      simp
    refine ⟨hpre, ?_⟩
    rw [(coef_cells t).1, edb]
    rcases ix_find (bndB t.v.s) bs with ⟨h1, h2⟩ | ⟨k, hk2, h1, h2⟩
    · have e : foldS bs (t :: l.t.drop (i + 1)) (n, m) = foldS bs (l.t.drop (i + 1)) (n, updM t.v (w64 (atM m t.v.s + t.c)) m) := by
        show (match putS bs (n, m) t with | none => none | some s' => foldS bs (l.t.drop (i + 1)) s') = _
        unfold putS
        rw [h2]
      rw [e]
      refine iteT (decide_eq_true h1) ⟨var_ok1 _ _, var_ok2 _ _ _, ?_⟩
      rw [var_upd, next (by omega)]
      exact ih (i + 1) n (updM t.v (w64 (atM m t.v.s + t.c)) m) (by omega) (by have := upd_len t.v (w64 (atM m t.v.s + t.c)) m; omega) fun x hx => by
        rcases upd_keys t.v (w64 (atM m t.v.s + t.c)) m with e | ⟨_, e⟩
        · rw [e] at hx; exact hk x hx
        · rw [e, List.mem_append] at hx
          rcases hx with hx | hx
          · exact hk x hx
          · rw [List.mem_singleton.1 hx]; omega
    · have hneg : ¬ ((k : Nat) : Int) < 0 := by omega
      have edm : (dec (PV.agg (shAll (List.drop 2 (PV.cells (enc bs[k]))) 0 [Sh.int .i64, Sh.sl 2])) : Lin) = bs[k].dim := Enc.dec_enc bs[k].dim
      rw [h1]
      refine iteF (by simp) ?_
      have hsm := hb2 _ (List.getElem_mem hk2)
      refine ⟨idx_ok hk2 rfl, el_ex hk2 ⟨pre_enc (bs[k].dim, ()) rfl hsm, ex_enc (bs[k].dim, ()) rfl (iteN (fun hq => ?_) fun hq => ⟨idx_ok hk2 rfl, el_ex hk2 ⟨?_, ?_⟩⟩)⟩⟩
      · have hq : validL bs[k].dim = false := hq
        have e : foldS bs (t :: l.t.drop (i + 1)) (n, m) = none := by
          show (match putS bs (n, m) t with | none => none | some s' => foldS bs (l.t.drop (i + 1)) s') = _
          unfold putS
          rw [h2]
          simp only
          rw [hq]; rfl
        rw [e]
        exact ⟨rfl, rfl⟩
      all_goals have hq : validL bs[k].dim = true := hq
      · have hl := valid_len hq
        show (canM (mapP m) && can Lin (enc bs[k].dim) && decide ((dec (enc bs[k].dim : PV) : Lin).t.length ≤ 1000000)) = true
        rw [canM_map, can_enc, Enc.dec_enc, decide_eq_true (by omega)]; rfl
      · have e : foldS bs (t :: l.t.drop (i + 1)) (n, m) = foldS bs (l.t.drop (i + 1)) (w64 (n + w64 (t.c * bs[k].dim.k)), addT t.c bs[k].dim.t m) := by
          show (match putS bs (n, m) t with | none => none | some s' => foldS bs (l.t.drop (i + 1)) s') = _
          unfold putS
          rw [h2]
          simp only
          rw [hq]; rfl
        rw [e, edm, mapD_map, next (by omega)]
        have h3 := addT_len t.c bs[k].dim.t m
        have hl := valid_len hq
        exact ih (i + 1) _ _ (by omega) (by omega) (addT_keys' t.c bs[k].dim hq m hk)
theorem subst_run : ∀ a : Lin × List Bnd × Unit, (linSm a.1 && bndsSm a.2.1) = true → Gets T_subst 0 (endP' rs_subst (Fits (substL a.1 a.2.1))) ic_subst [] (st0 nt_subst (encL a)) := by
  rintro ⟨l, bs, ⟨⟩⟩ h
  simp only [Bool.and_eq_true] at h
  show Gets T_subst 0 (endP' rs_subst (Fits (substL l bs))) _ _ _
  refine subst_s l bs ⟨pre_enc (l, ()) rfl h.1, ex_enc (l, ()) rfl (iteN (fun hv => ?_) fun hv => ?_)⟩
  · have hv : validL l = false := hv
    unfold substL
    rw [hv]
    exact ⟨rfl, rfl⟩
  · have hv : validL l = true := hv
    unfold substL
    rw [hv, if_pos rfl, List.length_map]
    exact subst_loop l hv bs h.2 l.t.length 0 l.k [] (by omega) (by simp) (fun x hx => by cases hx)
end Go.Pl

namespace Go.Pl
open Go.RowKit
open Enc (enc dec is)
open EncL (encL decL isL)
set_option maxRecDepth 100000
def mS : Str := ⟨[109]⟩
theorem par1 : parseL [50, 110] = resM 0 [(nS, 2)] := by rfl
theorem par2 : parseL [109, 32, 45, 32, 49] = resM (-1) [(mS, 1)] := by rfl
theorem par3 : parseL [51, 32, 42, 32, 110, 32, 45, 32, 110, 43, 32, 50] = resM 2 [(nS, 2)] := by rfl
theorem par4 : parseL [110, 43, 109] = resM 0 [(nS, 1), (mS, 1)] := by rfl
theorem par5 : parseL [109, 43, 49] = resM 1 [(mS, 1)] := by rfl
theorem res_one (n : Int) (s : Str) (c : Int) (hc : c ≠ 0) : resM n [(s, c)] = limL ⟨n, [⟨s, c⟩]⟩ := by
  have : termsM [(s, c)] = [⟨s, c⟩] := by
    simp [termsM, hc, sortS_one, atM]
  unfold resM limL
  rw [this]
theorem sortS_two : sortS [[109], [110]] = [[109], [110]] := by
  unfold sortS
  exact List.mergeSort_of_pairwise (by decide)
theorem sortS_two' : sortS [[110], [109]] = [[109], [110]] := (sortS_perm' (List.Perm.swap _ _ _)).trans sortS_two
theorem res_nm (n a b : Int) (ha : a ≠ 0) (hb : b ≠ 0) : resM n [(nS, a), (mS, b)] = limL ⟨n, [⟨mS, b⟩, ⟨nS, a⟩]⟩ := by
  have : termsM [(nS, a), (mS, b)] = [⟨mS, b⟩, ⟨nS, a⟩] := by
    simp [termsM, ha, hb, nS, mS, sortS_two', atM]
  unfold resM limL
  rw [this]
theorem exP1 : parseL [50, 110] = (⟨0, [⟨nS, 2⟩]⟩, 0) := by rw [par1, res_one _ _ _ (by decide)]; decide
theorem exP2 : parseL [109, 32, 45, 32, 49] = (⟨-1, [⟨mS, 1⟩]⟩, 0) := by rw [par2, res_one _ _ _ (by decide)]; decide
theorem exP3 : parseL [51, 32, 42, 32, 110, 32, 45, 32, 110, 43, 32, 50] = (⟨2, [⟨nS, 2⟩]⟩, 0) := by rw [par3, res_one _ _ _ (by decide)]; decide
theorem exP4 : parseL [110, 43, 109] = (⟨0, [⟨mS, 1⟩, ⟨nS, 1⟩]⟩, 0) := by rw [par4, res_nm _ _ _ (by decide) (by decide)]; decide
theorem exP5 : parseL [109, 43, 49] = (⟨1, [⟨mS, 1⟩]⟩, 0) := by rw [par5, res_one _ _ _ (by decide)]; decide
theorem sumv : combineL ⟨0, [⟨nS, 2⟩]⟩ ⟨-1, [⟨mS, 1⟩]⟩ 1 = (⟨-1, [⟨mS, 1⟩, ⟨nS, 2⟩]⟩, 0) := by
  have h1 : validL ⟨0, [⟨nS, 2⟩]⟩ = true := by decide
  have h2 : validL ⟨-1, [⟨mS, 1⟩]⟩ = true := by decide
  rw [combine_times 1 h1 h2]; decide
def bnd4 : Bnd := ⟨1, nS, ⟨1, [⟨mS, 1⟩]⟩, ⟨[]⟩, [], ⟨[]⟩⟩
theorem subv : substL ⟨0, [⟨mS, 1⟩, ⟨nS, 1⟩]⟩ [bnd4] = (⟨1, [⟨mS, 2⟩]⟩, 0) := by
  have h1 : validL ⟨0, [⟨mS, 1⟩, ⟨nS, 1⟩]⟩ = true := by decide
  have h2 : foldS [bnd4] [⟨mS, 1⟩, ⟨nS, 1⟩] (0, []) = some (1, [(mS, 2)]) := by decide
  unfold substL
  rw [h1, if_pos rfl]
  simp only [h2]
  rw [res_one _ _ _ (by decide)]
  decide
theorem it1 : Lib.itoa 1 = [49] := by simp [Lib.itoa]; rw [Lib.decDigits]; rfl
theorem it2 : Lib.itoa 2 = [50] := by simp [Lib.itoa]; rw [Lib.decDigits]; rfl
theorem itm : Lib.itoa (-1) = [45, 49] := by simp [Lib.itoa]; rw [Lib.decDigits]; rfl
theorem part1 (o s : List UInt8) (ho : o = []) (hs : s ≠ []) : partS o 1 s = s := by
  subst ho
  simp only [partS, itoaS, it1]
  simp [hs]; rfl
theorem part2 (s : List UInt8) : partS [] 2 s = [50] ++ s := by
  simp [partS, itoaS, it2]
theorem part2o (o s : List UInt8) (ho : o ≠ []) : partS o 2 s = o ++ [43] ++ [50] ++ s := by
  simp [partS, itoaS, it2, ho]
theorem part1o (o : List UInt8) (ho : o ≠ []) : partS o 1 [] = o ++ [43, 49] := by
  simp [partS, itoaS, it1, ho]
theorem partmo (o : List UInt8) : partS o (-1) [] = o ++ [45, 49] := by
  simp [partS, itoaS, itm]
theorem prv1 : printL ⟨-1, [⟨mS, 1⟩, ⟨nS, 2⟩]⟩ = [109, 43, 50, 110, 45, 49] := by
  have hv : validL ⟨-1, [⟨mS, 1⟩, ⟨nS, 2⟩]⟩ = true := by decide
  have e : partsS [⟨mS, 1⟩, ⟨nS, 2⟩] = [109, 43, 50, 110] := by
    show partS (partS [] 1 [109]) 2 [110] = _
    rw [part1 [] [109] rfl (by decide), part2o _ _ (by decide)]; rfl
  unfold printL
  rw [hv, if_pos rfl]
  simp only [e]
  rw [if_pos (by decide), partmo]; rfl
theorem prv2 : printL ⟨2, [⟨nS, 2⟩]⟩ = [50, 110, 43, 50] := by
  have hv : validL ⟨2, [⟨nS, 2⟩]⟩ = true := by decide
  have e : partsS [⟨nS, 2⟩] = [50, 110] := by
    show partS [] 2 [110] = _
    rw [part2]; rfl
  unfold printL
  rw [hv, if_pos rfl]
  simp only [e]
  rw [if_pos (by decide), part2o _ _ (by decide)]; rfl
theorem prv3 : printL ⟨1, [⟨mS, 2⟩]⟩ = [50, 109, 43, 49] := by
  have hv : validL ⟨1, [⟨mS, 2⟩]⟩ = true := by decide
  have e : partsS [⟨mS, 2⟩] = [50, 109] := by
    show partS [] 2 [109] = _
    rw [part2]; rfl
  unfold printL
  rw [hv, if_pos rfl]
  simp only [e]
  rw [if_pos (by decide), part1o _ (by decide)]; rfl
theorem ex_valV {α β : Type} [EncL α] [Enc β] {F : α → β} {ps : List PV} {P : β → Prop} {v : β} (a : α) (h : decL ps = a) (hv : F a = v) (k : P v) : ∃ y, AV.pv (valT F ps) = AV.pv (enc y) ∧ P y := ex_val a h (by rw [hv]; exact k)
theorem ex_encV {α β : Type} [EncL α] [Enc β] {F : α → β} {ps : List PV} {P : β → Prop} {v : β} (a : α) (h : ps = encL a) (hv : F a = v) (k : P v) : ∃ y, AV.pv (valT F ps) = AV.pv (enc y) ∧ P y := ex_enc a h (by rw [hv]; exact k)
def l41 : Lin := ⟨0, [⟨nS, 2⟩]⟩
def l42 : Lin := ⟨-1, [⟨mS, 1⟩]⟩
def l43 : Lin := ⟨2, [⟨nS, 2⟩]⟩
def l44 : Lin := ⟨0, [⟨mS, 1⟩, ⟨nS, 1⟩]⟩
def l45 : Lin := ⟨1, [⟨mS, 1⟩]⟩
def l4s : Lin := ⟨-1, [⟨mS, 1⟩, ⟨nS, 2⟩]⟩
def l4z : Lin := ⟨1, [⟨mS, 2⟩]⟩
theorem awake4_run : ∀ a : Unit, true = true → Gets T_awake4 0 (endP' rs_awake4 (Fits true)) ic_awake4 [] (st0 nt_awake4 (encL a)) := by
  rintro ⟨⟩ -
  refine awake4_s ?_
  refine ex_valV (v := (l41, 0)) ((⟨[50, 110]⟩ : Str), ()) rfl exP1 ?_
  refine ex_valV (v := (l42, 0)) ((⟨[109, 32, 45, 32, 49]⟩ : Str), ()) rfl exP2 ?_
  refine ⟨pre_enc (l41, l42, ()) rfl (by decide), ?_⟩
  refine ex_encV (v := (l4s, 0)) (l41, l42, ()) rfl sumv ?_
  refine ex_valV (v := (l43, 0)) ((⟨[51, 32, 42, 32, 110, 32, 45, 32, 110, 43, 32, 50]⟩ : Str), ()) rfl exP3 ?_
  refine ex_valV (v := (l44, 0)) ((⟨[110, 43, 109]⟩ : Str), ()) rfl exP4 ?_
  refine ex_valV (v := (l45, 0)) ((⟨[109, 43, 49]⟩ : Str), ()) rfl exP5 ?_
  refine ⟨by rfl, ?_⟩
  refine ex_valV (v := (l4z, 0)) (l44, [bnd4], ()) rfl subv ?_
  refine iteT rfl (iteT rfl (iteT rfl (iteT rfl (iteT rfl (iteT rfl (iteT rfl ?_))))))
  refine ⟨pre_enc (l4s, ()) rfl (by decide), ex_encV (v := (⟨[109, 43, 50, 110, 45, 49]⟩ : Str)) (l4s, ()) rfl (congrArg Str.mk prv1) (iteT rfl ?_)⟩
  refine ⟨pre_enc (l43, ()) rfl (by decide), ex_encV (v := (⟨[50, 110, 43, 50]⟩ : Str)) (l43, ()) rfl (congrArg Str.mk prv2) (iteT rfl ?_)⟩
  refine ⟨pre_enc (l4z, ()) rfl (by decide), ex_encV (v := (⟨[50, 109, 43, 49]⟩ : Str)) (l4z, ()) rfl (congrArg Str.mk prv3) (iteT rfl ?_)⟩
  refine ⟨pre_enc (l4s, ()) rfl (by decide), ex_encV (v := true) (l4s, ()) rfl (show validL l4s = true by decide) (iteT rfl ?_)⟩
  refine ⟨pre_enc (l4s, l4s, ()) rfl (by decide), ex_encV (v := true) (l4s, l4s, ()) rfl (show (cmpLin l4s l4s == 0) = true by decide) (fitB rfl)⟩
theorem rlimited_run : ∀ a : Lin × Unit, linOk a.1 = true → Gets T_rlimited 0 (endP' rs_rlimited (Fits (limL a.1))) ic_rlimited [] (st0 nt_rlimited (encL a)) := by
  rintro ⟨l, ⟨⟩⟩ h
  show Gets T_rlimited 0 (endP' rs_rlimited (Fits (limL l))) _ _ _
  unfold limL
  refine rlimited_s l ⟨pre_enc (l, ()) rfl h, ex_enc (l, ()) rfl (iteN (fun hv => ?_) fun hv => ?_)⟩
  · have hv : validL l = false := hv
    rw [hv]
    exact ⟨rfl, rfl⟩
  · have hv : validL l = true := hv
    rw [hv]
    exact fits_of (x := ((l, 0) : Lin × Int)) rfl
theorem sm_ok {l : Lin} (h : linSm l = true) : linOk l = true := by
  simp only [linSm, Bool.and_eq_true] at h
  exact h.1
end Go.Pl

namespace Go.Pl
open Go.RowKit
open Enc (enc dec is)
open EncL (encL decL isL)
end Go.Pl

namespace Go.Pl
open Go.RowKit
open Enc (enc dec is)
open EncL (encL decL isL)
def shortB (bs : List Bnd) : Bool := (bs.all fun b => few4 b.dim 14 && decide (b.v.s.length ≤ 40)) && decide (bs.length ≤ 12)
def boundL (bs : List Bnd) (s : Str) : Lin × Bool := match bs.find? (bndB s.s) with | some b => (b.dim, true) | none => (⟨0, []⟩, false)
end Go.Pl

namespace Go.Pl
open Go.RowKit
open Enc (enc dec is)
open EncL (encL decL isL)
set_option maxRecDepth 100000
def ic_lshort : IC := (.seq (.reg [⟨(some 2), (.mv (.c (.bool false))), 0, none⟩] none) (.seq (.seq (.reg [⟨(some 3), (.mv (.c (.int .i64 0))), 0, none⟩] none) (.block 0 (.loop [3, 0] (.seq (.seq (.reg [⟨(some 4), (.mv (.t 3)), 0, none⟩, ⟨(some 5), (.mv (.t 0)), 0, none⟩, ⟨(some 6), (.len 1 (.t 5)), 0, none⟩, ⟨(some 7), (.bin .num .lss (.t 4) (.t 6)), 0, none⟩] none) (.cond (.t 7) .skip (.exit 0))) (.seq (.block 1 (.seq (.reg [⟨(some 10), (.mv (.t 0)), 0, none⟩, ⟨(some 11), (.mv (.t 3)), 0, none⟩, ⟨(some 12), (.iaddr 7 (.t 10) (.t 11)), 0, none⟩, ⟨(some 13), (.faddr 2 (.t 12)), 0, none⟩, ⟨(some 14), (.load true [(.int .i64), (.sl 2)] (.t 13)), 0, none⟩, ⟨(some 15), (.call (.c (.fn 20)) [(.t 14), (.c (.int .i64 14))]), 0, none⟩, ⟨(some 16), (.un .not (.t 15)), 2, none⟩, ⟨(some 17), (.mv (.t 16)), 2, none⟩, ⟨(some 18), (.mv (.t 0)), 2, (some (17, false))⟩, ⟨(some 19), (.mv (.t 3)), 2, (some (17, false))⟩, ⟨(some 20), (.iaddr 7 (.t 18) (.t 19)), 2, (some (17, false))⟩, ⟨(some 21), (.faddr 1 (.t 20)), 2, (some (17, false))⟩, ⟨(some 22), (.load false [.str] (.t 21)), 2, (some (17, false))⟩, ⟨(some 23), (.len 0 (.t 22)), 2, (some (17, false))⟩, ⟨(some 24), (.bin .num .gtr (.t 23) (.c (.int .i64 40))), 2, (some (17, false))⟩, ⟨(some 25), (.pick (.t 17) (.c (.bool true)) (.t 24)), 2, none⟩] none) (.cond (.t 25) (.seq (.reg [⟨(some 2), (.mv (.c (.bool false))), 0, none⟩] none) .ret) .skip))) (.reg [⟨(some 8), (.mv (.t 3)), 0, none⟩, ⟨(some 9), (.bin .num .add (.t 8) (.c (.int .i64 1))), 0, none⟩, ⟨(some 3), (.mv (.t 9)), 0, none⟩] none)))))) (.seq (.reg [⟨(some 26), (.mv (.t 0)), 0, none⟩, ⟨(some 27), (.len 1 (.t 26)), 0, none⟩, ⟨(some 28), (.bin .num .leq (.t 27) (.c (.int .i64 12))), 0, none⟩, ⟨(some 2), (.mv (.t 28)), 0, none⟩] none) .ret)))
def rs_lshort : List IRes := [(.tmp 2)]
abbrev nt_lshort : Nat := 29
def T_lshort : Tab := tab [(20, .pure (preT (fun x : Lin × Int × Unit => linOk x.1)) (valT (fun x : Lin × Int × Unit => few4 x.1 x.2.1)))]
theorem lshort_s {G : PV → Prop} (bs : List Bnd) (h : At T_lshort 0 (endP' rs_lshort G) ic_lshort 0 29 [(0, (.pv (.sl 7 false (List.map enc bs)))), (3, (.pv (.int .i64 0)))] []) : Gets T_lshort 0 (endP' rs_lshort G) ic_lshort [] (st0 29 [enc bs]) := Gets.tp (.nil) h (by kernel_rfl)
theorem lshort_h0 {G : PV → Prop} (bs : List Bnd) (i : Int) (h : if (decide (i < (↑(List.length (List.map enc bs)) : Int))) = true then (decide (0 ≤ i) && decide (Int.toNat i < List.length (List.map enc bs)) && Enc.sz Bnd == 7) = true ∧ (∃ y0 : Bnd, AV.pv (PV.rptr (PV.cells (List.getD (List.map enc bs) (Int.toNat i) default))) = AV.pv (PV.rptr (PV.cells ((enc) y0))) ∧ ((Go.Pl.preT (fun (x : Lin × Int × Unit) => linOk x.1) [(.agg [(.int .i64 (PV.asInt (List.getD (List.drop 2 (PV.cells (enc y0))) 0 default))), (.sl 2 false (PV.asXs (List.getD (List.drop 2 (PV.cells (enc y0))) (0 + 1) default)))]), (.int .i64 14)]) = true ∧ (∃ y1 : Bool, AV.pv (valT (fun (x : Lin × Int × Unit) => few4 x.1 x.2.1) [(.agg [(.int .i64 (PV.asInt (List.getD (List.drop 2 (PV.cells (enc y0))) 0 default))), (.sl 2 false (PV.asXs (List.getD (List.drop 2 (PV.cells (enc y0))) (0 + 1) default)))]), (.int .i64 14)]) = AV.pv (enc y1) ∧ (if (!y1) = true then G ((.bool false)) else ((decide (0 ≤ i) && decide (Int.toNat i < List.length (List.map enc bs)) && Enc.sz Bnd == 7) = true ∧ (∃ y2 : Bnd, AV.pv (PV.rptr (PV.cells (List.getD (List.map enc bs) (Int.toNat i) default))) = AV.pv (PV.rptr (PV.cells ((enc) y2))) ∧ (if (decide ((↑(List.length (PV.asStr (List.getD (List.drop 1 (PV.cells (enc y2))) 0 default))) : Int) > 40)) = true then G ((.bool false)) else (At T_lshort 0 (endP' rs_lshort G) ic_lshort 0 29 [(0, (.pv (.sl 7 false (List.map enc bs)))), (3, (.pv (.int .i64 (IntKind.wrap IntKind.i64 (i + 1)))))] [])))))))) else (G ((.bool (decide ((↑(List.length (List.map enc bs)) : Int) ≤ 12)))))) : At T_lshort 0 (endP' rs_lshort G) ic_lshort 0 29 [(0, .pv (enc bs)), (3, .pv (.int .i64 i))] [] := At.tp (.lit (.ask (.req (.abs (Bnd) (fun YY => AV.pv (PV.rptr (PV.cells ((enc) YY)))) (.lit (.req (.abs (Bool) (fun YY => AV.pv (enc YY)) (.ask (.lit (.lit (.lit (.lit (.lit (.lit (.lit (.lit (.nil))))))))) (.lit (.lit (.req (.abs (Bnd) (fun YY => AV.pv (PV.rptr (PV.cells ((enc) YY)))) (.lit (.lit (.lit (.lit (.lit (.lit (.lit (.ask (.nil) (.lit (.nil)))))))))))))))))))) (.lit (.nil)))) h (by kernel_rfl)
def ic_rbound : IC := (.seq (.reg [⟨(some 4), (.alloc (.agg [(.int .i64 0), (.sl 0 true [])])), 0, none⟩, ⟨(some 5), (.mv (.c (.bool false))), 1, none⟩] none) (.seq (.seq (.reg [⟨(some 6), (.mv (.c (.int .i64 0))), 0, none⟩] none) (.block 0 (.loop [6, 0, 1, 4] (.seq (.seq (.reg [⟨(some 7), (.mv (.t 6)), 0, none⟩, ⟨(some 8), (.mv (.t 0)), 0, none⟩, ⟨(some 9), (.len 1 (.t 8)), 0, none⟩, ⟨(some 10), (.bin .num .lss (.t 7) (.t 9)), 0, none⟩] none) (.cond (.t 10) .skip (.exit 0))) (.seq (.block 1 (.seq (.reg [⟨(some 13), (.mv (.t 0)), 0, none⟩, ⟨(some 14), (.mv (.t 6)), 0, none⟩, ⟨(some 15), (.iaddr 7 (.t 13) (.t 14)), 0, none⟩, ⟨(some 16), (.faddr 0 (.t 15)), 0, none⟩, ⟨(some 17), (.load false [(.int .i64)] (.t 16)), 0, none⟩, ⟨(some 18), (.bin .num .eql (.t 17) (.c (.int .i64 1))), 0, none⟩, ⟨(some 19), (.mv (.t 18)), 0, none⟩, ⟨(some 20), (.mv (.t 0)), 0, (some (19, true))⟩, ⟨(some 21), (.mv (.t 6)), 0, (some (19, true))⟩, ⟨(some 22), (.iaddr 7 (.t 20) (.t 21)), 0, (some (19, true))⟩, ⟨(some 23), (.faddr 1 (.t 22)), 0, (some (19, true))⟩, ⟨(some 24), (.load false [.str] (.t 23)), 0, (some (19, true))⟩, ⟨(some 25), (.mv (.t 1)), 0, (some (19, true))⟩, ⟨(some 26), (.bin .num .eql (.t 24) (.t 25)), 0, (some (19, true))⟩, ⟨(some 27), (.pick (.t 19) (.t 26) (.c (.bool false))), 0, none⟩] none) (.cond (.t 27) (.seq (.reg [⟨(some 28), (.mv (.t 0)), 0, none⟩, ⟨(some 29), (.mv (.t 6)), 0, none⟩, ⟨(some 30), (.iaddr 7 (.t 28) (.t 29)), 0, none⟩, ⟨(some 31), (.faddr 2 (.t 30)), 0, none⟩, ⟨(some 32), (.load true [(.int .i64), (.sl 2)] (.t 31)), 0, none⟩, ⟨none, (.store 2 (.t 4) (.t 32)), 0, none⟩, ⟨(some 5), (.mv (.c (.bool true))), 0, none⟩] none) .ret) .skip))) (.reg [⟨(some 11), (.mv (.t 6)), 0, none⟩, ⟨(some 12), (.bin .num .add (.t 11) (.c (.int .i64 1))), 0, none⟩, ⟨(some 6), (.mv (.t 12)), 0, none⟩] none)))))) (.seq (.reg [⟨(some 33), (.build [(.int .i64 0), (.sl 0 true [])] []), 0, none⟩, ⟨none, (.store 2 (.t 4) (.t 33)), 0, none⟩, ⟨(some 5), (.mv (.c (.bool false))), 0, none⟩] none) .ret)))
def rs_rbound : List IRes := [(.cell true 2 4), (.tmp 5)]
abbrev nt_rbound : Nat := 34
def T_rbound : Tab := tab []
theorem rbound_s {G : PV → Prop} (bs : List Bnd) (s : Str) (h : At T_rbound 0 (endP' rs_rbound G) ic_rbound 0 34 [(0, (.pv (.sl 7 false (List.map enc bs)))), (1, (.pv (.str (Str.s s)))), (4, (.ptr 0 0)), (6, (.pv (.int .i64 0)))] [(.obj (.box [(.pv (.int .i64 0)), (.pv (.sl 0 true []))]))]) : Gets T_rbound 0 (endP' rs_rbound G) ic_rbound [] (st0 34 [enc bs, enc s]) := Gets.tp (.nil) h (by kernel_rfl)
theorem rbound_h0 {G : PV → Prop} (bs : List Bnd) (s : Str) (i : Int) (h : if (decide (i < (↑(List.length (List.map enc bs)) : Int))) = true then (decide (0 ≤ i) && decide (Int.toNat i < List.length (List.map enc bs)) && Enc.sz Bnd == 7) = true ∧ (∃ y0 : Bnd, AV.pv (PV.rptr (PV.cells (List.getD (List.map enc bs) (Int.toNat i) default))) = AV.pv (PV.rptr (PV.cells ((enc) y0))) ∧ (if (PV.asInt (List.getD (List.drop 0 (PV.cells (enc y0))) 0 default) == 1) = true then (decide (0 ≤ i) && decide (Int.toNat i < List.length (List.map enc bs)) && Enc.sz Bnd == 7) = true ∧ (∃ y1 : Bnd, AV.pv (PV.rptr (PV.cells (List.getD (List.map enc bs) (Int.toNat i) default))) = AV.pv (PV.rptr (PV.cells ((enc) y1))) ∧ (if (PV.asStr (List.getD (List.drop 1 (PV.cells (enc y1))) 0 default) == Str.s s) = true then (decide (0 ≤ i) && decide (Int.toNat i < List.length (List.map enc bs)) && Enc.sz Bnd == 7) = true ∧ (∃ y2 : Bnd, AV.pv (PV.rptr (PV.cells (List.getD (List.map enc bs) (Int.toNat i) default))) = AV.pv (PV.rptr (PV.cells ((enc) y2))) ∧ (G ((.tup [(.agg [(.int .i64 (PV.asInt (List.getD (List.drop 2 (PV.cells (enc y2))) 0 default))), (.sl 2 false (PV.asXs (List.getD (List.drop 2 (PV.cells (enc y2))) (0 + 1) default)))]), (.bool true)])))) else (At T_rbound 0 (endP' rs_rbound G) ic_rbound 0 34 [(0, (.pv (.sl 7 false (List.map enc bs)))), (1, (.pv (.str (Str.s s)))), (4, (.ptr 0 0)), (6, (.pv (.int .i64 (IntKind.wrap IntKind.i64 (i + 1)))))] [(.obj (.box [(.pv (.int .i64 0)), (.pv (.sl 0 true []))]))]))) else (At T_rbound 0 (endP' rs_rbound G) ic_rbound 0 34 [(0, (.pv (.sl 7 false (List.map enc bs)))), (1, (.pv (.str (Str.s s)))), (4, (.ptr 0 0)), (6, (.pv (.int .i64 (IntKind.wrap IntKind.i64 (i + 1)))))] [(.obj (.box [(.pv (.int .i64 0)), (.pv (.sl 0 true []))]))]))) else (G ((.tup [(.agg [(.int .i64 0), (.sl 0 true [])]), (.bool false)])))) : At T_rbound 0 (endP' rs_rbound G) ic_rbound 0 34 [(0, .pv (enc bs)), (1, .pv (enc s)), (4, .ptr 0 0), (6, .pv (.int .i64 i))] [.obj (.box [.pv (.int .i64 0), .pv (.sl 0 true [])])] := At.tp (.lit (.ask (.req (.abs (Bnd) (fun YY => AV.pv (PV.rptr (PV.cells ((enc) YY)))) (.lit (.lit (.ask (.lit (.lit (.req (.abs (Bnd) (fun YY => AV.pv (PV.rptr (PV.cells ((enc) YY)))) (.lit (.lit (.lit (.lit (.lit (.lit (.lit (.ask (.req (.abs (Bnd) (fun YY => AV.pv (PV.rptr (PV.cells ((enc) YY)))) (.lit (.nil)))) (.lit (.nil)))))))))))))) (.lit (.lit (.lit (.lit (.lit (.lit (.lit (.lit (.lit (.nil))))))))))))))) (.nil))) h (by kernel_rfl)
def ic_rvar : IC := (.seq (.reg [⟨(some 2), (.alloc (.agg [(.int .i64 0), (.sl 0 true [])])), 0, none⟩] none) (.seq (.reg [⟨(some 3), (.mv (.t 0)), 0, none⟩, ⟨(some 4), (.build [(.str []), (.int .i64 0)] [(0, (1, (.t 3))), (1, (1, (.c (.int .i64 1))))]), 0, none⟩, ⟨(some 5), (.bslice 87 2 1 (.agg [(.str []), (.int .i64 0)]) [(0, (.t 4))]), 0, none⟩, ⟨(some 6), (.build [(.int .i64 0), (.sl 0 true [])] [(1, (1, (.t 5)))]), 1, none⟩, ⟨none, (.store 2 (.t 2) (.t 6)), 1, none⟩] none) .ret))
def rs_rvar : List IRes := [(.cell true 2 2)]
abbrev nt_rvar : Nat := 7
def T_rvar : Tab := tab []
theorem rvar_s {G : PV → Prop} (s : Str) (h : G ((.agg [(.int .i64 0), (.sl 2 false [(.agg [(.str (Str.s s)), (.int .i64 1)])])]))) : Gets T_rvar 0 (endP' rs_rvar G) ic_rvar [] (st0 7 [enc s]) := Gets.tp (.lit (.lit (.nil))) h (by kernel_rfl)
def ic_rsubst : IC := (.seq (.reg [⟨(some 2), (.box 2 (.t 0)), 0, none⟩, ⟨(some 4), (.alloc (.agg [(.int .i64 0), (.sl 0 true [])])), 1, none⟩, ⟨(some 5), (.mv (.c (.int .i64 0))), 2, none⟩] none) (.seq (.seq (.reg [⟨(some 11), (.load true [(.int .i64), (.sl 2)] (.t 2)), 0, none⟩, ⟨(some 12), (.call (.c (.fn 36)) [(.t 11)]), 0, none⟩, ⟨(some 13), (.un .not (.t 12)), 2, none⟩] none) (.cond (.t 13) (.seq (.reg [⟨(some 14), (.build [(.int .i64 0), (.sl 0 true [])] []), 0, none⟩, ⟨none, (.store 2 (.t 4) (.t 14)), 0, none⟩, ⟨(some 5), (.mv (.c (.int .i64 1))), 0, none⟩] none) .ret) .skip)) (.seq (.reg [⟨(some 15), (.faddr 0 (.t 2)), 0, none⟩, ⟨(some 16), (.load false [(.int .i64)] (.t 15)), 0, none⟩, ⟨(some 17), (.build [(.int .i64 0), (.sl 0 true [])] [(0, (1, (.t 16)))]), 0, none⟩, ⟨(some 6), (.alloc (.agg [(.int .i64 0), (.sl 0 true [])])), 0, none⟩, ⟨none, (.store 2 (.t 6) (.t 17)), 1, none⟩] none) (.seq (.seq (.reg [⟨(some 7), (.mv (.c (.int .i64 0))), 0, none⟩] none) (.block 0 (.loop [7, 2, 1, 4, 6] (.seq (.seq (.reg [⟨(some 18), (.mv (.t 7)), 0, none⟩, ⟨(some 19), (.faddr 1 (.t 2)), 0, none⟩, ⟨(some 20), (.load false [(.sl 2)] (.t 19)), 0, none⟩, ⟨(some 21), (.len 1 (.t 20)), 0, none⟩, ⟨(some 22), (.bin .num .lss (.t 18) (.t 21)), 0, none⟩] none) (.cond (.t 22) .skip (.exit 0))) (.seq (.block 1 (.seq (.reg [⟨(some 25), (.faddr 1 (.t 2)), 0, none⟩, ⟨(some 26), (.load false [(.sl 2)] (.t 25)), 0, none⟩, ⟨(some 27), (.mv (.t 7)), 0, none⟩, ⟨(some 28), (.iaddr 2 (.t 26) (.t 27)), 0, none⟩, ⟨(some 29), (.load true [.str, (.int .i64)] (.t 28)), 0, none⟩, ⟨(some 8), (.alloc (.agg [(.str []), (.int .i64 0)])), 0, none⟩, ⟨none, (.store 2 (.t 8) (.t 29)), 1, none⟩] none) (.seq (.reg [⟨(some 31), (.mv (.t 1)), 0, none⟩, ⟨(some 32), (.faddr 0 (.t 8)), 0, none⟩, ⟨(some 33), (.load false [.str] (.t 32)), 0, none⟩, ⟨(some 34), (.call (.c (.fn 109)) [(.t 31), (.t 33)]), 0, none⟩, ⟨(some 30), (.mv (.t 34)), 2, none⟩, ⟨(some 35), (.extract (.t 30) 0), 2, none⟩, ⟨(some 36), (.extract (.t 30) 1), 2, none⟩, ⟨(some 9), (.alloc (.agg [(.int .i64 0), (.sl 0 true [])])), 2, none⟩, ⟨none, (.store 2 (.t 9) (.t 35)), 3, none⟩, ⟨(some 10), (.mv (.t 36)), 3, none⟩] none) (.seq (.seq (.reg [⟨(some 37), (.mv (.t 10)), 0, none⟩, ⟨(some 38), (.un .not (.t 37)), 0, none⟩] none) (.cond (.t 38) (.reg [⟨(some 39), (.faddr 0 (.t 8)), 0, none⟩, ⟨(some 40), (.load false [.str] (.t 39)), 0, none⟩, ⟨(some 41), (.call (.c (.fn 110)) [(.t 40)]), 0, none⟩, ⟨none, (.store 2 (.t 9) (.t 41)), 2, none⟩] none) .skip)) (.seq (.seq (.reg [⟨(some 42), (.load true [(.int .i64), (.sl 2)] (.t 9)), 0, none⟩, ⟨(some 43), (.call (.c (.fn 36)) [(.t 42)]), 0, none⟩, ⟨(some 44), (.un .not (.t 43)), 2, none⟩] none) (.cond (.t 44) (.seq (.reg [⟨(some 45), (.build [(.int .i64 0), (.sl 0 true [])] []), 0, none⟩, ⟨none, (.store 2 (.t 4) (.t 45)), 0, none⟩, ⟨(some 5), (.mv (.c (.int .i64 1))), 0, none⟩] none) .ret) .skip)) (.reg [⟨(some 46), (.load true [(.int .i64), (.sl 2)] (.t 6)), 0, none⟩, ⟨(some 47), (.load true [(.int .i64), (.sl 2)] (.t 9)), 0, none⟩, ⟨(some 48), (.faddr 1 (.t 8)), 0, none⟩, ⟨(some 49), (.load false [(.int .i64)] (.t 48)), 0, none⟩, ⟨(some 50), (.call (.c (.fn 66)) [(.t 46), (.t 47), (.t 49)]), 0, none⟩, ⟨none, (.store 2 (.t 6) (.t 50)), 2, none⟩] none)))))) (.reg [⟨(some 23), (.mv (.t 7)), 0, none⟩, ⟨(some 24), (.bin .num .add (.t 23) (.c (.int .i64 1))), 0, none⟩, ⟨(some 7), (.mv (.t 24)), 0, none⟩] none)))))) (.seq (.reg [⟨(some 51), (.load true [(.int .i64), (.sl 2)] (.t 6)), 0, none⟩, ⟨(some 52), (.call (.c (.fn 91)) [(.t 51)]), 0, none⟩, ⟨(some 53), (.extract (.t 52) 0), 2, none⟩, ⟨(some 54), (.extract (.t 52) 1), 2, none⟩, ⟨none, (.store 2 (.t 4) (.t 53)), 2, none⟩, ⟨(some 5), (.mv (.t 54)), 2, none⟩] none) .ret)))))
def rs_rsubst : List IRes := [(.cell true 2 4), (.tmp 5)]
abbrev nt_rsubst : Nat := 55
def T_rsubst : Tab := tab [(36, .pure (preT (fun x : Lin × Unit => linOk x.1)) (valT (fun x : Lin × Unit => validL x.1))), (109, .pure (preT (fun x : List Bnd × Str × Unit => decide (x.1.length ≤ 9223372036854775807))) (valT (fun x : List Bnd × Str × Unit => boundL x.1 x.2.1))), (110, .pure (preT (fun _ : Str × Unit => true)) (valT (fun x : Str × Unit => (⟨0, [⟨x.1, 1⟩]⟩ : Lin)))), (66, .pure (preT (fun x : Lin × Lin × Int × Unit => decide (x.1.t.length ≤ 500000) && decide (x.2.1.t.length ≤ 500000))) (valT (fun x : Lin × Lin × Int × Unit => timesL x.1 x.2.1 x.2.2.1))), (91, .pure (preT (fun x : Lin × Unit => linOk x.1)) (valT (fun x : Lin × Unit => limL x.1)))]
theorem rsubst_s {G : PV → Prop} (l : Lin) (bs : List Bnd) (h : (Go.Pl.preT (fun (x : Lin × Unit) => linOk x.1) [(.agg [(.int .i64 l.k), (.sl 2 false (List.map enc l.t))])]) = true ∧ (∃ y0 : Bool, AV.pv (valT (fun (x : Lin × Unit) => validL x.1) [(.agg [(.int .i64 l.k), (.sl 2 false (List.map enc l.t))])]) = AV.pv (enc y0) ∧ (if (!y0) = true then G ((.tup [(.agg [(.int .i64 0), (.sl 0 true [])]), (.int .i64 1)])) else (At T_rsubst 0 (endP' rs_rsubst G) ic_rsubst 0 55 [(1, (.pv (.sl 7 false (List.map enc bs)))), (2, (.ptr 0 0)), (4, (.ptr 1 0)), (6, (.ptr 2 0)), (7, (.pv (.int .i64 0)))] [(.obj (.box [(.pv (.int .i64 l.k)), (.pv (.sl 2 false (List.map enc l.t)))])), (.obj (.box [(.pv (.int .i64 0)), (.pv (.sl 0 true []))])), (.obj (.box [(.pv (.int .i64 l.k)), (.pv (.sl 0 true []))]))])))) : Gets T_rsubst 0 (endP' rs_rsubst G) ic_rsubst [] (st0 55 [enc l, enc bs]) := Gets.tp (.req (.abs (Bool) (fun YY => AV.pv (enc YY)) (.ask (.nil) (.nil)))) h (by kernel_rfl)
theorem rsubst_h0 {G : PV → Prop} (l : Lin) (bs : List Bnd) (n : Int) (p : PV) (i : Int) (h : if (decide (i < (↑(List.length (List.map enc l.t)) : Int))) = true then (decide (0 ≤ i) && decide (Int.toNat i < List.length (List.map enc l.t)) && Enc.sz Coef == 2) = true ∧ (∃ y0 : Coef, AV.pv (PV.rptr (PV.cells (List.getD (List.map enc l.t) (Int.toNat i) default))) = AV.pv (PV.rptr (PV.cells ((enc) y0))) ∧ ((Go.Pl.preT (fun (x : List Bnd × Str × Unit) => decide (List.length x.1 ≤ 9223372036854775807)) [(.sl 7 false (List.map enc bs)), (.str (PV.asStr (List.getD (PV.cells (enc y0)) 0 default)))]) = true ∧ (∃ y1 : Lin × Bool, AV.pv (valT (fun (x : List Bnd × Str × Unit) => boundL x.1 x.2.1) [(.sl 7 false (List.map enc bs)), (.str (PV.asStr (List.getD (PV.cells (enc y0)) 0 default)))]) = AV.pv (enc y1) ∧ (if (!Prod.snd y1) = true then ∃ y2 : Lin, AV.pv (valT (fun (x : Str × Unit) => Lin.mk 0 [Coef.mk x.1 1]) [(.str (PV.asStr (List.getD (PV.cells (enc y0)) 0 default)))]) = AV.pv (enc y2) ∧ ((Go.Pl.preT (fun (x : Lin × Unit) => linOk x.1) [(.agg [(.int .i64 y2.k), (.sl 2 false (List.map enc y2.t))])]) = true ∧ (∃ y3 : Bool, AV.pv (valT (fun (x : Lin × Unit) => validL x.1) [(.agg [(.int .i64 y2.k), (.sl 2 false (List.map enc y2.t))])]) = AV.pv (enc y3) ∧ (if (!y3) = true then G ((.tup [(.agg [(.int .i64 0), (.sl 0 true [])]), (.int .i64 1)])) else ((Go.Pl.preT (fun (x : Lin × Lin × Int × Unit) => decide (List.length x.1.t ≤ 500000) && decide (List.length x.2.1.t ≤ 500000)) [(.agg [(.int .i64 n), p]), (.agg [(.int .i64 y2.k), (.sl 2 false (List.map enc y2.t))]), (.int .i64 (PV.asInt (List.getD (PV.cells (enc y0)) (0 + 1) default)))]) = true ∧ (∃ y4 : Lin, AV.pv (valT (fun (x : Lin × Lin × Int × Unit) => timesL x.1 x.2.1 x.2.2.1) [(.agg [(.int .i64 n), p]), (.agg [(.int .i64 y2.k), (.sl 2 false (List.map enc y2.t))]), (.int .i64 (PV.asInt (List.getD (PV.cells (enc y0)) (0 + 1) default)))]) = AV.pv (enc y4) ∧ (At T_rsubst 0 (endP' rs_rsubst G) ic_rsubst 0 55 [(1, (.pv (.sl 7 false (List.map enc bs)))), (2, (.ptr 0 0)), (4, (.ptr 1 0)), (6, (.ptr 2 0)), (7, (.pv (.int .i64 (IntKind.wrap IntKind.i64 (i + 1)))))] [(.obj (.box [(.pv (.int .i64 l.k)), (.pv (.sl 2 false (List.map enc l.t)))])), (.obj (.box [(.pv (.int .i64 0)), (.pv (.sl 0 true []))])), (.obj (.box [(.pv (.int .i64 y4.k)), (.pv (.sl 2 false (List.map enc y4.t)))]))])))))) else ((Go.Pl.preT (fun (x : Lin × Unit) => linOk x.1) [(.agg [(.int .i64 y1.1.k), (.sl 2 false (List.map enc y1.1.t))])]) = true ∧ (∃ y5 : Bool, AV.pv (valT (fun (x : Lin × Unit) => validL x.1) [(.agg [(.int .i64 y1.1.k), (.sl 2 false (List.map enc y1.1.t))])]) = AV.pv (enc y5) ∧ (if (!y5) = true then G ((.tup [(.agg [(.int .i64 0), (.sl 0 true [])]), (.int .i64 1)])) else ((Go.Pl.preT (fun (x : Lin × Lin × Int × Unit) => decide (List.length x.1.t ≤ 500000) && decide (List.length x.2.1.t ≤ 500000)) [(.agg [(.int .i64 n), p]), (.agg [(.int .i64 y1.1.k), (.sl 2 false (List.map enc y1.1.t))]), (.int .i64 (PV.asInt (List.getD (PV.cells (enc y0)) (0 + 1) default)))]) = true ∧ (∃ y6 : Lin, AV.pv (valT (fun (x : Lin × Lin × Int × Unit) => timesL x.1 x.2.1 x.2.2.1) [(.agg [(.int .i64 n), p]), (.agg [(.int .i64 y1.1.k), (.sl 2 false (List.map enc y1.1.t))]), (.int .i64 (PV.asInt (List.getD (PV.cells (enc y0)) (0 + 1) default)))]) = AV.pv (enc y6) ∧ (At T_rsubst 0 (endP' rs_rsubst G) ic_rsubst 0 55 [(1, (.pv (.sl 7 false (List.map enc bs)))), (2, (.ptr 0 0)), (4, (.ptr 1 0)), (6, (.ptr 2 0)), (7, (.pv (.int .i64 (IntKind.wrap IntKind.i64 (i + 1)))))] [(.obj (.box [(.pv (.int .i64 l.k)), (.pv (.sl 2 false (List.map enc l.t)))])), (.obj (.box [(.pv (.int .i64 0)), (.pv (.sl 0 true []))])), (.obj (.box [(.pv (.int .i64 y6.k)), (.pv (.sl 2 false (List.map enc y6.t)))]))])))))))))) else ((Go.Pl.preT (fun (x : Lin × Unit) => linOk x.1) [(.agg [(.int .i64 n), p])]) = true ∧ (∃ y7 : Lin × Int, AV.pv (valT (fun (x : Lin × Unit) => limL x.1) [(.agg [(.int .i64 n), p])]) = AV.pv (enc y7) ∧ (G ((.tup [(.agg [(.int .i64 y7.1.k), (.sl 2 false (List.map enc y7.1.t))]), (.int .i64 y7.2)])))))) : At T_rsubst 0 (endP' rs_rsubst G) ic_rsubst 0 55 [(1, .pv (enc bs)), (2, .ptr 0 0), (4, .ptr 1 0), (6, .ptr 2 0), (7, .pv (.int .i64 i))] [.obj (.box [.pv (.int .i64 l.k), .pv (enc l.t)]), .obj (.box [.pv (.int .i64 0), .pv (.sl 0 true [])]), .obj (.box [.pv (.int .i64 n), .pv p])] := At.tp (.lit (.ask (.req (.abs (Coef) (fun YY => AV.pv (PV.rptr (PV.cells ((enc) YY)))) (.lit (.req (.abs (Lin × Bool) (fun YY => AV.pv (enc YY)) (.ask (.lit (.abs (Lin) (fun YY => AV.pv (enc YY)) (.req (.abs (Bool) (fun YY => AV.pv (enc YY)) (.ask (.nil) (.req (.abs (Lin) (fun YY => AV.pv (enc YY)) (.lit (.nil))))))))) (.req (.abs (Bool) (fun YY => AV.pv (enc YY)) (.ask (.nil) (.req (.abs (Lin) (fun YY => AV.pv (enc YY)) (.lit (.nil))))))))))))) (.req (.abs (Lin × Int) (fun YY => AV.pv (enc YY)) (.nil))))) h (by kernel_rfl)
def ic_lsubstL : IC := (.seq (.reg [⟨(some 3), (.box 2 (.t 0)), 0, none⟩, ⟨(some 6), (.mv (.c (.bool false))), 1, none⟩] none) (.seq (.seq (.reg [⟨(some 15), (.call (.c (.fn 32)) []), 0, none⟩, ⟨(some 16), (.un .not (.t 15)), 2, none⟩] none) (.cond (.t 16) (.seq (.reg [⟨(some 6), (.mv (.c (.bool false))), 0, none⟩] none) .ret) .skip)) (.seq (.seq (.reg [⟨(some 17), (.load true [(.int .i64), (.sl 2)] (.t 3)), 0, none⟩, ⟨(some 18), (.call (.c (.fn 20)) [(.t 17), (.c (.int .i64 14))]), 0, none⟩, ⟨(some 19), (.un .not (.t 18)), 2, none⟩, ⟨(some 20), (.mv (.t 19)), 2, none⟩, ⟨(some 21), (.mv (.t 1)), 2, (some (20, false))⟩, ⟨(some 22), (.call (.c (.fn 54)) [(.t 21)]), 2, (some (20, false))⟩, ⟨(some 23), (.un .not (.t 22)), 4, (some (20, false))⟩, ⟨(some 24), (.pick (.t 20) (.c (.bool true)) (.t 23)), 4, none⟩, ⟨(some 25), (.mv (.t 24)), 4, none⟩, ⟨(some 26), (.mv (.t 2)), 4, (some (25, false))⟩, ⟨(some 27), (.len 1 (.t 26)), 4, (some (25, false))⟩, ⟨(some 28), (.bin .num .gtr (.t 27) (.c (.int .i64 20))), 4, (some (25, false))⟩, ⟨(some 29), (.pick (.t 25) (.c (.bool true)) (.t 28)), 4, none⟩] none) (.cond (.t 29) (.seq (.reg [⟨(some 6), (.mv (.c (.bool true))), 0, none⟩] none) .ret) .skip)) (.seq (.reg [⟨(some 31), (.load true [(.int .i64), (.sl 2)] (.t 3)), 0, none⟩, ⟨(some 32), (.mv (.t 1)), 0, none⟩, ⟨(some 33), (.call (.c (.fn 55)) [(.t 31), (.t 32)]), 0, none⟩, ⟨(some 30), (.mv (.t 33)), 2, none⟩, ⟨(some 34), (.extract (.t 30) 0), 2, none⟩, ⟨(some 35), (.extract (.t 30) 1), 2, none⟩, ⟨(some 7), (.alloc (.agg [(.int .i64 0), (.sl 0 true [])])), 2, none⟩, ⟨none, (.store 2 (.t 7) (.t 34)), 3, none⟩, ⟨(some 8), (.mv (.t 35)), 3, none⟩] none) (.seq (.reg [⟨(some 37), (.load true [(.int .i64), (.sl 2)] (.t 3)), 0, none⟩, ⟨(some 38), (.mv (.t 1)), 0, none⟩, ⟨(some 39), (.call (.c (.fn 56)) [(.t 37), (.t 38)]), 0, none⟩, ⟨(some 36), (.mv (.t 39)), 2, none⟩, ⟨(some 40), (.extract (.t 36) 0), 2, none⟩, ⟨(some 41), (.extract (.t 36) 1), 2, none⟩, ⟨(some 9), (.alloc (.agg [(.int .i64 0), (.sl 0 true [])])), 2, none⟩, ⟨none, (.store 2 (.t 9) (.t 40)), 3, none⟩, ⟨(some 10), (.mv (.t 41)), 3, none⟩] none) (.seq (.reg [⟨(some 43), (.load true [(.int .i64), (.sl 2)] (.t 3)), 0, none⟩, ⟨(some 44), (.mv (.t 2)), 0, none⟩, ⟨(some 45), (.call (.c (.fn 57)) [(.t 43), (.t 44)]), 0, none⟩, ⟨(some 42), (.mv (.t 45)), 2, none⟩, ⟨(some 46), (.extract (.t 42) 0), 2, none⟩, ⟨(some 47), (.extract (.t 42) 1), 2, none⟩, ⟨(some 11), (.mv (.t 46)), 2, none⟩, ⟨(some 12), (.mv (.t 47)), 2, none⟩] none) (.seq (.reg [⟨(some 49), (.load true [(.int .i64), (.sl 2)] (.t 3)), 0, none⟩, ⟨(some 50), (.mv (.t 2)), 0, none⟩, ⟨(some 51), (.call (.c (.fn 58)) [(.t 49), (.t 50)]), 0, none⟩, ⟨(some 48), (.mv (.t 51)), 2, none⟩, ⟨(some 52), (.extract (.t 48) 0), 2, none⟩, ⟨(some 53), (.extract (.t 48) 1), 2, none⟩, ⟨(some 13), (.mv (.t 52)), 2, none⟩, ⟨(some 14), (.mv (.t 53)), 2, none⟩] none) (.seq (.reg [⟨(some 54), (.load true [(.int .i64), (.sl 2)] (.t 7)), 0, none⟩, ⟨(some 55), (.load true [(.int .i64), (.sl 2)] (.t 9)), 0, none⟩, ⟨(some 56), (.call (.c (.fn 23)) [(.t 54), (.t 55)]), 0, none⟩, ⟨(some 57), (.mv (.t 56)), 2, none⟩, ⟨(some 58), (.mv (.t 8)), 2, (some (57, true))⟩, ⟨(some 59), (.mv (.t 10)), 2, (some (57, true))⟩, ⟨(some 60), (.bin .num .eql (.t 58) (.t 59)), 2, (some (57, true))⟩, ⟨(some 61), (.pick (.t 57) (.t 60) (.c (.bool false))), 2, none⟩, ⟨(some 62), (.mv (.t 61)), 2, none⟩, ⟨(some 63), (.mv (.t 11)), 2, (some (62, true))⟩, ⟨(some 64), (.mv (.t 13)), 2, (some (62, true))⟩, ⟨(some 65), (.bin .num .eql (.t 63) (.t 64)), 2, (some (62, true))⟩, ⟨(some 66), (.pick (.t 62) (.t 65) (.c (.bool false))), 2, none⟩, ⟨(some 67), (.mv (.t 66)), 2, none⟩, ⟨(some 68), (.mv (.t 12)), 2, (some (67, true))⟩, ⟨(some 69), (.mv (.t 14)), 2, (some (67, true))⟩, ⟨(some 70), (.bin .num .eql (.t 68) (.t 69)), 2, (some (67, true))⟩, ⟨(some 71), (.pick (.t 67) (.t 70) (.c (.bool false))), 2, none⟩, ⟨(some 6), (.mv (.t 71)), 2, none⟩] none) .ret))))))))
def rs_lsubstL : List IRes := [(.tmp 6)]
abbrev nt_lsubstL : Nat := 72
def T_lsubstL : Tab := tab [(32, .pure (preT (fun _ : Unit => true)) (valT (fun _ : Unit => true))), (20, .pure (preT (fun x : Lin × Int × Unit => linOk x.1)) (valT (fun x : Lin × Int × Unit => few4 x.1 x.2.1))), (54, .pure (preT (fun x : List Bnd × Unit => decide (x.1.length ≤ 9223372036854775807) && x.1.all fun b => linOk b.dim)) (valT (fun x : List Bnd × Unit => shortB x.1))), (55, .pure (preT (fun x : Lin × List Bnd × Unit => linSm x.1 && bndsSm x.2.1)) (valT (fun x : Lin × List Bnd × Unit => substL x.1 x.2.1))), (56, .pure (preT (fun x : Lin × List Bnd × Unit => linSm x.1 && bndsSm x.2.1)) (valT (fun x : Lin × List Bnd × Unit => substL x.1 x.2.1))), (57, .pure (preT (fun x : Lin × List Coef × Unit => linSm x.1 && decide (x.2.1.length ≤ 9223372036854775807))) (valT (fun x : Lin × List Coef × Unit => evalL x.1 x.2.1))), (58, .pure (preT (fun x : Lin × List Coef × Unit => linOk x.1 && decide (x.2.1.length ≤ 9223372036854775807))) (valT (fun x : Lin × List Coef × Unit => evalL x.1 x.2.1))), (23, .pure (preT (fun x : Lin × Lin × Unit => linOk x.1)) (valT (fun x : Lin × Lin × Unit => cmpL x.1 x.2.1 == 0)))]
theorem lsubstL_s {G : PV → Prop} (l : Lin) (bs : List Bnd) (vs : List Coef) (h : ∃ y0 : Bool, AV.pv (valT (fun (x : Unit) => true) []) = AV.pv (enc y0) ∧ (if (!y0) = true then G ((.bool false)) else ((Go.Pl.preT (fun (x : Lin × Int × Unit) => linOk x.1) [(.agg [(.int .i64 l.k), (.sl 2 false (List.map enc l.t))]), (.int .i64 14)]) = true ∧ (∃ y1 : Bool, AV.pv (valT (fun (x : Lin × Int × Unit) => few4 x.1 x.2.1) [(.agg [(.int .i64 l.k), (.sl 2 false (List.map enc l.t))]), (.int .i64 14)]) = AV.pv (enc y1) ∧ (if (!y1) = true then G ((.bool true)) else ((Go.Pl.preT (fun (x : List Bnd × Unit) => decide (List.length x.1 ≤ 9223372036854775807) && List.all x.1 fun (b : Bnd) => linOk (Bnd.dim b)) [(.sl 7 false (List.map enc bs))]) = true ∧ (∃ y2 : Bool, AV.pv (valT (fun (x : List Bnd × Unit) => shortB x.1) [(.sl 7 false (List.map enc bs))]) = AV.pv (enc y2) ∧ (if (!y2) = true then G ((.bool true)) else (if (decide ((↑(List.length (List.map enc vs)) : Int) > 20)) = true then G ((.bool true)) else ((Go.Pl.preT (fun (x : Lin × List Bnd × Unit) => linSm x.1 && bndsSm x.2.1) [(.agg [(.int .i64 l.k), (.sl 2 false (List.map enc l.t))]), (.sl 7 false (List.map enc bs))]) = true ∧ (∃ y3 : Lin × Int, AV.pv (valT (fun (x : Lin × List Bnd × Unit) => substL x.1 x.2.1) [(.agg [(.int .i64 l.k), (.sl 2 false (List.map enc l.t))]), (.sl 7 false (List.map enc bs))]) = AV.pv (enc y3) ∧ ((Go.Pl.preT (fun (x : Lin × List Bnd × Unit) => linSm x.1 && bndsSm x.2.1) [(.agg [(.int .i64 l.k), (.sl 2 false (List.map enc l.t))]), (.sl 7 false (List.map enc bs))]) = true ∧ (∃ y4 : Lin × Int, AV.pv (valT (fun (x : Lin × List Bnd × Unit) => substL x.1 x.2.1) [(.agg [(.int .i64 l.k), (.sl 2 false (List.map enc l.t))]), (.sl 7 false (List.map enc bs))]) = AV.pv (enc y4) ∧ ((Go.Pl.preT (fun (x : Lin × List Coef × Unit) => linSm x.1 && decide (List.length x.2.1 ≤ 9223372036854775807)) [(.agg [(.int .i64 l.k), (.sl 2 false (List.map enc l.t))]), (.sl 2 false (List.map enc vs))]) = true ∧ (∃ y5 : Int × Int, AV.pv (valT (fun (x : Lin × List Coef × Unit) => evalL x.1 x.2.1) [(.agg [(.int .i64 l.k), (.sl 2 false (List.map enc l.t))]), (.sl 2 false (List.map enc vs))]) = AV.pv (enc y5) ∧ ((Go.Pl.preT (fun (x : Lin × List Coef × Unit) => linOk x.1 && decide (List.length x.2.1 ≤ 9223372036854775807)) [(.agg [(.int .i64 l.k), (.sl 2 false (List.map enc l.t))]), (.sl 2 false (List.map enc vs))]) = true ∧ (∃ y6 : Int × Int, AV.pv (valT (fun (x : Lin × List Coef × Unit) => evalL x.1 x.2.1) [(.agg [(.int .i64 l.k), (.sl 2 false (List.map enc l.t))]), (.sl 2 false (List.map enc vs))]) = AV.pv (enc y6) ∧ ((Go.Pl.preT (fun (x : Lin × Lin × Unit) => linOk x.1) [(.agg [(.int .i64 y3.1.k), (.sl 2 false (List.map enc y3.1.t))]), (.agg [(.int .i64 y4.1.k), (.sl 2 false (List.map enc y4.1.t))])]) = true ∧ (∃ y7 : Bool, AV.pv (valT (fun (x : Lin × Lin × Unit) => cmpL x.1 x.2.1 == 0) [(.agg [(.int .i64 y3.1.k), (.sl 2 false (List.map enc y3.1.t))]), (.agg [(.int .i64 y4.1.k), (.sl 2 false (List.map enc y4.1.t))])]) = AV.pv (enc y7) ∧ (if (y7) = true then if (y3.2 == y4.2) = true then if (y5.1 == y6.1) = true then G ((.bool (y5.2 == y6.2))) else (G ((.bool false))) else (G ((.bool false))) else (G ((.bool false))))))))))))))))))))))) : Gets T_lsubstL 0 (endP' rs_lsubstL G) ic_lsubstL [] (st0 72 [enc l, enc bs, enc vs]) := Gets.tp (.lit (.abs (Bool) (fun YY => AV.pv (enc YY)) (.ask (.nil) (.req (.abs (Bool) (fun YY => AV.pv (enc YY)) (.ask (.lit (.lit (.lit (.lit (.lit (.lit (.lit (.lit (.nil))))))))) (.lit (.req (.abs (Bool) (fun YY => AV.pv (enc YY)) (.lit (.lit (.ask (.lit (.lit (.lit (.lit (.nil))))) (.lit (.lit (.lit (.lit (.ask (.nil) (.req (.abs (Lin × Int) (fun YY => AV.pv (enc YY)) (.req (.abs (Lin × Int) (fun YY => AV.pv (enc YY)) (.req (.abs (Int × Int) (fun YY => AV.pv (enc YY)) (.req (.abs (Int × Int) (fun YY => AV.pv (enc YY)) (.req (.abs (Bool) (fun YY => AV.pv (enc YY)) (.ask (.lit (.lit (.lit (.lit (.ask (.lit (.lit (.lit (.lit (.ask (.lit (.lit (.lit (.lit (.nil))))) (.lit (.lit (.lit (.nil))))))))) (.lit (.lit (.lit (.lit (.lit (.lit (.lit (.nil))))))))))))) (.lit (.lit (.lit (.lit (.lit (.lit (.lit (.lit (.lit (.lit (.lit (.nil)))))))))))))))))))))))))))))))))))))))) h (by kernel_rfl)
end Go.Pl

namespace Go.Pl
open Go.RowKit
open Enc (enc dec is)
open EncL (encL decL isL)
structure L3 where
  a : Lin
  b : Lin
  c : Lin
  deriving DecidableEq
instance : Enc L3 where
  sz := 6
  enc x := .agg [enc x.a.k, enc x.a.t, enc x.b.k, enc x.b.t, enc x.c.k, enc x.c.t]
  dec | .agg [a, b, c, d, e, f] => ⟨⟨dec a, dec b⟩, ⟨dec c, dec d⟩, ⟨dec e, dec f⟩⟩ | _ => ⟨⟨0, []⟩, ⟨0, []⟩, ⟨0, []⟩⟩
  is | .agg [a, b, c, d, e, f] => is Int a && is (List Coef) b && is Int c && is (List Coef) d && is Int e && is (List Coef) f | _ => false
  is_enc v := by simp
  dec_enc v := by simp
  sub p h := by
    cases p with
    | agg xs =>
      match xs, h with
      | [a, b, c, d, e, f], h =>
        simp only [Bool.and_eq_true] at h
        exact .agg (.cons (Enc.sub a h.1.1.1.1.1).2 (.cons (Enc.sub b h.1.1.1.1.2).2 (.cons (Enc.sub c h.1.1.1.2).2 (.cons (Enc.sub d h.1.1.2).2 (.cons (Enc.sub e h.1.2).2 (.cons (Enc.sub f h.2).2 .nil))))))
    | _ => cases h
@[simp] theorem is_l3 (a b c d e f : PV) : is L3 (.agg [a, b, c, d, e, f]) = (is Int a && is (List Coef) b && is Int c && is (List Coef) d && is Int e && is (List Coef) f) := rfl
@[simp] theorem dec_l3 (a b c d e f : PV) : (dec (.agg [a, b, c, d, e, f]) : L3) = ⟨⟨dec a, dec b⟩, ⟨dec c, dec d⟩, ⟨dec e, dec f⟩⟩ := rfl
end Go.Pl

namespace Go.Pl
open Go.RowKit
open Enc (enc dec is)
open EncL (encL decL isL)
set_option maxRecDepth 100000
end Go.Pl

namespace Go.Pl
open Go.RowKit
open Enc (enc dec is)
open EncL (encL decL isL)
theorem w64_sm {n : Int} (h1 : -4000000000000 ≤ n) (h2 : n ≤ 4000000000000) : w64 n = n := w64_id (by omega) (by omega)
end Go.Pl

namespace Go.Pl
open Go.RowKit
open Enc (enc dec is)
open EncL (encL decL isL)
def shQ (b : Bnd) : Bool := few4 b.dim 14 && decide (b.v.s.length ≤ 40)
theorem short_no {bs : List Bnd} {i : Nat} (hi : i < bs.length) (h : shQ bs[i] = false) : shortB bs = false := by
  have : (bs.all fun b => few4 b.dim 14 && decide (b.v.s.length ≤ 40)) = false := by
    rw [List.all_eq_false]
    exact ⟨bs[i], List.getElem_mem hi, by unfold shQ at h; rw [h]; decide⟩
  unfold shortB
  rw [this]; rfl
theorem lshort_loop (bs : List Bnd) (hb : bs.length ≤ 9223372036854775807) (hd : (bs.all fun b => linOk b.dim) = true) : ∀ (m i : Nat), m + i = bs.length → (∀ j (hj : j < bs.length), j < i → shQ bs[j] = true) →
    At T_lshort 0 (endP' rs_lshort (Fits (shortB bs))) ic_lshort 0 29 [(0, .pv (enc bs)), (3, .pv (.int .i64 i))] [] := by
  intro m
  induction m with
  | zero =>
    intro i hi hall
    refine lshort_h0 bs i (iteF (lt_no (by omega)) (fitB ?_))
    have e : (bs.all fun b => few4 b.dim 14 && decide (b.v.s.length ≤ 40)) = true := by
      rw [List.all_eq_true]
      intro b hb
      obtain ⟨j, hj, rfl⟩ := List.getElem_of_mem hb
      exact hall j hj (by omega)
    unfold shortB
    rw [e, List.length_map, Bool.true_and]
    exact decide_eq_decide.2 (by omega)
  | succ m ih =>
    intro i hi hall
    have hlt : i < bs.length := by omega
    refine lshort_h0 bs i (iteT (lt_ok hlt) ⟨idx_ok hlt rfl, el_ex hlt ⟨pre_enc (bs[i].dim, (14 : Int), ()) rfl (List.all_eq_true.1 hd _ (List.getElem_mem hlt)), ex_enc (bs[i].dim, (14 : Int), ()) rfl (iteN (fun h => ?_) fun h => ⟨idx_ok hlt rfl, el_ex hlt (iteD (fun h2 => ?_) fun h2 => ?_)⟩)⟩⟩)
    · have h : few4 bs[i].dim 14 = false := h
      exact fitB (short_no hlt (by unfold shQ; rw [h]; rfl)).symm
    · have h2 : ((bs[i].v.s.length : Nat) : Int) > 40 := h2
      exact fitB (short_no hlt (by unfold shQ; rw [decide_eq_false (by omega), Bool.and_false])).symm
    · have h : few4 bs[i].dim 14 = true := h
      have h2 : ¬ ((bs[i].v.s.length : Nat) : Int) > 40 := h2
      rw [next (by omega)]
      refine ih (i + 1) (by omega) fun j hj hji => ?_
      by_cases e : j = i
      · subst e; unfold shQ; rw [h, decide_eq_true (by omega)]; rfl
      · exact hall j hj (by omega)
theorem lshort_run : ∀ a : List Bnd × Unit, (decide (a.1.length ≤ 9223372036854775807) && a.1.all fun b => linOk b.dim) = true → Gets T_lshort 0 (endP' rs_lshort (Fits (shortB a.1))) ic_lshort [] (st0 nt_lshort (encL a)) := by
  rintro ⟨bs, ⟨⟩⟩ h
  simp only [Bool.and_eq_true, decide_eq_true_eq] at h
  exact lshort_s bs (lshort_loop bs h.1 h.2 bs.length 0 (by omega) fun j _ h => by omega)
theorem bound_none {bs : List Bnd} {s : Str} (h : ∀ j (hj : j < bs.length), bndB s.s bs[j] = false) : boundL bs s = (⟨0, []⟩, false) := by
  have : bs.find? (bndB s.s) = none := by
    rw [List.find?_eq_none]
    intro b hb
    obtain ⟨j, hj, rfl⟩ := List.getElem_of_mem hb
    rw [h j hj]; decide
  unfold boundL
  rw [this]
theorem bound_some {bs : List Bnd} {s : Str} {i : Nat} (hi : i < bs.length) (hp : bndB s.s bs[i] = true) (h : ∀ j (hj : j < bs.length), j < i → bndB s.s bs[j] = false) : boundL bs s = (bs[i].dim, true) := by
  have : bs.find? (bndB s.s) = some bs[i] := by
    rw [List.find?_eq_some_iff_getElem]
    exact ⟨hp, i, hi, rfl, fun j hj => by rw [h j (by omega) hj]; rfl⟩
  unfold boundL
  rw [this]
theorem rbound_loop (bs : List Bnd) (s : Str) (hb : bs.length ≤ 9223372036854775807) : ∀ (m i : Nat), m + i = bs.length → (∀ j (hj : j < bs.length), j < i → bndB s.s bs[j] = false) →
    At T_rbound 0 (endP' rs_rbound (Fits (boundL bs s))) ic_rbound 0 34 [(0, .pv (enc bs)), (1, .pv (enc s)), (4, .ptr 0 0), (6, .pv (.int .i64 i))] [.obj (.box [.pv (.int .i64 0), .pv (.sl 0 true [])])] := by
  intro m
  induction m with
  | zero =>
    intro i hi hno
    refine rbound_h0 bs s i (iteF (lt_no (by omega)) ?_)
    rw [bound_none fun j hj => hno j hj (by omega)]
    exact ⟨rfl, rfl⟩
  | succ m ih =>
    intro i hi hno
    have hlt : i < bs.length := by omega
    have nx : bndB s.s bs[i] = false → At T_rbound 0 (endP' rs_rbound (Fits (boundL bs s))) ic_rbound 0 34 [(0, .pv (enc bs)), (1, .pv (enc s)), (4, .ptr 0 0), (6, .pv (.int .i64 (IntKind.i64.wrap (i + 1))))] [.obj (.box [.pv (.int .i64 0), .pv (.sl 0 true [])])] := by
      intro hf
      rw [next (by omega)]
      refine ih (i + 1) (by omega) fun j hj hji => ?_
      by_cases e : j = i
      · subst e; exact hf
      · exact hno j hj (by omega)
    refine rbound_h0 bs s i (iteT (lt_ok hlt) ⟨idx_ok hlt rfl, el_ex hlt (iteE (fun h1 => ⟨idx_ok hlt rfl, el_ex hlt (iteE (fun h2 => ⟨idx_ok hlt rfl, el_ex hlt ?_⟩) fun h2 => nx ?_)⟩) fun h1 => nx ?_)⟩)
    · have h1 : bs[i].kind = 1 := h1
      have h2 : bs[i].v.s = s.s := h2
      rw [bound_some hlt (by unfold bndB; rw [h2, decide_eq_true h1]; simp) hno]
      exact fits_of (x := ((bs[i].dim, true) : Lin × Bool)) rfl
    · have h2 : ¬ bs[i].v.s = s.s := h2
      unfold bndB
      have : (bs[i].v.s == s.s) = false := by simpa using h2
      rw [this, Bool.and_false]
    · have h1 : ¬ bs[i].kind = 1 := h1
      unfold bndB
      rw [decide_eq_false h1]; rfl
theorem rbound_run : ∀ a : List Bnd × Str × Unit, decide (a.1.length ≤ 9223372036854775807) = true → Gets T_rbound 0 (endP' rs_rbound (Fits (boundL a.1 a.2.1))) ic_rbound [] (st0 nt_rbound (encL a)) := by
  rintro ⟨bs, s, ⟨⟩⟩ h
  exact rbound_s bs s (rbound_loop bs s (of_decide_eq_true h) bs.length 0 (by omega) fun j _ h => by omega)
theorem rvar_run : ∀ a : Str × Unit, true = true → Gets T_rvar 0 (endP' rs_rvar (Fits (⟨0, [⟨a.1, 1⟩]⟩ : Lin))) ic_rvar [] (st0 nt_rvar (encL a)) := by
  rintro ⟨s, ⟨⟩⟩ -
  exact rvar_s s (fits_of (x := (⟨0, [⟨s, 1⟩]⟩ : Lin)) rfl)
theorem var_valid {s : Str} (h : nameB s = true) : validL ⟨0, [⟨s, 1⟩]⟩ = true := by
  simp [validL, h, ascB, coefIn]
structure RepS (k : Int) (ts : List Coef) (s : Int × List (Str × Int)) : Prop where
  k : k = s.1
  w : w64 s.1 = s.1
  rep : repM ts s.2
  nz : nzP ts
  nd : (keysM s.2).Nodup
theorem RepS.lim {k : Int} {ts : List Coef} {s : Int × List (Str × Int)} (h : RepS k ts s) : limL ⟨k, ts⟩ = resM s.1 s.2 := by
  obtain ⟨rfl, _, hr, hn, hd⟩ := h
  rw [rep_terms hr hn hd]; rfl
theorem RepS.times {k : Int} {ts : List Coef} {s : Int × List (Str × Int)} (h : RepS k ts s) (x : Lin) (c : Int) : RepS (timesL ⟨k, ts⟩ x c).k (timesL ⟨k, ts⟩ x c).t (w64 (s.1 + w64 (c * x.k)), addT c x.t s.2) := by
  obtain ⟨rfl, hw, hr, hn, hd⟩ := h
  exact ⟨times_k _ _ _, wrap_wrap _, times_rep c x.t ⟨_, ts⟩ s.2 hr, times_nz (l := ⟨s.1, ts⟩) hn, addT_nodup _ _ _ hd⟩
theorem put_bound {bs : List Bnd} {s : Int × List (Str × Int)} {t : Coef} {x : Lin} (h : boundL bs t.v = (x, true)) : putS bs s t = if validL x then some (w64 (s.1 + w64 (t.c * x.k)), addT t.c x.t s.2) else none := by
  unfold boundL at h
  unfold putS
  split at h
  · rename_i b hb
    rw [hb]
    obtain rfl : b.dim = x := (Prod.mk.injEq .. ▸ h).1
    rfl
  · exact absurd (Prod.mk.injEq .. ▸ h).2 (by decide)
theorem put_free {bs : List Bnd} {s : Int × List (Str × Int)} {t : Coef} (h : (boundL bs t.v).2 = false) (hw : w64 s.1 = s.1) (hc : w64 t.c = t.c) : putS bs s t = some (w64 (s.1 + w64 (t.c * 0)), addT t.c [⟨t.v, 1⟩] s.2) := by
  unfold boundL at h
  unfold putS
  split at h
  · cases h
  · rename_i hb
    rw [hb]
    have e0 : w64 0 = 0 := by decide
    have e1 : w64 (s.1 + w64 (t.c * 0)) = s.1 := by rw [Int.mul_zero, e0, Int.add_zero, hw]
    rw [e1]
    simp only [addT, Int.mul_one]
    have hc : IntKind.i64.wrap t.c = t.c := hc
    rw [hc]
theorem dec_two (n : Int) (p : PV) : (dec (PV.agg [.int .i64 n, p]) : Lin) = ⟨n, dec p⟩ := rfl
theorem is_two (n : Int) (p : PV) : is Lin (PV.agg [.int .i64 n, p]) = is (List Coef) p := rfl
theorem pre3 {n : Int} {p : PV} (x : Lin) (c : Int) (hp : is (List Coef) p = true) (h : (dec p : List Coef).length ≤ 500000) (hx : x.t.length ≤ 500000) : preT (fun x : Lin × Lin × Int × Unit => decide (x.1.t.length ≤ 500000) && decide (x.2.1.t.length ≤ 500000)) [.agg [.int .i64 n, p], enc x, enc c] = true := by
  have h1 : isL (Lin × Lin × Int × Unit) [PV.agg [.int .i64 n, p], enc x, enc c] = true := by
    show (is Lin (PV.agg [.int .i64 n, p]) && (is Lin (enc x) && (is Int (enc c) && true))) = true
    rw [Enc.is_enc, Enc.is_enc, is_two, hp]; rfl
  have h2 : (decL [PV.agg [.int .i64 n, p], enc x, enc c] : Lin × Lin × Int × Unit) = (⟨n, dec p⟩, x, c, ()) := by
    show ((dec (PV.agg [.int .i64 n, p]) : Lin), (dec (enc x : PV) : Lin), (dec (enc c : PV) : Int), ()) = _
    rw [Enc.dec_enc, Enc.dec_enc, dec_two]
  unfold preT
  rw [h1, h2, Bool.true_and]
  show (decide ((dec p : List Coef).length ≤ 500000) && decide (x.t.length ≤ 500000)) = true
  rw [decide_eq_true h, decide_eq_true hx]; rfl
theorem dec3 (n : Int) (p : PV) (x : Lin) (c : Int) : (decL [PV.agg [.int .i64 n, p], enc x, enc c] : Lin × Lin × Int × Unit) = (⟨n, dec p⟩, x, c, ()) := by
  show ((dec (PV.agg [.int .i64 n, p]) : Lin), (dec (enc x : PV) : Lin), (dec (enc c : PV) : Int), ()) = _
  rw [Enc.dec_enc, Enc.dec_enc, dec_two]
theorem foldS_cons (bs : List Bnd) (t : Coef) (ts : List Coef) (s : Int × List (Str × Int)) : foldS bs (t :: ts) s = match putS bs s t with | none => none | some s' => foldS bs ts s' := rfl
def endS : Option (Int × List (Str × Int)) → Lin × Int
  | none => (⟨0, []⟩, 1)
  | some s => resM s.1 s.2
theorem rsubst_loop (l : Lin) (hv : validL l = true) (bs : List Bnd) (hb : bndsSm bs = true) : ∀ (j i : Nat) (n : Int) (p : PV) (s : Int × List (Str × Int)), j + i = l.t.length → is (List Coef) p = true → (dec p : List Coef).length ≤ 12 * i → RepS n (dec p) s →
    At T_rsubst 0 (endP' rs_rsubst (Fits (endS (foldS bs (l.t.drop i) s)))) ic_rsubst 0 55 [(1, .pv (enc bs)), (2, .ptr 0 0), (4, .ptr 1 0), (6, .ptr 2 0), (7, .pv (.int .i64 i))] [.obj (.box [.pv (.int .i64 l.k), .pv (enc l.t)]), .obj (.box [.pv (.int .i64 0), .pv (.sl 0 true [])]), .obj (.box [.pv (.int .i64 n), .pv p])] := by
  have hlen := valid_len hv
  simp only [bndsSm, Bool.and_eq_true, decide_eq_true_eq, List.all_eq_true] at hb
  obtain ⟨hb1, hb2⟩ := hb
  intro j
  induction j with
  | zero =>
    intro i n p s hi hp hl hr
    have ed : l.t.drop i = [] := List.drop_of_length_le (by omega)
    rw [ed]
    refine rsubst_h0 l bs n p i (iteF (lt_no (by omega)) ⟨pre_val ((⟨n, dec p⟩ : Lin), ()) ?_ rfl (decide_eq_true (by show (dec p : List Coef).length ≤ _; omega)), ex_val ((⟨n, dec p⟩ : Lin), ()) rfl ?_⟩)
    · show (is Lin (PV.agg [.int .i64 n, p]) && true) = true
      rw [is_two, hp]; rfl
    · exact fits_of (x := limL ⟨n, dec p⟩) hr.lim
  | succ j ih =>
    intro i n p s hi hp hl hr
    have hlt : i < l.t.length := by omega
    have hd : l.t.drop i = l.t[i] :: l.t.drop (i + 1) := List.drop_eq_getElem_cons hlt
    rw [hd, foldS_cons]
    have hco := valid_coef hv (List.getElem_mem hlt)
    refine rsubst_h0 l bs n p i (iteT (lt_ok hlt) ⟨idx_ok hlt rfl, el_ex hlt ?_⟩)
    generalize l.t[i] = t at hco ⊢
    refine ⟨pre_enc (bs, t.v, ()) rfl (decide_eq_true hb1), ex_enc (bs, t.v, ()) rfl (iteN (fun hf => ?_) fun ht => ?_)⟩
    · have hf : (boundL bs t.v).2 = false := hf
      have hx := var_valid hco.1
      have hc : w64 t.c = t.c := w64_sm (by omega) (by omega)
      refine ex_enc (t.v, ()) rfl ⟨pre_enc ((⟨0, [⟨t.v, 1⟩]⟩ : Lin), ()) rfl (by rfl), ex_enc ((⟨0, [⟨t.v, 1⟩]⟩ : Lin), ()) rfl (iteN (fun h => ?_) fun _ => ⟨pre3 (⟨0, [⟨t.v, 1⟩]⟩ : Lin) t.c hp (by omega) (by show 1 ≤ 500000; omega), ex_val ((⟨n, dec p⟩ : Lin), (⟨0, [⟨t.v, 1⟩]⟩ : Lin), t.c, ()) (dec3 n p _ _) ?_⟩)⟩
      · have h : validL ⟨0, [⟨t.v, 1⟩]⟩ = false := h
        rw [hx] at h; cases h
      · rw [put_free hf hr.w hc, next (by omega)]
        have hr2 := hr.times ⟨0, [⟨t.v, 1⟩]⟩ t.c
        have hlen2 : (timesL ⟨n, dec p⟩ ⟨0, [⟨t.v, 1⟩]⟩ t.c).t.length ≤ (dec p : List Coef).length + 1 := times_len [⟨t.v, 1⟩] t.c _
        exact ih (i + 1) (timesL ⟨n, dec p⟩ ⟨0, [⟨t.v, 1⟩]⟩ t.c).k (enc (timesL ⟨n, dec p⟩ ⟨0, [⟨t.v, 1⟩]⟩ t.c).t) (w64 (s.1 + w64 (t.c * 0)), addT t.c [⟨t.v, 1⟩] s.2) (by omega) (Enc.is_enc _) (by rw [Enc.dec_enc]; omega) (by rw [Enc.dec_enc]; exact hr2)
    · have ht : (boundL bs t.v).2 = true := ht
      have hbd : boundL bs t.v = ((boundL bs t.v).1, true) := by rw [← ht]
      have hsm : linSm (boundL bs t.v).1 = true := by
        unfold boundL
        split
        · rename_i b hfb
          exact hb2 b (List.mem_of_find?_eq_some hfb)
        · rfl
      rw [put_bound hbd]
      refine ⟨pre_enc ((boundL bs t.v).1, ()) rfl (sm_ok hsm), ex_enc ((boundL bs t.v).1, ()) rfl (iteN (fun hx => ?_) fun hx => ?_)⟩
      · have hx : validL (boundL bs t.v).1 = false := hx
        rw [hx]
        exact ⟨rfl, rfl⟩
      · have hx : validL (boundL bs t.v).1 = true := hx
        rw [hx, if_pos rfl]
        have hxl := valid_len hx
        refine ⟨pre3 (boundL bs t.v).1 t.c hp (by omega) (by omega), ex_val ((⟨n, dec p⟩ : Lin), (boundL bs t.v).1, t.c, ()) (dec3 n p _ _) ?_⟩
        rw [next (by omega)]
        have hr2 := hr.times (boundL bs t.v).1 t.c
        have hlen2 : (timesL ⟨n, dec p⟩ (boundL bs t.v).1 t.c).t.length ≤ (dec p : List Coef).length + (boundL bs t.v).1.t.length := times_len _ t.c _
        exact ih (i + 1) (timesL ⟨n, dec p⟩ (boundL bs t.v).1 t.c).k (enc (timesL ⟨n, dec p⟩ (boundL bs t.v).1 t.c).t) (w64 (s.1 + w64 (t.c * (boundL bs t.v).1.k)), addT t.c (boundL bs t.v).1.t s.2) (by omega) (Enc.is_enc _) (by rw [Enc.dec_enc]; omega) (by rw [Enc.dec_enc]; exact hr2)
theorem subst_end (l : Lin) (bs : List Bnd) : substL l bs = if validL l then endS (foldS bs l.t (l.k, [])) else (⟨0, []⟩, 1) := by
  unfold substL
  split
  · cases foldS bs l.t (l.k, []) <;> rfl
  · rfl
theorem rsubst_run : ∀ a : Lin × List Bnd × Unit, (linSm a.1 && bndsSm a.2.1) = true → Gets T_rsubst 0 (endP' rs_rsubst (Fits (substL a.1 a.2.1))) ic_rsubst [] (st0 nt_rsubst (encL a)) := by
  rintro ⟨l, bs, ⟨⟩⟩ h
  simp only [Bool.and_eq_true] at h
  show Gets T_rsubst 0 (endP' rs_rsubst (Fits (substL l bs))) _ _ _
  rw [subst_end]
  refine rsubst_s l bs ⟨pre_enc (l, ()) rfl (sm_ok h.1), ex_enc (l, ()) rfl (iteN (fun hv => ?_) fun hv => ?_)⟩
  · have hv : validL l = false := hv
    rw [hv]
    exact ⟨rfl, rfl⟩
  · have hv : validL l = true := hv
    have hk := valid_k hv
    rw [hv, if_pos rfl]
    exact rsubst_loop l hv bs h.2 l.t.length 0 l.k (.sl 0 true []) (l.k, []) (by omega) rfl (by simp) ⟨rfl, w64_sm (by omega) (by omega), ⟨List.Pairwise.nil, fun _ => rfl⟩, (fun t ht => absurd ht (List.not_mem_nil)), List.nodup_nil⟩
theorem short_sm {bs : List Bnd} (h : shortB bs = true) (hl : (bs.all fun b => linOk b.dim) = true) : bndsSm bs = true := by
  unfold shortB at h
  simp only [Bool.and_eq_true, decide_eq_true_eq] at h
  unfold bndsSm
  rw [decide_eq_true (by omega), Bool.true_and, List.all_eq_true]
  intro b hb
  have h1 := List.all_eq_true.1 h.1 b hb
  simp only [Bool.and_eq_true] at h1
  exact few_sm h1.1 (List.all_eq_true.1 hl b hb)
theorem resM_lok (n : Int) (m : List (Str × Int)) : linOk (resM n m).1 = true := by
  unfold resM
  split
  · rename_i h
    have := valid_len h
    have h2 : (termsM m).length ≤ 12 := this
    exact decide_eq_true (show (termsM m).length ≤ _ by omega)
  · rfl
theorem subst_lok (l : Lin) (bs : List Bnd) : linOk (substL l bs).1 = true := by
  rw [subst_end]
  split
  · unfold endS
    split
    · rfl
    · exact resM_lok _ _
  · rfl
theorem lsubstL_run : ∀ a : Lin × List Bnd × List Coef × Unit, (linOk a.1 && (decide (a.2.1.length ≤ 9223372036854775807) && a.2.1.all fun b => linOk b.dim) && decide (a.2.2.1.length ≤ 9223372036854775807)) = true → Gets T_lsubstL 0 (endP' rs_lsubstL (Fits true)) ic_lsubstL [] (st0 nt_lsubstL (encL a)) := by
  rintro ⟨l, bs, vs, ⟨⟩⟩ h
  simp only [Bool.and_eq_true, decide_eq_true_eq] at h
  obtain ⟨⟨hl, hb1, hb2⟩, hv⟩ := h
  have hbp : (decide (bs.length ≤ 9223372036854775807) && bs.all fun b => linOk b.dim) = true := by rw [decide_eq_true hb1, hb2]; rfl
  refine lsubstL_s l bs vs (ex_enc () rfl (iteN (fun h => by cases h) fun _ => ⟨pre_enc (l, (14 : Int), ()) rfl hl, ex_enc (l, (14 : Int), ()) rfl (iteN (fun _ => fits_of rfl) fun hf => ?_)⟩))
  refine ⟨pre_enc (bs, ()) rfl hbp, ex_enc (bs, ()) rfl (iteN (fun _ => fits_of rfl) fun hs => iteC (fun _ => fits_of rfl) fun _ => ?_)⟩
  have hf : few4 l 14 = true := hf
  have hs : shortB bs = true := hs
  have sl := few_sm hf hl
  have sb := short_sm hs hb2
  have hp : (linSm l && bndsSm bs) = true := by rw [sl, sb]; rfl
  have he : (linSm l && decide (vs.length ≤ 9223372036854775807)) = true := by rw [sl, decide_eq_true hv]; rfl
  have he' : (linOk l && decide (vs.length ≤ 9223372036854775807)) = true := by rw [hl, decide_eq_true hv]; rfl
  refine ⟨pre_enc (l, bs, ()) rfl hp, ex_enc (l, bs, ()) rfl ⟨pre_enc (l, bs, ()) rfl hp, ex_enc (l, bs, ()) rfl ⟨pre_enc (l, vs, ()) rfl he, ex_enc (l, vs, ()) rfl ⟨pre_enc (l, vs, ()) rfl he', ex_enc (l, vs, ()) rfl ?_⟩⟩⟩⟩
  refine ⟨pre_enc ((substL l bs).1, (substL l bs).1, ()) rfl (subst_lok l bs), ex_enc ((substL l bs).1, (substL l bs).1, ()) rfl (iteT (cmp_self _) (iteE (fun _ => iteE (fun _ => fitB (beq_self_eq_true _)) fun h => absurd rfl h) fun h => absurd rfl h))⟩
end Go.Pl

