/-
  Texts of mine that belong together (packed by pack.py), for every input: PlDl, PlOf, PlRw.
-/
import Derived.Test.YtfagcgjdholinaaGreatDoorKX2
import Derived.MapKept
set_option linter.unusedVariables false
set_option linter.unusedSimpArgs false
namespace Go.Pl
open Go.RowKit
open Go.ChangeMaps (setBlock)
open Go.MapKept (IsKey findNow_spec heap_set)
def zeroV : Value -> Bool
 | .int _ n => n == 0
 | _ => false
def zeroP (p : PV × PV) : Bool := match p.2 with | .int _ n => n == 0 | _ => false
def curM (mes : Array MapEntry) (seen : Array Nat) : Array MapEntry := mes.filter fun e => !(seen.contains e.born && zeroV e.val)
theorem eraseIdx_filter {l : List MapEntry} {j : Nat} {e : MapEntry} (hb : (l.map (·.born)).Nodup) (hj : l[j]? = some e) : l.eraseIdx j = l.filter fun x => x.born != e.born := by
 induction l generalizing j with
 | nil => simp at hj
 | cons x l ih =>
  simp only [List.map_cons, List.nodup_cons] at hb
  cases j with
  | zero =>
   simp at hj
   subst hj
   have : l.filter (fun y => y.born != x.born) = l := List.filter_eq_self.2 fun y hy => by
    have : y.born ≠ x.born := fun e => hb.1 (List.mem_map.2 ⟨y, hy, e⟩)
    simpa using this
   simp [this]
  | succ j =>
   have hne : x.born ≠ e.born := fun h => hb.1 (List.mem_map.2 ⟨e, List.mem_of_getElem? (by simpa using hj), h.symm⟩)
   rw [List.eraseIdx_cons_succ, List.filter_cons, if_pos (by simpa using hne), ih hb.2 (by simpa using hj)]
theorem curM_push {mes : Array MapEntry} {seen : Array Nat} {e : MapEntry} (hb : (mes.toList.map (·.born)).Nodup) (he : e ∈ mes.toList) (hz : zeroV e.val = false) : curM mes (seen.push e.born) = curM mes seen := by
 unfold curM
 apply Array.toList_inj.1
 rw [Array.toList_filter, Array.toList_filter]
 apply List.filter_congr
 intro x hx
 by_cases h : x.born = e.born
 ·have : x = e := by
   obtain ⟨i, hi, rfl⟩ := List.getElem_of_mem hx
   obtain ⟨j, hj, rfl⟩ := List.getElem_of_mem he
   have : i = j := by
    have e1 : (mes.toList.map (·.born))[i]'(by simpa using hi) = (mes.toList.map (·.born))[j]'(by simpa using hj) := by simpa using h
    exact (List.getElem_inj hb).1 e1
   subst this; rfl
  subst this
  simp [hz]
 ·have : (seen.push e.born).contains x.born = seen.contains x.born := by
   simp [h]
  rw [this]
theorem curM_del {mes : Array MapEntry} {seen : Array Nat} {e : MapEntry} (hb : (mes.toList.map (·.born)).Nodup) (he : e ∈ mes.toList) (hz : zeroV e.val = true) : (curM mes (seen.push e.born)).toList = (curM mes seen).toList.filter fun x => x.born != e.born := by
 unfold curM
 rw [Array.toList_filter, Array.toList_filter, List.filter_filter]
 apply List.filter_congr
 intro x hx
 by_cases h : x.born = e.born
 ·have : x = e := by
   obtain ⟨i, hi, rfl⟩ := List.getElem_of_mem hx
   obtain ⟨j, hj, rfl⟩ := List.getElem_of_mem he
   have : i = j := by
    have e1 : (mes.toList.map (·.born))[i]'(by simpa using hi) = (mes.toList.map (·.born))[j]'(by simpa using hj) := by simpa using h
    exact (List.getElem_inj hb).1 e1
   subst this; rfl
  subst this
  simp [hz]
 ·have : (seen.push e.born).contains x.born = seen.contains x.born := by
   simp [h]
  rw [this]
  simp [h]
theorem curM_sub {mes : Array MapEntry} {seen : Array Nat} {x : MapEntry} (h : x ∈ (curM mes seen).toList) : x ∈ mes.toList := by
 unfold curM at h
 rw [Array.toList_filter] at h
 exact (List.mem_filter.1 h).1
theorem curM_nodup {mes : Array MapEntry} {seen : Array Nat} (hb : (mes.toList.map (·.born)).Nodup) : ((curM mes seen).toList.map (·.born)).Nodup := by
 unfold curM
 rw [Array.toList_filter]
 exact (List.filter_sublist.map _).nodup hb
theorem curM_all {mes : Array MapEntry} {seen : Array Nat} (h : (leftOf (curM mes seen) seen).size = 0) : curM mes seen = mes.filter fun e => !zeroV e.val := by
 have h0 : leftOf (curM mes seen) seen = #[] := Array.size_eq_zero_iff.1 h
 unfold leftOf at h0
 rw [Array.filter_eq_empty_iff] at h0
 unfold curM at h0 ⊢
 apply Array.toList_inj.1
 rw [Array.toList_filter, Array.toList_filter]
 apply List.filter_congr
 intro x hx
 cases hz : zeroV x.val
 ·simp
 ·by_cases hs : seen.contains x.born = true
  ·rw [hs]; rfl
  ·exfalso
   have hs' : seen.contains x.born = false := by simpa using hs
   have := h0 x (by rw [Array.mem_filter]; exact ⟨by simpa using hx, by rw [hs']; rfl⟩)
   rw [hs'] at this
   exact this rfl
theorem ev_putD {a : Act} {i j : Nat} {v : Value} (h : i < a.tmps.size) : (a.put (some i) v).eval (.tmp j) = if j = i then v else a.eval (.tmp j) := by
 by_cases e : j = i
 ·subst e; rw [if_pos rfl]; exact put_same h
 ·rw [if_neg e]
  simp [Act.put, Act.eval, Array.getD_eq_getD_getElem?, Array.getElem?_setIfInBounds_ne (Ne.symm e)]
theorem size_put (a : Act) (i : Nat) (v : Value) : (a.put (some i) v).tmps.size = a.tmps.size := by simp [Act.put]
structure DelParts where
 ms : Nat
 b : Nat
 kv : Nat
 vv : Nat
def isMv (o : Oper) : Option (Nat × Nat) := match o.guard, o.op, o.dst with
 | none, .move (.tmp s), some d => some (d, s)
 | none, .assign (.tmp s), some d => some (d, s)
 | _, _, _ => none
def isRangeT (P : Program) (o : Oper) : Option (Nat × Nat) := match isRange P o with | some (.tmp s, d) => some (d, s) | _ => none
def isExtK (k : Nat) (o : Oper) : Option (Nat × Nat) := match o.guard, o.op, o.dst with
 | none, .extract (.tmp nt) j, some tb => if j = k then some (tb, nt) else none
 | _, _, _ => none
def isEqZ (o : Oper) : Option (Nat × Nat) := match o.guard, o.op, o.dst with
 | none, .binOp .eql _ (.tmp s) (.const (.int .i64 0)) _, some d => some (d, s)
 | _, _, _ => none
def isDel (P : Program) (o : Oper) : Option (Nat × Nat) := match o.guard, o.op, o.dst with
 | none, .call c, none => match c.callee, c.args.toList, c.argTypes.toList with
  | .builtin .delete, [.tmp m, .tmp k], [mt, kt] => match P.underlying mt, P.underlying kt with
   | some (.map kt' _), some .string => if kt = kt' then some (m, k) else none
   | _, _ => none
  | _, _, _ => none
 | _, _, _ => none
def delParts (P : Program) : Code -> Option DelParts
 | .seq (.region _ opsA false) (.block b0 (.loop (.seq (.region _ opsN false) (.seq (.cond (.tmp tb) .skip (.exit b0')) (.block _ (.seq (.region _ opsE false) (.seq (.region _ opsC false) (.cond (.tmp tc) (.region _ opsD false) .skip)))))))) =>
  match opsA.toList, opsN.toList, opsE.toList, opsC.toList, opsD.toList with
  | [oA, oR], [oN, oX], [oE, oE0, oE1, oK, oV], [oC, oZ], [oM, oQ, oD] =>
   (isMv oA).bind fun a => (isRangeT P oR).bind fun r => (isNext oN).bind fun n => (isExtK 0 oX).bind fun x => (isEntry oE).bind fun e => (isExtK 0 oE0).bind fun e0 => (isExtK 1 oE1).bind fun e1 => (isMv oK).bind fun k => (isMv oV).bind fun v =>
   (isMv oC).bind fun c => (isEqZ oZ).bind fun z => (isMv oM).bind fun m => (isMv oQ).bind fun q => (isDel P oD).bind fun d =>
    let b := a.1; let ms := a.2
    if b0 = b0' ∧ r = (b + 1, b) ∧ n = (b + 1, b + 2) ∧ x = (b + 3, b + 2) ∧ tb = b + 3 ∧ e = (b + 1, b + 4) ∧ e0 = (b + 5, b + 4) ∧ e1 = (b + 6, b + 4) ∧ k.2 = b + 5 ∧ v.2 = b + 6 ∧ c = (b + 7, v.1) ∧ z = (b + 8, b + 7) ∧ tc = b + 8 ∧ m = (b + 9, ms) ∧ q = (b + 10, k.1) ∧ d = (b + 9, b + 10) ∧ ms < b ∧ k.1 < b ∧ v.1 < b ∧ k.1 ≠ v.1 ∧ k.1 ≠ ms ∧ v.1 ≠ ms
    then some ⟨ms, b, k.1, v.1⟩ else none
  | _, _, _, _, _ => none
 | _ => none
section
variable {P : Program} {T : Tab} {c : Ctx} {rd : Option Nat} {nn : Nat}
theorem mv_step {ops : Array Oper} {Q : PostA} {o : Oper} {rest : List Oper} {aa : Act} {w : World} {d s : Nat} (h : isMv o = some (d, s)) (hK : wpListIn (freeF rd) nn P ops Q rest (aa.put (some d) (aa.eval (.tmp s))) w) : wpListIn (freeF rd) nn P ops Q (o :: rest) aa w := by
 unfold isMv at h
 split at h
 ·rename_i h1 h2 h3
  cases h
  refine op_step h1 (by rw [h2]; simp) (x := aa.eval (.tmp s)) (w' := w) ?_ (by rw [h3]; exact hK)
  simp [execOp, h2]
 ·rename_i h1 h2 h3
  cases h
  refine op_step h1 (by rw [h2]; simp) (x := aa.eval (.tmp s)) (w' := w) ?_ (by rw [h3]; exact hK)
  simp [execOp, h2]
 ·cases h
theorem ext_step {ops : Array Oper} {Q : PostA} {o : Oper} {rest : List Oper} {aa : Act} {w : World} {k d s : Nat} {vs : Array Value} {v : Value} (h : isExtK k o = some (d, s)) (he : aa.eval (.tmp s) = .tuple vs) (hv : vs[k]? = some v) (hK : wpListIn (freeF rd) nn P ops Q rest (aa.put (some d) v) w) : wpListIn (freeF rd) nn P ops Q (o :: rest) aa w := by
 unfold isExtK at h
 split at h
 ·rename_i h1 h2 h3
  split at h
  ·rename_i hj
   subst hj
   cases h
   refine op_step h1 (by rw [h2]; simp) (x := v) (w' := w) ?_ (by rw [h3]; exact hK)
   simp [execOp, h2, he, Instr.extract, hv]
  ·cases h
 ·cases h
theorem eqz_step {ops : Array Oper} {Q : PostA} {o : Oper} {rest : List Oper} {aa : Act} {w : World} {d s : Nat} {n : Int} (h : isEqZ o = some (d, s)) (he : aa.eval (.tmp s) = .int .i64 n) (hK : wpListIn (freeF rd) nn P ops Q rest (aa.put (some d) (.bool (n == 0))) w) : wpListIn (freeF rd) nn P ops Q (o :: rest) aa w := by
 unfold isEqZ at h
 split at h
 ·rename_i t h1 h2 h3
  cases h
  refine op_step h1 (by rw [h2]; simp) (x := .bool (n == 0)) (w' := w) ?_ (by rw [h3]; exact hK)
  have hc : aa.eval (.const (.int .i64 0)) = .int .i64 0 := rfl
  simp only [execOp, h2, he, hc, Sem.run_bind]
  rw [eqg (by simp) (by simp)]
  simp [binOp, Op.intCmp]
 ·cases h
theorem del_step {ops : Array Oper} {Q : PostA} {o : Oper} {rest : List Oper} {aa : Act} {w : World} {m k B clock j : Nat} {es : Array MapEntry} {key : Value} {e : MapEntry} (h : isDel P o = some (m, k)) (hm : aa.eval (.tmp m) = .map (some B)) (hk : aa.eval (.tmp k) = key)
  (hb : w.heap[B]? = some (.map es clock)) (hkey : IsKey .string key) (hf : Instr.findNow .string key es.toList 0 = some (some (j, e.val)))
  (hK : wpListIn (freeF rd) nn P ops Q rest aa { w with heap := w.heap.setIfInBounds B (.map (es.eraseIdxIfInBounds j) clock) }) : wpListIn (freeF rd) nn P ops Q (o :: rest) aa w := by
 unfold isDel at h
 split at h
 ·rename_i c h1 h2 h3
  split at h
  ·rename_i m' k' mt kt q1 q2 q3
   split at h
   ·rename_i kt' et u1 u2
    split at h
    ·rename_i hkt
     subst hkt
     cases h
     obtain ⟨callee, args, ats⟩ := c
     simp only at q1 q2 q3
     subst q1
     have e1 : args = #[.tmp m, .tmp k] := by simpa using congrArg List.toArray q2
     have e2 : ats = #[mt, kt] := by simpa using congrArg List.toArray q3
     subst e1 e2
     refine op_step h1 (by rw [h2]; simp) (x := .tuple #[]) (w' := { w with heap := w.heap.setIfInBounds B (.map (es.eraseIdxIfInBounds j) clock) }) ?_ (by rw [h3]; exact hK)
     simp [execOp, h2, resolve, invoke, builtin, hm, hk, Builtin.delete_, run_underlying u1, Go.MapKept.run_getObj_map hb, Go.MapKept.run_checkKey u2 hkey, Go.MapKept.run_findKey u2 hf, Go.MapKept.run_setObj_map _ hb, Result.andThen]
    ·cases h
   ·cases h
  ·cases h
 ·cases h
theorem junks_ok {μ : Mu} {Φ : Phi} {t t' : Array Value} (hs : t'.size = t.size) : ∀ (sc : List Nat) {env : List AV}, EnvR μ Φ t env -> (∀ j, j ∉ sc -> t'[j]? = t[j]?) -> EnvR μ Φ t' (sc.foldl (fun e i => e.set i .junk) env) := by
 intro sc env h hag
 have hlen : ∀ (sc : List Nat) (env : List AV), (sc.foldl (fun e i => e.set i .junk) env).length = env.length := by
  intro sc
  induction sc with
  | nil => intro env; rfl
  | cons i sc ih => intro env; rw [List.foldl_cons, ih, List.length_set]
 have hget : ∀ (sc : List Nat) (env : List AV) (j : Nat) (x : AV), (sc.foldl (fun e i => e.set i .junk) env)[j]? = some x -> x = .junk ∨ (j ∉ sc ∧ env[j]? = some x) := by
  intro sc
  induction sc with
  | nil => intro env j x hx; exact .inr ⟨by simp, hx⟩
  | cons i sc ih =>
   intro env j x hx
   rw [List.foldl_cons] at hx
   rcases ih _ j x hx with h | ⟨h1, h2⟩
   ·exact .inl h
   ·rw [List.getElem?_set] at h2
    split at h2
    ·rename_i e
     subst e
     split at h2
     ·cases h2; exact .inl rfl
     ·cases h2
    ·rename_i e
     exact .inr ⟨by simp only [List.mem_cons, not_or]; exact ⟨fun h => e h.symm, h1⟩, h2⟩
 refine ⟨by rw [hlen]; have := h.1; simp at this ⊢; omega, fun j v x hv hx => ?_⟩
 rcases hget sc env j x hx with rfl | ⟨h1, h2⟩
 ·exact .junk v
 ·refine h.2 j v x ?_ h2
  have := hag j h1
  simp only [Array.getElem?_toList] at hv ⊢
  rw [<- this]; exact hv
structure Ag (sc : List Nat) (a a' : Act) : Prop where
 size : a'.tmps.size = a.tmps.size
 defers : a'.defers = a.defers
 same : ∀ j, j ∉ sc -> a'.tmps[j]? = a.tmps[j]?
theorem Ag.refl (sc : List Nat) (a : Act) : Ag sc a a := ⟨rfl, rfl, fun _ _ => rfl⟩
theorem Ag.put {sc : List Nat} {a a' : Act} (h : Ag sc a a') {i : Nat} (hi : i ∈ sc) (v : Value) : Ag sc a (a'.put (some i) v) :=
 ⟨by rw [size_put]; exact h.size, by rw [put_defers]; exact h.defers, fun j hj => by
  have : i ≠ j := fun e => hj (e ▸ hi)
  rw [<- h.same j hj]
  simp [Act.put, Array.getElem?_setIfInBounds_ne this]⟩
theorem Ag.eval {sc : List Nat} {a a' : Act} (h : Ag sc a a') {j : Nat} (hj : j ∉ sc) : a'.eval (.tmp j) = a.eval (.tmp j) := by
 simp [Act.eval, Array.getD_eq_getD_getElem?, h.same j hj]
def DelParts.sc (p : DelParts) : List Nat := ((List.range 11).map (p.b + ·)) ++ [p.kv, p.vv]
theorem sc_mem (p : DelParts) {i : Nat} (h : i < 11) : p.b + i ∈ p.sc := by
 unfold DelParts.sc
 exact List.mem_append_left _ (List.mem_map.2 ⟨i, List.mem_range.2 h, rfl⟩)
theorem filter_pair {Φ : Phi} : ∀ {l : List MapEntry} {es : List (PV × PV)}, l.length = es.length -> (∀ (j : Nat) e p, l[j]? = some e -> es[j]? = some p -> (RP Φ e.key p.1 ∧ RP Φ e.val p.2) ∧ zeroV e.val = zeroP p) ->
  (l.filter fun e => !zeroV e.val).length = (es.filter fun p => !zeroP p).length ∧ ∀ (j : Nat) e p, (l.filter fun e => !zeroV e.val)[j]? = some e -> (es.filter fun p => !zeroP p)[j]? = some p -> RP Φ e.key p.1 ∧ RP Φ e.val p.2
 | [], [], _, _ => ⟨rfl, fun j e p h => by simp at h⟩
 | e :: l, p :: es, hn, h => by
  obtain ⟨h1, h2⟩ := filter_pair (l := l) (es := es) (by simpa using hn) fun j a b ha hb => h (j + 1) a b ha hb
  have h0 := h 0 e p rfl rfl
  rw [List.filter_cons, List.filter_cons, h0.2]
  cases hz : zeroP p
  ·refine ⟨by simp [h1], fun j a b ha hb => ?_⟩
   cases j with
   | zero => simp at ha hb; subst ha hb; exact h0.1
   | succ j => exact h2 j a b (by simpa using ha) (by simpa using hb)
  ·exact ⟨by simpa using h1, fun j a b ha hb => h2 j a b (by simpa using ha) (by simpa using hb)⟩
 | [], _ :: _, hn, _ => by simp at hn
 | _ :: _, [], hn, _ => by simp at hn
theorem del_run {cd : Code} {p : DelParts} {st : St} {a : Act} {w : World} {lm : Nat} {es : List (PV × PV)} {Q : PostA} (hcd : delParts P cd = some p) (hr : Rel c st a w) (hms : st.env[p.ms]? = some (.map lm)) (hlen : p.b + 11 <= st.env.length) (hes : st.heap[lm]? = some (.obj (.map es)))
  (hk : ∀ kv ∈ es, ∃ s n, kv = (.str s, .int .i64 n)) (hnd : (es.map (·.1)).Nodup)
  (hQ : ∀ a' w', Rel c ⟨p.sc.foldl (fun e i => e.set i .junk) st.env, st.heap.set lm (.obj (.map (es.filter fun kv => !zeroP kv)))⟩ a' w' -> Q .normal a' w') : cd.wpIn (freeF rd) nn P Q a w := by
 unfold delParts at hcd
 split at hcd
 ·rename_i ida opsA b0 idn opsN tb b0' b1 ide opsE idc opsC tc idd opsD
  split at hcd
  ·rename_i oA oR oN oX oE oE0 oE1 oK oV oC oZ oM oQ oD hA hN hE hC hD
   simp only [Option.bind_eq_some_iff] at hcd
   obtain ⟨pa, h1, pr, h2, pn, h3, px, h4, pe, h5, p0, h6, p1, h7, pk, h8, pv, h9, pc, h10, pz, h11, pm, h12, pq, h13, pd, h14, hcd⟩ := hcd
   split at hcd
   ·rename_i hc
    obtain ⟨rfl, rfl, rfl, rfl, rfl, rfl, rfl, rfl, k1, v1, rfl, rfl, rfl, rfl, rfl, rfl, l1, l2, l3, n1, n2, n3⟩ := hc
    obtain ⟨b, ms⟩ := pa
    obtain ⟨kv, kv'⟩ := pk
    obtain ⟨vv, vv'⟩ := pv
    simp only at k1 v1 l1 l2 l3 n1 n2 n3 hcd h2 h3 h4 h5 h6 h7 h10 h11 h12 h13 h14
    subst k1 v1
    cases hcd
    simp only at hms hlen hQ
    obtain ⟨μ, Φ, hg, he, hd⟩ := hr
    obtain ⟨B, C, Sz, mes, clock, e1, e2, e3, e4, e5, e6⟩ := hg.obj lm _ hes
    have hsz : a.tmps.size = st.env.length := by have := he.1; simpa using this
    have hmv : a.eval (.tmp ms) = .map (some B) := by
     obtain ⟨hR, _⟩ := env_eval he hms
     generalize a.eval (.tmp ms) = q at hR ⊢
     cases hR with
     | map l B' C' S' h => rw [e1] at h; cases h; rfl
    have hBlt : B < w.heap.size := (Array.getElem?_eq_some_iff.1 e2).1
    -- the entries
    have hent : ∀ e ∈ mes.toList, ∃ (i : Nat) (s : List UInt8) (n : Int), mes[i]? = some e ∧ es[i]? = some (.str s, .int .i64 n) ∧ e.key = .string ⟨s.toArray⟩ ∧ e.val = .int .i64 n := by
     intro e hm
     obtain ⟨i, hi, hie⟩ := List.getElem_of_mem hm
     have hi' : i < mes.size := by simpa using hi
     have hme : mes[i]? = some e := by rw [Array.getElem?_eq_getElem hi']; simpa using hie
     have hie' : i < es.length := by omega
     obtain ⟨s, n, hsn⟩ := hk es[i] (List.getElem_mem hie')
     have hee : es[i]? = some (.str s, .int .i64 n) := by rw [List.getElem?_eq_getElem hie', hsn]
     obtain ⟨q1, q2⟩ := e4 i e _ hme hee
     refine ⟨i, s, n, hme, hee, ?_, ?_⟩
     ·generalize hq : (PV.str s) = q at q1
      generalize e.key = u at q1 ⊢
      cases q1 <;> cases hq
      rfl
     ·generalize hq : (PV.int IntKind.i64 n) = q at q2
      generalize e.val = u at q2 ⊢
      cases q2 <;> cases hq
      rfl
    have hkeys : ∀ e ∈ mes.toList, ∀ e' ∈ mes.toList, e.key = e'.key -> e = e' := by
     intro e hm e' hm' hee
     obtain ⟨i, s, n, q1, q2, q3, q4⟩ := hent e hm
     obtain ⟨i', s', n', r1, r2, r3, r4⟩ := hent e' hm'
     rw [q3, r3] at hee
     have hss : s = s' := by
      have := congrArg (fun v => match v with | Value.string b => b.data.toList | _ => []) hee
      simpa using this
     subst hss
     have hi := (List.getElem?_eq_some_iff.1 q2).1
     have hi' := (List.getElem?_eq_some_iff.1 r2).1
     have : i = i' := by
      have a1 : (es.map (·.1))[i]'(by simpa using hi) = .str s := by
       have := (List.getElem?_eq_some_iff.1 q2).2
       simp [this]
      have a2 : (es.map (·.1))[i']'(by simpa using hi') = .str s := by
       have := (List.getElem?_eq_some_iff.1 r2).2
       simp [this]
      exact (List.getElem_inj hnd).1 (a1.trans a2.symm)
     subst this
     rw [q1] at r1
     cases r1
     rfl
    -- ahead of the loop
    refine wpIn_seq (wpIn_region_list ?_)
    rw [hA]
    refine mv_step h1 ?_
    rw [hmv]
    obtain ⟨mt, kt, vt, g1, g2, g3, g4⟩ := isRange_ok (P := P) (o := oR) (r := (.tmp b, b + 1)) (by
     unfold isRangeT at h2
     split at h2
     ·rename_i s' d' hrr; cases h2; exact hrr
     ·cases h2)
    have hb0 : b < a.tmps.size := by omega
    refine op_step g1 (by rw [g2]; simp) (x := .pointer (some ⟨w.heap.size, 0, none⟩)) (w' := w.alloc (.mapIter (some B) clock #[] clock)) ?_ ?_
    ·simp only [execOp, g2, put_same hb0, run_range_map w mt kt vt B mes clock g4 e2, Sem.run_bind, Result.andThen_ok, Sem.run_pure]
    rw [g3]
    show (Code.block b0 _).wpIn _ _ _ _ _ _
    refine wpIn_block (wpIn_loop (fun aa W => Ag (DelParts.sc ⟨ms, b, kv, vv⟩) a aa ∧ aa.eval (.tmp (b + 1)) = .pointer (some ⟨w.heap.size, 0, none⟩) ∧ W.os = w.os ∧ W.tape = w.tape ∧ W.output = w.output ∧ W.heap.size = w.heap.size + 1 ∧ (∀ k, k < w.heap.size -> k ≠ B -> W.heap[k]? = w.heap[k]?) ∧
      ∃ seen c0, W.heap[w.heap.size]? = some (.mapIter (some B) clock seen c0) ∧ clock <= c0 ∧ W.heap[B]? = some (.map (curM mes seen) clock) ∧ seen.toList.Nodup ∧ ∀ x ∈ seen.toList, ∃ e ∈ mes.toList, e.born = x)
     (fun _ W => match W.heap[w.heap.size]? with | some (.mapIter _ _ seen _) => mes.size - seen.size | _ => 0) ?_ ?_)
    ·refine ⟨((Ag.refl _ a).put (sc_mem ⟨ms, b, kv, vv⟩ (i := 0) (by omega)) _).put (sc_mem ⟨ms, b, kv, vv⟩ (i := 1) (by omega)) _, put_same (by rw [size_put]; omega), rfl, rfl, rfl, by simp [World.alloc_eq], fun k hk _ => heap_alloc_lt w _ k hk, #[], clock, World.alloc_heap_new w _, Nat.le_refl _, ?_, List.nodup_nil, fun x hx => by simp at hx⟩
     rw [heap_alloc_lt w _ B hBlt, e2]
     congr 2
     unfold curM
     apply Array.toList_inj.1
     rw [Array.toList_filter]
     exact (List.filter_eq_self.2 fun x _ => by simp).symm
    ·rintro aa W ⟨hag, hit, w1, w2, w3, w4, w5, seen, c0, i1, i2, i3, i4, i5⟩
     have hsa : aa.tmps.size = st.env.length := by rw [hag.size]; exact hsz
     refine wpIn_seq (wpIn_region_list ?_)
     rw [hN]
     obtain ⟨m1, m2, m3⟩ := isNext_ok h3
     have hold : ∀ x ∈ (curM mes seen).toList, x.born < clock := fun x hx => e6.1 x (curM_sub hx)
     rcases run_next_at (P := P) W oN.type w.heap.size B clock c0 seen (curM mes seen) clock i1 i3 hold i2 with ⟨k1, k2⟩ | ⟨e, k1, W1, k2, k3⟩
     ·-- no more
      refine op_step m1 (by rw [m2]; simp) (x := .tuple #[.bool false]) (w' := W) (by simp only [execOp, m2, hit, k2, Sem.run_bind, Result.andThen_ok, Sem.run_pure]) ?_
      rw [m3]
      refine ext_step h4 (vs := #[.bool false]) (v := .bool false) (put_same (by omega)) rfl ?_
      refine wpIn_seq (wpIn_cond_false (put_same (by rw [size_put]; omega)) (wpIn_exit ?_))
      simp only [Exit.then, Exit.inBlock, if_true]
      refine hQ _ W ⟨μ, Φ, ?_, ?_, ?_⟩
      ·have hfin := curM_all k1
       rw [hfin] at i3
       have hpair : ∀ (j : Nat) e p, mes.toList[j]? = some e -> es[j]? = some p -> (RP Φ e.key p.1 ∧ RP Φ e.val p.2) ∧ zeroV e.val = zeroP p := by
        intro j e p he hp
        have he' : mes[j]? = some e := by simpa using he
        refine ⟨e4 j e p he' hp, ?_⟩
        obtain ⟨i, s, n, q1, q2, q3, q4⟩ := hent e (List.mem_of_getElem? he)
        have hpp := hk p (List.mem_of_getElem? hp)
        obtain ⟨s', n', rfl⟩ := hpp
        have := (e4 j e _ he' hp).2
        rw [q4] at this
        cases this
        rw [q4]
        rfl
       obtain ⟨f1, f2⟩ := filter_pair (Φ := Φ) (l := mes.toList) (es := es) (by simpa using e3) hpair
       refine hg.put (l := lm) (o := .map es) hes rfl (Mu.le.refl _) (fun _ _ _ => rfl) w1 w2 w3 (by omega) (fun k hk hne => w5 k hk (fun e => hne (by rw [e]; simp [blk, e1]))) ⟨B, C, Sz, _, clock, e1, i3, ?_, ?_, e5, ?_⟩ (.inl (by simp [blk, e1]))
       ·rw [<- Array.length_toList, Array.toList_filter]; exact f1
       ·intro j e p he hp
        exact f2 j e p (by rw [<- Array.toList_filter, Array.getElem?_toList]; exact he) hp
       ·refine ⟨fun x hx => e6.1 x ?_, ?_⟩
        ·rw [Array.toList_filter] at hx; exact (List.mem_filter.1 hx).1
        ·rw [Array.toList_filter]; exact (List.filter_sublist.map _).nodup e6.2
      ·exact junks_ok ((hag.put (sc_mem ⟨ms, b, kv, vv⟩ (i := 2) (by omega)) _).put (sc_mem ⟨ms, b, kv, vv⟩ (i := 3) (by omega)) _).size _ he ((hag.put (sc_mem ⟨ms, b, kv, vv⟩ (i := 2) (by omega)) _).put (sc_mem ⟨ms, b, kv, vv⟩ (i := 3) (by omega)) _).same
      ·exact (((hag.put (sc_mem ⟨ms, b, kv, vv⟩ (i := 2) (by omega)) _).put (sc_mem ⟨ms, b, kv, vv⟩ (i := 3) (by omega)) _).defers).trans hd
     ·-- one more
      have hleft : e ∈ (curM mes seen).toList ∧ e.born ∉ seen.toList := by
       have : e ∈ leftOf (curM mes seen) seen := by simpa using k1
       unfold leftOf at this
       rw [Array.mem_filter] at this
       exact ⟨by simpa using this.1, by simpa using this.2⟩
      obtain ⟨hcur, hnew⟩ := hleft
      have hmes := curM_sub hcur
      obtain ⟨ix, s, n, q1, q2, q3, q4⟩ := hent e hmes
      have hW1 : W1.heap = W.heap ∧ W1.os = W.os ∧ W1.tape = W.tape ∧ W1.output = W.output := by rcases k2 with rfl | rfl <;> exact ⟨rfl, rfl, rfl, rfl⟩
      have hNB : w.heap.size ≠ B := by omega
      have hNlt : w.heap.size < W1.heap.size := by rw [hW1.1, w4]; omega
      obtain ⟨V, hV⟩ : ∃ V, V = setBlock W1 w.heap.size (.mapIter (some B) clock (seen.push e.born) clock) := ⟨_, rfl⟩
      rw [<- hV] at k3
      have vN : V.heap[w.heap.size]? = some (.mapIter (some B) clock (seen.push e.born) clock) := by rw [hV]; simp [setBlock, hNlt]
      have vO : ∀ k, k ≠ w.heap.size -> V.heap[k]? = W.heap[k]? := fun k hk => by rw [hV]; simp only [setBlock, hW1.1]; exact Array.getElem?_setIfInBounds_ne (Ne.symm hk)
      have vB : V.heap[B]? = some (.map (curM mes seen) clock) := by rw [vO B (Ne.symm hNB)]; exact i3
      have vS : V.heap.size = w.heap.size + 1 := by rw [hV]; simp [setBlock, hW1.1, w4]
      have v1 : V.os = w.os := by rw [hV]; exact hW1.2.1.trans w1
      have v2 : V.tape = w.tape := by rw [hV]; exact hW1.2.2.1.trans w2
      have v3 : V.output = w.output := by rw [hV]; exact hW1.2.2.2.trans w3
      have hfin : ∀ (A : Act) (U : World), Ag (DelParts.sc ⟨ms, b, kv, vv⟩) a A -> A.eval (.tmp (b + 1)) = .pointer (some ⟨w.heap.size, 0, none⟩) -> U.os = V.os -> U.tape = V.tape -> U.output = V.output -> U.heap.size = V.heap.size -> (∀ k, k ≠ B -> U.heap[k]? = V.heap[k]?) -> U.heap[B]? = some (.map (curM mes (seen.push e.born)) clock) ->
        (Ag (DelParts.sc ⟨ms, b, kv, vv⟩) a A ∧ A.eval (.tmp (b + 1)) = .pointer (some ⟨w.heap.size, 0, none⟩) ∧ U.os = w.os ∧ U.tape = w.tape ∧ U.output = w.output ∧ U.heap.size = w.heap.size + 1 ∧ (∀ k, k < w.heap.size -> k ≠ B -> U.heap[k]? = w.heap[k]?) ∧
         ∃ seen c0, U.heap[w.heap.size]? = some (.mapIter (some B) clock seen c0) ∧ clock <= c0 ∧ U.heap[B]? = some (.map (curM mes seen) clock) ∧ seen.toList.Nodup ∧ ∀ x ∈ seen.toList, ∃ e ∈ mes.toList, e.born = x) ∧
        (match U.heap[w.heap.size]? with | some (.mapIter _ _ seen _) => mes.size - seen.size | _ => 0) < (match W.heap[w.heap.size]? with | some (.mapIter _ _ seen _) => mes.size - seen.size | _ => 0) := by
       intro A U ha hb' o1 o2 o3 o4 o5 o6
       have uN : U.heap[w.heap.size]? = some (.mapIter (some B) clock (seen.push e.born) clock) := by rw [o5 _ hNB]; exact vN
       have hndS : (seen.push e.born).toList.Nodup := by
        rw [Array.toList_push, List.nodup_append]
        exact ⟨i4, by simp, fun x hx y hy exy => by simp at hy; subst hy; subst exy; exact hnew hx⟩
       have hin : ∀ x ∈ (seen.push e.born).toList, ∃ e ∈ mes.toList, e.born = x := by
        intro x hx
        rw [Array.toList_push] at hx
        rcases List.mem_append.1 hx with hx | hx
        ·exact i5 x hx
        ·simp at hx; exact ⟨e, hmes, hx.symm⟩
       refine ⟨⟨ha, hb', o1.trans v1, o2.trans v2, o3.trans v3, o4.trans vS, fun k hk hne => by rw [o5 k hne, vO k (by omega)]; exact w5 k hk hne, _, clock, uN, Nat.le_refl _, o6, hndS, hin⟩, ?_⟩
       rw [uN, i1]
       have hle := hndS.length_le_of_subset (l₂ := mes.toList.map (·.born)) (fun x hx => by obtain ⟨e', h1, h2⟩ := hin x hx; exact List.mem_map.2 ⟨e', h1, h2⟩)
       simp at hle ⊢
       omega
      refine op_step m1 (by rw [m2]; simp) (x := .tuple #[.bool true, e.key, e.val]) (w' := V) (by simp only [execOp, m2, hit, k3, Sem.run_bind, Result.andThen_ok, Sem.run_pure]) ?_
      rw [m3]
      refine ext_step h4 (vs := #[.bool true, e.key, e.val]) (v := .bool true) (put_same (by omega)) rfl ?_
      have ag2 := (hag.put (sc_mem ⟨ms, b, kv, vv⟩ (i := 2) (by omega)) (.tuple #[.bool true, e.key, e.val])).put (sc_mem ⟨ms, b, kv, vv⟩ (i := 3) (by omega)) (.bool true)
      have it2 : ((aa.put (some (b + 2)) (.tuple #[.bool true, e.key, e.val])).put (some (b + 3)) (.bool true)).eval (.tmp (b + 1)) = .pointer (some ⟨w.heap.size, 0, none⟩) := by
       rw [ev_putD (by rw [size_put]; omega), if_neg (by omega), ev_putD (by omega), if_neg (by omega)]; exact hit
      have tb2 : ((aa.put (some (b + 2)) (.tuple #[.bool true, e.key, e.val])).put (some (b + 3)) (.bool true)).eval (.tmp (b + 3)) = .bool true := put_same (by rw [size_put]; omega)
      simp only at ag2
      generalize (aa.put (some (b + 2)) (.tuple #[.bool true, e.key, e.val])).put (some (b + 3)) (.bool true) = A2 at ag2 it2 tb2 ⊢
      have s2 : A2.tmps.size = st.env.length := by rw [ag2.size]; exact hsz
      refine wpIn_seq (wpIn_cond_true tb2 (wpIn_skip ?_))
      show (Code.block b1 _).wpIn _ _ _ _ _ _
      refine wpIn_block (wpIn_seq (wpIn_region_list ?_))
      rw [hE]
      obtain ⟨t1, t2, t3⟩ : oE.guard = none ∧ oE.op = .entry (.tmp (b + 1)) ∧ oE.dst = some (b + 4) := by
       unfold isEntry at h5
       split at h5
       ·rename_i a1 a2 a3; cases h5; exact ⟨a1, a2, a3⟩
       ·cases h5
      have hent2 := run_entry_at (P := P) V w.heap.size B clock seen (curM mes seen) clock e vN vB hcur (curM_nodup e6.2)
      refine op_step t1 (by rw [t2]; simp) (x := .tuple #[e.key, e.val]) (w' := V) (by simp only [execOp, t2, it2, hent2, Sem.run_bind, Result.andThen_ok, Sem.run_pure]) ?_
      rw [t3]
      refine ext_step h6 (vs := #[e.key, e.val]) (v := e.key) (put_same (by omega)) rfl ?_
      refine ext_step h7 (vs := #[e.key, e.val]) (v := e.val) (by rw [ev_putD (by rw [size_put]; omega), if_neg (by omega)]; exact put_same (by omega)) rfl ?_
      have ag5 := ((ag2.put (sc_mem ⟨ms, b, kv, vv⟩ (i := 4) (by omega)) (.tuple #[e.key, e.val])).put (sc_mem ⟨ms, b, kv, vv⟩ (i := 5) (by omega)) e.key).put (sc_mem ⟨ms, b, kv, vv⟩ (i := 6) (by omega)) e.val
      have it5 : (((A2.put (some (b + 4)) (.tuple #[e.key, e.val])).put (some (b + 5)) e.key).put (some (b + 6)) e.val).eval (.tmp (b + 1)) = .pointer (some ⟨w.heap.size, 0, none⟩) := by
       rw [ev_putD (by rw [size_put, size_put]; omega), if_neg (by omega), ev_putD (by rw [size_put]; omega), if_neg (by omega), ev_putD (by omega), if_neg (by omega)]; exact it2
      have ky5 : (((A2.put (some (b + 4)) (.tuple #[e.key, e.val])).put (some (b + 5)) e.key).put (some (b + 6)) e.val).eval (.tmp (b + 5)) = e.key := by
       rw [ev_putD (by rw [size_put, size_put]; omega), if_neg (by omega)]; exact put_same (by rw [size_put]; omega)
      have vy5 : (((A2.put (some (b + 4)) (.tuple #[e.key, e.val])).put (some (b + 5)) e.key).put (some (b + 6)) e.val).eval (.tmp (b + 6)) = e.val := put_same (by rw [size_put, size_put]; omega)
      simp only at ag5
      generalize ((A2.put (some (b + 4)) (.tuple #[e.key, e.val])).put (some (b + 5)) e.key).put (some (b + 6)) e.val = A5 at ag5 it5 ky5 vy5 ⊢
      have s5 : A5.tmps.size = st.env.length := by rw [ag5.size]; exact hsz
      refine mv_step h8 ?_
      rw [ky5]
      refine mv_step h9 ?_
      rw [ev_putD (by omega), if_neg (by omega), vy5]
      have kin : kv ∈ DelParts.sc ⟨ms, b, kv, vv⟩ := by simp [DelParts.sc]
      have vin : vv ∈ DelParts.sc ⟨ms, b, kv, vv⟩ := by simp [DelParts.sc]
      have min' : ms ∉ DelParts.sc ⟨ms, b, kv, vv⟩ := by
       simp only [DelParts.sc, List.mem_append, List.mem_map, List.mem_range, List.mem_cons, List.mem_nil_iff, or_false, not_or]
       exact ⟨fun ⟨i, hi, he⟩ => by omega, fun e => n2 e.symm, fun e => n3 e.symm⟩
      have ag7 := (ag5.put kin e.key).put vin e.val
      have it7 : ((A5.put (some kv) e.key).put (some vv) e.val).eval (.tmp (b + 1)) = .pointer (some ⟨w.heap.size, 0, none⟩) := by
       rw [ev_putD (by rw [size_put]; omega), if_neg (by omega), ev_putD (by omega), if_neg (by omega)]; exact it5
      have ky7 : ((A5.put (some kv) e.key).put (some vv) e.val).eval (.tmp kv) = e.key := by
       rw [ev_putD (by rw [size_put]; omega), if_neg n1]; exact put_same (by omega)
      have vy7 : ((A5.put (some kv) e.key).put (some vv) e.val).eval (.tmp vv) = e.val := put_same (by rw [size_put]; omega)
      generalize (A5.put (some kv) e.key).put (some vv) e.val = A7 at ag7 it7 ky7 vy7 ⊢
      have s7 : A7.tmps.size = st.env.length := by rw [ag7.size]; exact hsz
      show (Code.seq _ _).wpIn _ _ _ _ _ _
      refine wpIn_seq (wpIn_region_list ?_)
      rw [hC]
      refine mv_step h10 ?_
      rw [vy7, q4]
      refine eqz_step h11 (n := n) (put_same (by omega)) ?_
      have ag9 := (ag7.put (sc_mem ⟨ms, b, kv, vv⟩ (i := 7) (by omega)) (.int .i64 n)).put (sc_mem ⟨ms, b, kv, vv⟩ (i := 8) (by omega)) (.bool (n == 0))
      have it9 : ((A7.put (some (b + 7)) (.int .i64 n)).put (some (b + 8)) (.bool (n == 0))).eval (.tmp (b + 1)) = .pointer (some ⟨w.heap.size, 0, none⟩) := by
       rw [ev_putD (by rw [size_put]; omega), if_neg (by omega), ev_putD (by omega), if_neg (by omega)]; exact it7
      have ky9 : ((A7.put (some (b + 7)) (.int .i64 n)).put (some (b + 8)) (.bool (n == 0))).eval (.tmp kv) = e.key := by
       rw [ev_putD (by rw [size_put]; omega), if_neg (by omega), ev_putD (by omega), if_neg (by omega)]; exact ky7
      have tc9 : ((A7.put (some (b + 7)) (.int .i64 n)).put (some (b + 8)) (.bool (n == 0))).eval (.tmp (b + 8)) = .bool (n == 0) := put_same (by rw [size_put]; omega)
      simp only at ag9
      generalize (A7.put (some (b + 7)) (.int .i64 n)).put (some (b + 8)) (.bool (n == 0)) = A9 at ag9 it9 ky9 tc9 ⊢
      have s9 : A9.tmps.size = st.env.length := by rw [ag9.size]; exact hsz
      have hzv : zeroV e.val = (n == 0) := by rw [q4]; rfl
      show (Code.cond _ _ _).wpIn _ _ _ _ _ _
      cases hz : (n == 0) with
      | false =>
       rw [hz] at tc9 hzv
       refine wpIn_cond_false tc9 (wpIn_skip ?_)
       exact hfin A9 V ag9 it9 rfl rfl rfl rfl (fun _ _ => rfl) (by rw [curM_push e6.2 hmes hzv]; exact vB)
      | true =>
       rw [hz] at tc9 hzv
       refine wpIn_cond_true tc9 (wpIn_region_list ?_)
       rw [hD]
       refine mv_step h12 ?_
       rw [ag9.eval min', hmv]
       refine mv_step h13 ?_
       rw [ev_putD (by omega), if_neg (by omega), ky9]
       have ag11 := (ag9.put (sc_mem ⟨ms, b, kv, vv⟩ (i := 9) (by omega)) (.map (some B))).put (sc_mem ⟨ms, b, kv, vv⟩ (i := 10) (by omega)) e.key
       have it11 : ((A9.put (some (b + 9)) (.map (some B))).put (some (b + 10)) e.key).eval (.tmp (b + 1)) = .pointer (some ⟨w.heap.size, 0, none⟩) := by
        rw [ev_putD (by rw [size_put]; omega), if_neg (by omega), ev_putD (by omega), if_neg (by omega)]; exact it9
       have m11 : ((A9.put (some (b + 9)) (.map (some B))).put (some (b + 10)) e.key).eval (.tmp (b + 9)) = .map (some B) := by
        rw [ev_putD (by rw [size_put]; omega), if_neg (by omega)]; exact put_same (by omega)
       have k11 : ((A9.put (some (b + 9)) (.map (some B))).put (some (b + 10)) e.key).eval (.tmp (b + 10)) = e.key := put_same (by rw [size_put]; omega)
       have hik : IsKey .string e.key := by rw [q3]; exact trivial
       have hiks : ∀ x ∈ (curM mes seen).toList, IsKey .string x.key := fun x hx => by
        obtain ⟨_, s', _, _, _, h3', _⟩ := hent x (curM_sub hx)
        rw [h3']; exact trivial
       rcases findNow_spec hik (curM mes seen).toList 0 hiks with ⟨_, hno⟩ | ⟨j, e', f1, f2, f3⟩
       ·exact absurd rfl (hno e hcur)
       ·have hee : e' = e := hkeys e' (curM_sub (List.mem_of_getElem? f2)) e hmes f3
        subst hee
        rw [Nat.zero_add] at f1
        refine del_step h14 m11 k11 vB hik f1 ?_
        have hjl : j < (curM mes seen).size := by
         have := (List.getElem?_eq_some_iff.1 f2).1
         simpa using this
        refine hfin _ _ ag11 it11 rfl rfl rfl (by simp) (fun k hk => by simp [Array.getElem?_setIfInBounds_ne (Ne.symm hk)]) ?_
        have hBV : B < V.heap.size := by omega
        simp only [Array.getElem?_setIfInBounds_self_of_lt hBV]
        congr 2
        apply Array.toList_inj.1
        rw [curM_del e6.2 hmes hzv, <- eraseIdx_filter (curM_nodup e6.2) f2]
        unfold Array.eraseIdxIfInBounds
        rw [dif_pos hjl, Array.toList_eraseIdx]
   ·cases hcd
  ·cases hcd
 ·cases hcd
def DelE (p : DelParts) (st : St) (q : XE -> St -> Prop) : Prop :=
 ∃ (lm : Nat) (es : List (PV × PV)), st.env[p.ms]? = some (.map lm) ∧ p.b + 11 <= st.env.length ∧ st.heap[lm]? = some (.obj (.map es)) ∧ (∀ kv ∈ es, ∃ s n, kv = (.str s, .int .i64 n)) ∧ (es.map (·.1)).Nodup ∧
  q .normal ⟨p.sc.foldl (fun e i => e.set i .junk) st.env, st.heap.set lm (.obj (.map (es.filter fun kv => !zeroP kv)))⟩
theorem delE_ok {p : DelParts} {cd : Code} (hT : TabOK P T) (hmix : P.follows .mixedOrders = true) (hcd : delParts P cd = some p) {st : St} {a : Act} {w : World} {q : XE -> St -> Prop} (hr : Rel c st a w) (hE : DelE p st q) :
  (plainLg hT hmix).W cd (fun e a' w' => ∃ x st', e = x.ex ∧ q x st' ∧ Rel c st' a' w') a w := by
 obtain ⟨lm, es, h1, h2, h3, h4, h5, h6⟩ := hE
 exact wpIn_wide.1 (del_run (rd := none) (nn := 4) hcd hr h1 h2 h3 h4 h5 fun a' w' hr' => ⟨.normal, _, rfl, h6, hr'⟩)
end
end Go.Pl

namespace Go.Pl
open Go.RowKit
theorem OwnOK.frz {P : Program} {f : Nat} {pre : List AV -> List AObj -> Bool} {val val' : List AV -> List AObj -> AV × List AObj × List AObj} (h : OwnOK P f pre val)
  (hv : ∀ args os, pre args os = true -> ∃ x os1 ext1 p σ ys os2 p', val args os = (x, os1, ext1) ∧ (frz x).run (objs (os1 ++ ext1)) = some (p, σ) ∧ packO os.length (reach 256 (List.range os.length) [] σ) [] σ = some (ys, os2) ∧ Sub p p' ∧ val' args os = (.pv p', os2.take os.length, os2.drop os.length)) : OwnOK P f pre val' := by
 intro args os x os' ext hpre hval
 obtain ⟨x1, os1, ext1, p, σ, ys, os2, p', h1, h2, h3, h4, h5⟩ := hv args os hpre
 rw [hval] at h5
 simp only [Prod.mk.injEq] at h5
 obtain ⟨rfl, rfl, rfl⟩ := h5
 obtain ⟨hcp, hlen2⟩ := packO_ok h3
 refine ⟨by simp; omega, ?_⟩
 intro μ Φ w vs hg hvs
 have hk : ∀ i m, os.length <= i -> (entry μ Φ (objs os) w).μ0 i m = none := by
  intro i m hi
  refine hg.fresh i m (.inl ?_)
  rw [List.getElem?_eq_none_iff]
  simp [objs]
  exact hi
 refine ((h args os x1 os1 ext1 hpre h1).2 μ Φ w vs hg hvs).mono ?_
 rintro e w' ⟨v, μ', Φ', rfl, hg', hR⟩
 obtain ⟨Φ1, hle, hg1, hp⟩ := frz_ok x1 h2 hg' hR
 have he2 : EnvR μ' Φ1 (#[] : Array Value) ([] : List AV) := ⟨rfl, fun j v x h => by simp at h⟩
 obtain ⟨k1, k2⟩ := compact_ok hk hg1 he2 hcp
 refine ⟨v, μ'.ren (reach 256 (List.range os.length) [] σ), Φ1, rfl, ?_, .pv _ _ (RP.sub h4 hp)⟩
 rw [List.take_append_drop]; exact k1
end Go.Pl

namespace Go.Pl
open Go.RowKit
theorem RPL.subL {Φ : Phi} {vs : List Value} {ps qs : List PV} (h : RPL Φ vs ps) (k : SubL ps qs) : RPL Φ vs qs :=
 ⟨h.1.trans k.1, fun j v y hv hy => by
  have hj : j < ps.length := by rw [k.1]; exact (List.getElem?_eq_some_iff.1 hy).1
  have hx : ps[j]? = some ps[j] := List.getElem?_eq_getElem hj
  exact k.2 j _ y hx hy Φ v (h.2 j v _ hv hx)⟩
theorem OwnOK.thaw {P : Program} {f : Nat} {pre pre' : List AV -> List AObj -> Bool} {val val' : List AV -> List AObj -> AV × List AObj × List AObj} (h : OwnOK P f pre val)
  (hv : ∀ args os, pre' args os = true -> ∃ n ps qs σ1 x σ' y os2, SubL ps qs ∧ (frzL args).run (objs os ++ List.replicate n .fresh) = some (ps, σ1) ∧ (ownCall os.length pre val (qs.map .pv)).run σ1 = some (x, σ') ∧ packO os.length (reach 256 (List.range os.length ++ refsL [x]) [] σ') [x] σ' = some ([y], os2) ∧ val' args os = (y, os2.take os.length, os2.drop os.length)) : OwnOK P f pre' val' := by
 intro args os x0 os' ext hpre hval
 obtain ⟨n, ps, qs, σ1, x, σ', y, os2, hs, h2, h3, h4, h5⟩ := hv args os hpre
 rw [hval] at h5
 simp only [Prod.mk.injEq] at h5
 obtain ⟨rfl, rfl, rfl⟩ := h5
 obtain ⟨hcp, hlen2⟩ := packO_ok h4
 refine ⟨by simp; omega, ?_⟩
 intro μ Φ w vs hg hvs
 have hk : ∀ i m, os.length <= i -> (entry μ Φ (objs os) w).μ0 i m = none := by
  intro i m hi
  refine hg.fresh i m (.inl ?_)
  rw [List.getElem?_eq_none_iff]
  simp [objs]
  exact hi
 obtain ⟨Φ1, f1, f2, f3⟩ := frzL_ok args h2 (hg.grow n) hvs
 refine (sim_own (L := os.length) h f2 (f3.subL hs).toRL h3).mono ?_
 rintro e w' ⟨v, rfl, μ', Φ', k1, k2, k3, k4⟩
 have he2 : EnvR μ' Φ' (#[v] : Array Value) [x] := ⟨rfl, fun j v' x' hv hx => by
  cases j with
  | zero => simp at hv hx; subst hv hx; exact k4
  | succ j => simp at hx⟩
 obtain ⟨m1, m2⟩ := compact_ok hk k3 he2 hcp
 refine ⟨v, _, Φ', rfl, ?_, m2.2 0 v x0 rfl rfl⟩
 rw [List.take_append_drop]; exact m1
theorem PureOK.of_own {P : Program} {f : Nat} {pre : List AV -> List AObj -> Bool} {val : List AV -> List AObj -> AV × List AObj × List AObj} {pre' : List PV -> Bool} {val' : List PV -> PV} (h : OwnOK P f pre val)
  (hv : ∀ ps, pre' ps = true -> ∃ qs x ext p σ, SubL ps qs ∧ pre (qs.map .pv) [] = true ∧ val (qs.map .pv) [] = (x, [], ext) ∧ (frz x).run (objs ext) = some (p, σ) ∧ Sub p (val' ps)) : PureOK P f pre' val' := by
 intro ps hps Φ w vs hL hΦ hvs
 obtain ⟨qs, x, ext, p, σ, h1, h2, h3, h4, h5⟩ := hv ps hps
 have hg := entry_good hL hΦ
 refine ((h (qs.map .pv) [] x [] ext h2 h3).2 (fun _ _ => none) Φ w vs hg (hvs.subL h1).toRL).mono ?_
 rintro e w' ⟨v, μ', Φ', rfl, hg', hR⟩
 obtain ⟨Φ1, hle, hg1, hp⟩ := frz_ok x h4 hg' hR
 refine ⟨v, Φ1, rfl, hg1.Φle, hg1.phi, RP.sub h5 hp, ⟨hg1.os, hg1.tape, hg1.output, hg1.size, fun k hk => hg1.frame k hk (by rintro ⟨l, o, h, _⟩; simp [objs] at h)⟩, fun b cs hcs => ?_⟩
 rcases hg1.dom b cs hcs with h | h | h
 ·exact .inl h
 ·exact .inr h
 ·obtain ⟨l, o, h, _⟩ := h
  simp [objs] at h
theorem Does.of_own {P : Program} {f : Nat} {α β : Type} [EncL α] [Enc β] {preO : List AV -> List AObj -> Bool} {valO : List AV -> List AObj -> AV × List AObj × List AObj} {pre : α -> Bool} {F : α -> β} (h : OwnOK P f preO valO)
  (hv : ∀ a : α, pre a = true -> ∃ x ext p σ, preO ((EncL.encL a).map .pv) [] = true ∧ valO ((EncL.encL a).map .pv) [] = (x, [], ext) ∧ (frz x).run (objs ext) = some (p, σ) ∧ Sub p (Enc.enc (F a))) : Does P f pre F :=
 PureOK.of_own h fun ps hps => by
  simp only [preT, Bool.and_eq_true] at hps
  obtain ⟨x, ext, p, σ, h1, h2, h3, h4⟩ := hv (EncL.decL ps) hps.2
  exact ⟨EncL.encL (EncL.decL ps : α), x, ext, p, σ, EncL.subL ps hps.1, h1, h2, h3, h4⟩
end Go.Pl

