/-
  Texts of mine that belong together (packed by pack.py), for every input: TyL, TyM, TyN, TyT, TyO, TyS, GLb, GLa, QLa, QLb, GLc, QLc, GLd, QLd, TyU, QLh, QLm, GLe, QLe, GLg, QLg, QLf, GLi, GL1, QL1, QL2, QLi, QLj, QL3, QL4, GL5, QL5, GL7, QL7, TyR, GLr, QRp.
-/
import Derived.Test.YtfagcgjdholinaaGreatDoorKR2
import Derived.KernelRfl
import Derived.Lib.AtoiAllMem
import Derived.Lib.AtoiAllCases
import Derived.Lib.ItoaNum
set_option linter.unusedVariables false
set_option linter.unusedSimpArgs false
namespace Go.Pl
open Go.RowKit
open Enc (enc dec is)
open EncL (encL decL isL)
structure Coef where
  v : Str
  c : Int
  deriving DecidableEq
instance : Enc Coef where
  sz := 2
  enc x := .agg [enc x.v, enc x.c]
  dec | .agg [a, b] => ⟨dec a, dec b⟩ | _ => ⟨⟨[]⟩, 0⟩
  is | .agg [a, b] => is Str a && is Int b | _ => false
  is_enc v := by simp
  dec_enc v := by simp
  sub p h := by
    cases p with
    | agg xs =>
      match xs, h with
      | [a, b], h =>
        simp only [Bool.and_eq_true] at h
        exact .agg (.cons (Enc.sub a h.1).2 (.cons (Enc.sub b h.2).2 .nil))
    | _ => cases h
structure Lin where
  k : Int
  t : List Coef
  deriving DecidableEq
instance : Enc Lin where
  sz := 2
  enc x := .agg [enc x.k, enc x.t]
  dec | .agg [a, b] => ⟨dec a, dec b⟩ | _ => ⟨0, []⟩
  is | .agg [a, b] => is Int a && is (List Coef) b | _ => false
  is_enc v := by simp
  dec_enc v := by simp
  sub p h := by
    cases p with
    | agg xs =>
      match xs, h with
      | [a, b], h =>
        simp only [Bool.and_eq_true] at h
        exact .agg (.cons (Enc.sub a h.1).2 (.cons (Enc.sub b h.2).2 .nil))
    | _ => cases h
@[simp] theorem is_coef (a b : PV) : is Coef (.agg [a, b]) = (is Str a && is Int b) := rfl
@[simp] theorem dec_coef (a b : PV) : (dec (.agg [a, b]) : Coef) = ⟨dec a, dec b⟩ := rfl
@[simp] theorem is_lin (a b : PV) : is Lin (.agg [a, b]) = (is Int a && is (List Coef) b) := rfl
@[simp] theorem dec_lin (a b : PV) : (dec (.agg [a, b]) : Lin) = ⟨dec a, dec b⟩ := rfl
def digB (c : UInt8) : Bool := decide (48 ≤ c) && decide (c ≤ 57)
def lowB (c : UInt8) : Bool := decide (97 ≤ c) && decide (c ≤ 122)
def nameB (s : Str) : Bool := match s.s with
  | [] => false
  | c :: r => if c = 95 then r.all digB && !r.isEmpty && decide (r.head? ≠ some 48) && decide (r.length ≤ 9) else lowB c && r.all (fun c => lowB c || digB c) && decide (r.length ≤ 29)
def coefIn (n : Int) : Bool := decide (-1000000 ≤ n) && decide (n ≤ 1000000)
def ascB : List Coef → Bool
  | a :: b :: l => decide (a.v.s < b.v.s) && ascB (b :: l)
  | _ => true
def validL (l : Lin) : Bool := l.t.all (fun t => nameB t.v && decide (t.c ≠ 0) && coefIn t.c) && ascB l.t && coefIn l.k && decide (l.t.length ≤ 12)
def mapP (m : List (Str × Int)) : List (PV × PV) := m.map fun p => (.str p.1.s, .int .i64 p.2)
def atM (m : List (Str × Int)) (s : List UInt8) : Int := ((m.find? fun p => p.1.s == s).map (·.2)).getD 0
def termsM (m : List (Str × Int)) : List Coef := (sortS ((m.filter fun p => decide (p.2 ≠ 0)).map (·.1.s))).map fun s => ⟨⟨s⟩, atM m s⟩
def resM (n : Int) (m : List (Str × Int)) : Lin × Int := if validL ⟨n, termsM m⟩ then (⟨n, termsM m⟩, 0) else (⟨0, []⟩, 3)
end Go.Pl

namespace Go.Pl
open Go.RowKit
open Enc (enc dec is)
open EncL (encL decL isL)
structure Fact where
  eq : Bool
  l : Lin
  deriving DecidableEq
instance : Enc Fact where
  sz := 3
  enc x := .agg [enc x.eq, enc x.l.k, enc x.l.t]
  dec | .agg [a, b, c] => ⟨dec a, ⟨dec b, dec c⟩⟩ | _ => ⟨false, ⟨0, []⟩⟩
  is | .agg [a, b, c] => is Bool a && is Int b && is (List Coef) c | _ => false
  is_enc v := by simp
  dec_enc v := by simp
  sub p h := by
    cases p with
    | agg xs =>
      match xs, h with
      | [a, b, c], h =>
        simp only [Bool.and_eq_true] at h
        exact .agg (.cons (Enc.sub a h.1.1).2 (.cons (Enc.sub b h.1.2).2 (.cons (Enc.sub c h.2).2 .nil)))
    | _ => cases h
@[simp] theorem is_fact (a b c : PV) : is Fact (.agg [a, b, c]) = (is Bool a && is Int b && is (List Coef) c) := rfl
@[simp] theorem dec_fact (a b c : PV) : (dec (.agg [a, b, c]) : Fact) = ⟨dec a, ⟨dec b, dec c⟩⟩ := rfl
structure Bnd where
  kind : Int
  v : Str
  dim : Lin
  row : Str
  dims : List Lin
  elem : Str
  deriving DecidableEq
instance : Enc Bnd where
  sz := 7
  enc x := .agg [enc x.kind, enc x.v, enc x.dim.k, enc x.dim.t, enc x.row, enc x.dims, enc x.elem]
  dec | .agg [a, b, c, d, e, f, g] => ⟨dec a, dec b, ⟨dec c, dec d⟩, dec e, dec f, dec g⟩ | _ => ⟨0, ⟨[]⟩, ⟨0, []⟩, ⟨[]⟩, [], ⟨[]⟩⟩
  is | .agg [a, b, c, d, e, f, g] => is Int a && is Str b && is Int c && is (List Coef) d && is Str e && is (List Lin) f && is Str g | _ => false
  is_enc v := by simp
  dec_enc v := by simp
  sub p h := by
    cases p with
    | agg xs =>
      match xs, h with
      | [a, b, c, d, e, f, g], h =>
        simp only [Bool.and_eq_true] at h
        exact .agg (.cons (Enc.sub a h.1.1.1.1.1.1).2 (.cons (Enc.sub b h.1.1.1.1.1.2).2 (.cons (Enc.sub c h.1.1.1.1.2).2 (.cons (Enc.sub d h.1.1.1.2).2 (.cons (Enc.sub e h.1.1.2).2 (.cons (Enc.sub f h.1.2).2 (.cons (Enc.sub g h.2).2 .nil)))))))
    | _ => cases h
@[simp] theorem is_bnd (a b c d e f g : PV) : is Bnd (.agg [a, b, c, d, e, f, g]) = (is Int a && is Str b && is Int c && is (List Coef) d && is Str e && is (List Lin) f && is Str g) := rfl
@[simp] theorem dec_bnd (a b c d e f g : PV) : (dec (.agg [a, b, c, d, e, f, g]) : Bnd) = ⟨dec a, dec b, ⟨dec c, dec d⟩, dec e, dec f, dec g⟩ := rfl
inductive Cert where
  | mk (kind : Int) (mults : List Int) (lin : Lin) (kids : List Cert)
mutual
def certP : Cert → PV
  | .mk k m l ks => .agg [enc k, enc m, enc l.k, enc l.t, .sl 5 false (certsP ks)]
def certsP : List Cert → List PV
  | [] => []
  | c :: cs => certP c :: certsP cs
end
mutual
def certD : PV → Cert
  | .agg [a, b, c, d, .sl _ _ ks] => .mk (dec a) (dec b) ⟨dec c, dec d⟩ (certsD ks)
  | _ => .mk 0 [] ⟨0, []⟩ []
def certsD : List PV → List Cert
  | [] => []
  | p :: ps => certD p :: certsD ps
end
mutual
def certI : PV → Bool
  | .agg [a, b, c, d, .sl s _ ks] => is Int a && is (List Int) b && is Int c && is (List Coef) d && (ks.isEmpty || s == 5) && certsI ks
  | _ => false
def certsI : List PV → Bool
  | [] => true
  | p :: ps => certI p && certsI ps
end
theorem certsP_map (cs : List Cert) : certsP cs = cs.map certP := by
  induction cs with
  | nil => simp [certsP]
  | cons c cs ih => simp [certsP, ih]
theorem certsD_map (cs : List PV) : certsD cs = cs.map certD := by
  induction cs with
  | nil => simp [certsD]
  | cons c cs ih => simp [certsD, ih]
theorem certsI_all (cs : List PV) : certsI cs = cs.all certI := by
  induction cs with
  | nil => simp [certsI]
  | cons c cs ih => simp [certsI, ih]
mutual
theorem certI_P : ∀ c : Cert, certI (certP c) = true
  | .mk k m l ks => by
    have h := certsI_P ks
    simp only [certP, certI, Enc.is_enc, Bool.true_and, Bool.and_eq_true, h, and_true]
    simp
theorem certsI_P : ∀ cs : List Cert, certsI (certsP cs) = true
  | [] => by simp [certsP, certsI]
  | c :: cs => by simp [certsP, certsI, certI_P c, certsI_P cs]
end
mutual
theorem certD_P : ∀ c : Cert, certD (certP c) = c
  | .mk k m l ks => by
    have h := certsD_P ks
    simp only [certP, certD, Enc.dec_enc, h]
theorem certsD_P : ∀ cs : List Cert, certsD (certsP cs) = cs
  | [] => by simp [certsP, certsD]
  | c :: cs => by simp [certsP, certsD, certD_P c, certsD_P cs]
end
mutual
theorem cert_sub : ∀ p : PV, certI p = true → SubC p (certP (certD p))
  | .agg [a, b, c, d, .sl s t ks], h => by
    simp only [certI, Bool.and_eq_true] at h
    obtain ⟨⟨⟨⟨⟨h1, h2⟩, h3⟩, h4⟩, h5⟩, h6⟩ := h
    have hk := certs_sub ks h6
    simp only [certD, certP]
    refine .agg (.cons (Enc.sub a h1).2 (.cons (Enc.sub b h2).2 (.cons (Enc.sub c h3).2 (.cons (Enc.sub d h4).2 (.cons ?_ .nil)))))
    simp only [Bool.or_eq_true, List.isEmpty_iff, beq_iff_eq] at h5
    rcases h5 with rfl | rfl
    · simp only [certsD, certsP]
      exact (SubC.sl0 _ _ _).2
    · exact (SubC.sl hk.1 hk.2).2
  | .bool _, h | .int _ _, h | .str _, h | .sl _ _ _, h | .tup _, h | .nilp, h | .nilmap, h | .nilfn, h | .nili, h | .ifc, h | .fn _, h | .rptr _, h => by simp [certI] at h
  | .agg [], h | .agg [_], h | .agg [_, _], h | .agg [_, _, _], h | .agg [_, _, _, _], h => by simp [certI] at h
  | .agg (a :: b :: c :: d :: e :: f :: g), h => by
    have h' : certI (.agg (a :: b :: c :: d :: e :: f :: g)) = false := by cases e <;> kernel_rfl
    rw [h'] at h; cases h
  | .agg [_, _, _, _, .bool _], h | .agg [_, _, _, _, .int _ _], h | .agg [_, _, _, _, .str _], h | .agg [_, _, _, _, .agg _], h | .agg [_, _, _, _, .tup _], h | .agg [_, _, _, _, .nilp], h | .agg [_, _, _, _, .nilmap], h | .agg [_, _, _, _, .nilfn], h | .agg [_, _, _, _, .nili], h | .agg [_, _, _, _, .ifc], h | .agg [_, _, _, _, .fn _], h | .agg [_, _, _, _, .rptr _], h => by simp [certI] at h
theorem certs_sub : ∀ ps : List PV, certsI ps = true → ps.length = (certsP (certsD ps)).length ∧ ∀ (j : Nat) x y, ps[j]? = some x → (certsP (certsD ps))[j]? = some y → SubC x y
  | [], _ => ⟨by simp [certsD, certsP], fun j x y h => by simp at h⟩
  | p :: ps, h => by
    simp only [certsI, Bool.and_eq_true] at h
    have h1 := cert_sub p h.1
    have h2 := certs_sub ps h.2
    refine ⟨by simp [certsD, certsP, ← h2.1], fun j x y hx hy => ?_⟩
    simp only [certsD, certsP] at hy
    cases j with
    | zero => simp at hx hy; subst hx hy; exact h1
    | succ j => exact h2.2 j x y (by simpa using hx) (by simpa using hy)
end
instance : Enc Cert where
  sz := 5
  enc := certP
  dec := certD
  is := certI
  is_enc := certI_P
  dec_enc := certD_P
  sub := cert_sub
abbrev Cert.kind : Cert → Int | .mk k _ _ _ => k
abbrev Cert.mults : Cert → List Int | .mk _ m _ _ => m
abbrev Cert.lin : Cert → Lin | .mk _ _ l _ => l
abbrev Cert.kids : Cert → List Cert | .mk _ _ _ k => k
theorem enc_cert (k : Int) (m : List Int) (l : Lin) (ks : List Cert) : (enc (Cert.mk k m l ks) : PV) = .agg [enc k, enc m, enc l.k, enc l.t, enc ks] := by
  show certP _ = _
  rw [certP, certsP_map]
  rfl
@[simp] theorem is_cert (a b c d e : PV) : is Cert (.agg [a, b, c, d, e]) = (is Int a && is (List Int) b && is Int c && is (List Coef) d && is (List Cert) e) := by
  show certI _ = _
  cases e <;> simp only [certI] <;> try (simp [is]; done)
  rename_i s t ks
  rw [certsI_all]
  show _ = (_ && ((ks.isEmpty || s == 5) && ks.all certI))
  rw [Bool.and_assoc]
@[simp] theorem dec_cert (a b c d e : PV) (h : is (List Cert) e = true) : (dec (.agg [a, b, c, d, e]) : Cert) = .mk (dec a) (dec b) ⟨dec c, dec d⟩ (dec e) := by
  show certD _ = _
  cases e <;> try (cases h; done)
  rw [certD, certsD_map]
  rfl
end Go.Pl

namespace Go.Pl
open Enc (enc dec is)
structure Er where
  b : Bool
  deriving DecidableEq
instance : Enc Er where
  sz := 1
  enc x := if x.b then .ifc else .nili
  dec | .ifc => ⟨true⟩ | _ => ⟨false⟩
  is | .ifc => true | .nili => true | _ => false
  is_enc v := by obtain ⟨b⟩ := v; cases b <;> rfl
  dec_enc v := by obtain ⟨b⟩ := v; cases b <;> rfl
  sub p h := by cases p <;> first | exact .refl _ | cases h
def atoiE (s : Str) : Int × Er := match Lib.atoiAll s.s with
  | .ok v => (v, ⟨false⟩)
  | .range => (Lib.atoiSat s.s, ⟨true⟩)
  | _ => (0, ⟨true⟩)
def itoaS (n : Int) : Str := ⟨Lib.itoa n⟩
def few4 (l : Lin) (n : Int) : Bool := l.t.all (fun t => decide (t.v.s.length ≤ 40)) && decide ((l.t.length : Int) ≤ n)
abbrev w64 (n : Int) : Int := IntKind.i64.wrap n
def insT (s : Str) (c : Int) : Bool → List Coef → List Coef
  | put, [] => if put then [] else [⟨s, c⟩]
  | put, t :: r => (if !put && decide (s.s < t.v.s) then [⟨s, c⟩] else []) ++ (if t.v = s then ⟨t.v, w64 (t.c + c)⟩ :: insT s c true r else t :: insT s c (put || decide (s.s < t.v.s)) r)
def plusL (l : Lin) (s : Str) (c : Int) : Lin := ⟨l.k, (insT s c false l.t).filter fun t => decide (t.c ≠ 0)⟩
def timesL (l x : Lin) (k : Int) : Lin := x.t.foldl (fun o t => plusL o t.v (w64 (k * t.c))) ⟨w64 (l.k + w64 (k * x.k)), l.t⟩
def lookV (v : List Coef) (s : Str) : Option Int := (v.find? fun t => decide (t.v = s)).map (·.c)
def evalT (v : List Coef) : Int → List Coef → Int × Int
  | n, [] => (n, 0)
  | n, t :: r => match lookV v t.v with
    | none => (0, 7)
    | some x => if x < -1000000000 then (0, 2) else if x > 1000000000 then (0, 2) else evalT v (w64 (n + w64 (t.c * x))) r
def evalL (l : Lin) (v : List Coef) : Int × Int := if validL l then evalT v l.k l.t else (0, 1)
def cmpK (a b : Int) : Int := if a < b then -1 else if a > b then 1 else 0
def cmpT : List Coef → List Coef → Int
  | [], [] => 0
  | [], _ :: _ => -1
  | _ :: _, [] => 1
  | x :: l, y :: m => if x.v.s < y.v.s ∨ x.v.s = y.v.s ∧ x.c < y.c then -1 else if x = y then cmpT l m else 1
def cmpL (a b : Lin) : Int := if cmpT a.t b.t ≠ 0 then cmpT a.t b.t else cmpK a.k b.k
mutual
def sizeC : Cert → Int
  | .mk _ _ _ ks => sizeCs 1 ks
def sizeCs (n : Int) : List Cert → Int
  | [] => n
  | c :: cs => sizeCs (w64 (n + sizeC c)) cs
end
def linOk (l : Lin) : Bool := decide (l.t.length ≤ 9223372036854775807)
def linSm (l : Lin) : Bool := linOk l && l.t.all fun t => decide (t.v.s.length ≤ 1000000)
mutual
def cOk : Cert → Bool
  | .mk _ m l ks => decide (m.length ≤ 9223372036854775807) && linOk l && decide (ks.length ≤ 9223372036854775807) && cOks ks
def cOks : List Cert → Bool
  | [] => true
  | c :: cs => cOk c && cOks cs
end
mutual
def depC : Cert → Nat
  | .mk _ _ _ ks => depCs ks + 1
def depCs : List Cert → Nat
  | [] => 0
  | c :: cs => max (depC c) (depCs cs)
end
end Go.Pl

namespace Go.Pl
open Go.RowKit
open Enc (enc dec is)
open EncL (encL decL isL)
theorem el_ex {α : Type} [Enc α] {l : List α} {i : Nat} (h : i < l.length) {P : α → Prop} (k : P l[i]) :
    ∃ y : α, AV.pv (PV.rptr (PV.cells (List.getD (List.map enc l) (Int.toNat (i : Int)) default))) = AV.pv (PV.rptr (PV.cells (enc y))) ∧ P y := ⟨l[i], by rw [getD_map enc h], k⟩
theorem idx_ok {α : Type} [Enc α] {l : List α} {i n : Nat} (h : i < l.length) (hn : Enc.sz α = n) : (decide (0 ≤ (i : Int)) && decide (Int.toNat (i : Int) < List.length (List.map (enc : α → PV) l)) && Enc.sz α == n) = true := by simp [hn, h]
theorem lt_ok {α : Type} [Enc α] {l : List α} {i : Nat} (h : i < l.length) : decide ((i : Int) < (List.length (List.map (enc : α → PV) l) : Int)) = true := by simp; omega
theorem lt_no {α : Type} [Enc α] {l : List α} {i : Nat} (h : ¬ i < l.length) : ¬ decide ((i : Int) < (List.length (List.map (enc : α → PV) l) : Int)) = true := by simp; omega
theorem lt_ok' {n i : Nat} (h : i < n) : decide ((i : Int) < (n : Int)) = true := by simp; omega
theorem lt_no' {n i : Nat} (h : ¬ i < n) : ¬ decide ((i : Int) < (n : Int)) = true := by simp; omega
theorem if_nf {P Q : Prop} : (if (!false) = true then P else Q) = P := rfl
theorem if_nt {P Q : Prop} : (if (!true) = true then P else Q) = Q := rfl
theorem iteT {c : Prop} [Decidable c] {P Q : Prop} (h : c) (k : P) : if c then P else Q := by rw [if_pos h]; exact k
theorem iteF {c : Prop} [Decidable c] {P Q : Prop} (h : ¬ c) (k : Q) : if c then P else Q := by rw [if_neg h]; exact k
theorem iteC {c : Prop} [Decidable c] {P Q : Prop} (h1 : c → P) (h2 : ¬ c → Q) : if c then P else Q := by split; exact h1 ‹_›; exact h2 ‹_›
theorem iteN {b : Bool} {P Q : Prop} (h1 : b = false → P) (h2 : b = true → Q) : if (!b) = true then P else Q := by cases b; exact h1 rfl; exact h2 rfl
theorem iteB {b : Bool} {P Q : Prop} (h1 : b = true → P) (h2 : b = false → Q) : if b = true then P else Q := by cases b; exact h2 rfl; exact h1 rfl
theorem iteD {c : Prop} [Decidable c] {P Q : Prop} (h1 : c → P) (h2 : ¬ c → Q) : if decide c = true then P else Q := by by_cases h : c; rw [if_pos (by simpa using h)]; exact h1 h; rw [if_neg (by simpa using h)]; exact h2 h
theorem iteE {α : Type} [BEq α] [LawfulBEq α] {x y : α} {P Q : Prop} (h1 : x = y → P) (h2 : x ≠ y → Q) : if (x == y) = true then P else Q := by by_cases h : x = y; rw [if_pos (by simpa using h)]; exact h1 h; rw [if_neg (by simpa using h)]; exact h2 h
theorem fits_of {β : Type} [Enc β] {x y : β} (h : x = y) : Fits y (enc x) := ⟨Enc.is_enc x, by rw [Enc.dec_enc, h]⟩
theorem fitB {x y : Bool} (h : x = y) : Fits y (.bool x) := ⟨rfl, h⟩
theorem fitI {x y : Int} (h : x = y) : Fits y (.int .i64 x) := ⟨rfl, h⟩
section
variable (x : Coef) (f : Fact)
theorem co1 : PV.asStr (List.getD (PV.cells (enc x)) 0 default) = x.v.s := rfl
theorem co2 : PV.asInt (List.getD (PV.cells (enc x)) (0 + 1) default) = x.c := rfl
theorem co3 : PV.asStr (List.getD (List.drop 0 (PV.cells (enc x))) 0 default) = x.v.s := rfl
theorem co4 : PV.asInt (List.getD (List.drop 1 (PV.cells (enc x))) 0 default) = x.c := rfl
end
theorem u8_no {c : UInt8} (n : Nat) (h : c ≠ UInt8.ofNat n) (hn : n < 256) : ¬ ((c.toNat : Int) == (n : Int)) = true := by
  intro e
  have e : (c.toNat : Int) = n := by simpa using e
  have e : c.toNat = n := by omega
  exact h (UInt8.toNat_inj.1 (by rw [e, UInt8.toNat_ofNat']; omega))
theorem bytesLess_eq : ∀ a b : List UInt8, Op.bytesLess a b = decide (a < b)
  | [], [] => by simp [Op.bytesLess]
  | _ :: _, [] => by simp [Op.bytesLess]
  | [], _ :: _ => by simp [Op.bytesLess]
  | x :: a, y :: b => by
    rw [Op.bytesLess, bytesLess_eq a b]
    simp only [List.cons_lt_cons_iff]
    by_cases h1 : x < y
    · simp [h1]
    · by_cases h2 : x = y
      · subst h2; simp
      · simp [h1, h2]
theorem Does.fuel {P : Program} {f : Nat} {α β : Type} [EncL α] [Enc β] {pre : α → Bool} {F : α → β} (μ : α → Nat) (h : ∀ N, Does P f (fun a => pre a && decide (μ a < N)) F) : Does P f pre F := fun ps hps => by
  refine h (μ (decL ps) + 1) ps ?_
  simp only [preT, Bool.and_eq_true, decide_eq_true_eq] at hps ⊢
  exact ⟨hps.1, hps.2, by omega⟩
theorem Does.or {P : Program} {f : Nat} {α β : Type} [EncL α] [Enc β] {pre : α → Bool} {F : α → β} (c : α → Bool) (h1 : Does P f (fun a => pre a && c a) F) (h2 : Does P f (fun a => pre a && !c a) F) : Does P f pre F := fun ps hps => by
  have hps' := hps
  simp only [preT, Bool.and_eq_true] at hps'
  cases hc : c (decL ps)
  · exact h2 ps (by simp only [preT, hps'.1, hps'.2, hc]; rfl)
  · exact h1 ps (by simp only [preT, hps'.1, hps'.2, hc]; rfl)
mutual
def pvB : PV → PV → Bool
  | .bool a, .bool b => a == b
  | .int k a, .int l b => kindEq k l && a == b
  | .str a, .str b => a == b
  | .sl s t xs, .sl s' t' ys => s == s' && t == t' && pvBs xs ys
  | .agg xs, .agg ys => pvBs xs ys
  | .tup xs, .tup ys => pvBs xs ys
  | .nilp, .nilp => true
  | .nilmap, .nilmap => true
  | .nilfn, .nilfn => true
  | .nili, .nili => true
  | .ifc, .ifc => true
  | .fn a, .fn b => a == b
  | .rptr xs, .rptr ys => pvBs xs ys
  | _, _ => false
def pvBs : List PV → List PV → Bool
  | [], [] => true
  | x :: xs, y :: ys => pvB x y && pvBs xs ys
  | _, _ => false
end
theorem kindEq_refl (k : IntKind) : kindEq k k = true := by cases k <;> rfl
mutual
theorem pvB_eq : ∀ (p q : PV), pvB p q = true → p = q
  | .bool a, q, h => by cases q <;> simp [pvB] at h; rw [h]
  | .int k a, q, h => by cases q <;> simp [pvB] at h; rw [kindEq_ok h.1, h.2]
  | .str a, q, h => by cases q <;> simp [pvB] at h; rw [h]
  | .sl s t xs, q, h => by cases q <;> simp [pvB] at h; rw [h.1.1, h.1.2, pvBs_eq xs _ h.2]
  | .agg xs, q, h => by cases q <;> simp [pvB] at h; rw [pvBs_eq xs _ h]
  | .tup xs, q, h => by cases q <;> simp [pvB] at h; rw [pvBs_eq xs _ h]
  | .nilp, q, h => by cases q <;> simp [pvB] at h; rfl
  | .nilmap, q, h => by cases q <;> simp [pvB] at h; rfl
  | .nilfn, q, h => by cases q <;> simp [pvB] at h; rfl
  | .nili, q, h => by cases q <;> simp [pvB] at h; rfl
  | .ifc, q, h => by cases q <;> simp [pvB] at h; rfl
  | .fn a, q, h => by cases q <;> simp [pvB] at h; rw [h]
  | .rptr xs, q, h => by cases q <;> simp [pvB] at h; rw [pvBs_eq xs _ h]
theorem pvBs_eq : ∀ (xs ys : List PV), pvBs xs ys = true → xs = ys
  | [], ys, h => by cases ys <;> simp [pvBs] at h; rfl
  | x :: xs, ys, h => by
    cases ys with
    | nil => simp [pvBs] at h
    | cons y ys => simp [pvBs] at h; rw [pvB_eq x y h.1, pvBs_eq xs ys h.2]
end
mutual
theorem pvB_refl : ∀ (p : PV), pvB p p = true
  | .bool a | .str a | .fn a => by simp [pvB]
  | .int k a => by simp [pvB, kindEq_refl]
  | .sl s t xs => by simp [pvB, pvBs_refl xs]
  | .agg xs | .tup xs | .rptr xs => by simp [pvB, pvBs_refl xs]
  | .nilp | .nilmap | .nilfn | .nili | .ifc => by simp [pvB]
theorem pvBs_refl : ∀ (xs : List PV), pvBs xs xs = true
  | [] => by simp [pvBs]
  | x :: xs => by simp [pvBs, pvB_refl x, pvBs_refl xs]
end
def can (α : Type) [Enc α] (p : PV) : Bool := pvB p (enc (dec p : α))
@[simp] theorem can_enc {α : Type} [Enc α] (a : α) : can α (enc a) = true := by unfold can; rw [Enc.dec_enc]; exact pvB_refl _
theorem can_eq {α : Type} [Enc α] {p : PV} (h : can α p = true) : ∃ a : α, p = enc a := ⟨_, pvB_eq _ _ h⟩
end Go.Pl

namespace Go.Pl
open Enc (enc dec is)
@[irreducible] def valD (a : Nat) (r : List UInt8) : Nat := r.foldl (fun a c => a * 10 + (c.toNat - 48)) a
theorem valD_nil (a : Nat) : valD a [] = a := by unfold valD; rfl
theorem valD_cons (a : Nat) (c : UInt8) (r : List UInt8) : valD a (c :: r) = valD (a * 10 + (c.toNat - 48)) r := by unfold valD; rfl
theorem digB_iff {c : UInt8} : digB c = true ↔ 48 ≤ c.toNat ∧ c.toNat ≤ 57 := by
  simp only [digB, Bool.and_eq_true, decide_eq_true_eq, UInt8.le_iff_toNat_le]
  have e1 : (48 : UInt8).toNat = 48 := rfl
  have e2 : (57 : UInt8).toNat = 57 := rfl
  rw [e1, e2]
theorem valD_lt : ∀ (r : List UInt8) (a : Nat), r.all digB = true → valD a r < (a + 1) * 10 ^ r.length
  | [], a, _ => by simp [valD_nil]
  | c :: r, a, h => by
    simp only [List.all_cons, Bool.and_eq_true, digB_iff] at h
    have := valD_lt r (a * 10 + (c.toNat - 48)) h.2
    rw [valD_cons, List.length_cons, Nat.pow_succ]
    refine Nat.lt_of_lt_of_le this ?_
    rw [Nat.mul_comm (10 ^ r.length) 10, ← Nat.mul_assoc]
    exact Nat.mul_le_mul_right _ (by omega)
theorem valD_ge : ∀ (r : List UInt8) (a : Nat), a ≤ valD a r
  | [], a => by rw [valD_nil]; exact Nat.le_refl _
  | c :: r, a => by
    have := valD_ge r (a * 10 + (c.toNat - 48))
    rw [valD_cons]
    omega
theorem parse_val : ∀ (r : List UInt8) (a : Nat), r.all digB = true → valD a r < 1000000000000000000 → Lib.parseUint10 a r = .ok (valD a r)
  | [], a, _, _ => by rw [valD_nil, Lib.parseUint10]
  | c :: r, a, h, hv => by
    simp only [List.all_cons, Bool.and_eq_true, digB_iff] at h
    rw [valD_cons] at hv ⊢
    have hge := valD_ge r (a * 10 + (c.toNat - 48))
    rw [Lib.parseUint10, if_pos h.1, if_neg (by omega), if_neg (by omega)]
    exact parse_val r _ h.2 hv
theorem dig_step {a d : Nat} (ha : 1 ≤ a) (hd : d ≤ 9) : Lib.decDigits (a * 10 + d) = Lib.decDigits a ++ [UInt8.ofNat (48 + d)] := by
  rw [Lib.decDigits, dif_neg (by omega), show (a * 10 + d) / 10 = a by omega, show (a * 10 + d) % 10 = d by omega]
theorem dig_val : ∀ (r : List UInt8) (a : Nat), 1 ≤ a → r.all digB = true → Lib.decDigits (valD a r) = Lib.decDigits a ++ r
  | [], a, _, _ => by simp [valD_nil]
  | c :: r, a, ha, h => by
    simp only [List.all_cons, Bool.and_eq_true, digB_iff] at h
    rw [valD_cons, dig_val r _ (by omega) h.2, dig_step ha (by omega)]
    have : UInt8.ofNat (48 + (c.toNat - 48)) = c := by
      rw [show 48 + (c.toNat - 48) = c.toNat by omega]
      exact UInt8.ofNat_toNat
    rw [this]
    simp
theorem u8_of {n : Nat} (h : n < 256) : (UInt8.ofNat n).toNat = n := by rw [UInt8.toNat_ofNat']; omega
theorem dec_digits : ∀ (u : Nat), 1 ≤ u → (Lib.decDigits u).all digB = true ∧ (Lib.decDigits u).head? ≠ some 48 ∧ Lib.decDigits u ≠ [] := by
  intro u
  induction u using Nat.strongRecOn with
  | _ u ih =>
    intro h1
    rw [Lib.decDigits]
    by_cases h : u < 10
    · rw [dif_pos h]
      refine ⟨?_, ?_, by simp⟩
      · simp only [List.all_cons, List.all_nil, Bool.and_true]
        rw [digB_iff, u8_of (by omega)]
        omega
      · simp only [List.head?_cons, ne_eq, Option.some.injEq]
        intro e
        have := congrArg UInt8.toNat e
        rw [u8_of (by omega)] at this
        have e48 : (48 : UInt8).toNat = 48 := rfl
        rw [e48] at this
        omega
    · rw [dif_neg h]
      obtain ⟨i1, i2, i3⟩ := ih (u / 10) (by omega) (by omega)
      refine ⟨?_, ?_, by simp⟩
      · rw [List.all_append, i1]
        simp only [List.all_cons, List.all_nil, Bool.and_true, Bool.true_and]
        rw [digB_iff, u8_of (by omega)]
        omega
      · cases hd : Lib.decDigits (u / 10) with
        | nil => exact absurd hd i3
        | cons c r => rw [hd] at i2; simpa using i2
def numB (r : List UInt8) : Bool := r.all digB && !r.isEmpty && decide (r.head? ≠ some 48)
theorem nil_ok (b : Bool) : isNilI (enc (⟨b⟩ : Er)) = !b := by cases b <;> rfl
theorem if_ok (e : Er) : isIfP (enc e) = true := by obtain ⟨b⟩ := e; cases b <;> rfl
theorem numeral (r : List UInt8) (hr : r.length ≤ 9) : (isNilI (enc (atoiE ⟨r⟩).2) && decide ((atoiE ⟨r⟩).1 > 0) && (Lib.itoa (atoiE ⟨r⟩).1 == r)) = numB r := by
  by_cases hn : numB r = true
  · rw [hn]
    simp only [numB, Bool.and_eq_true, Bool.not_eq_true', decide_eq_true_eq] at hn
    obtain ⟨⟨h1, h2⟩, h3⟩ := hn
    cases r with
    | nil => simp at h2
    | cons c r =>
      have h1' := h1
      simp only [List.all_cons, Bool.and_eq_true, digB_iff] at h1
      have hc : c ≠ 48 := by simpa using h3
      have hc' : c.toNat ≠ 48 := fun e => hc (UInt8.toNat_inj.1 (by rw [e]; rfl))
      have hv := valD_lt (c :: r) 0 h1'
      have hp : 10 ^ (c :: r).length ≤ 10 ^ 9 := Nat.pow_le_pow_right (by omega) hr
      have hpm := parse_val (c :: r) 0 h1' (by omega)
      have hat : Lib.atoiAll (c :: r) = .ok (valD 0 (c :: r) : Int) := by
        have e1 : ¬ (c.toNat = 43 ∨ c.toNat = 45) := by omega
        have e2 : ¬ c.toNat = 45 := by omega
        simp only [Lib.atoiAll, if_neg e1, Lib.parseMag, if_neg (show ¬ (c :: r = []) by simp), hpm]
        rw [if_neg (by omega), if_neg (fun e => e2 e.1), if_neg e2]
      have ha : atoiE ⟨c :: r⟩ = ((valD 0 (c :: r) : Int), ⟨false⟩) := by simp only [atoiE, hat]
      have hvd : valD 0 (c :: r) = valD (c.toNat - 48) r := by rw [valD_cons]; congr 1; omega
      have hpos := valD_ge r (c.toNat - 48)
      rw [ha]
      have h4 : Lib.itoa (valD 0 (c :: r) : Int) = c :: r := by
        rw [Lib.itoa, if_neg (by omega), Int.toNat_natCast, hvd, dig_val r _ (by omega) h1.2, Lib.decDigits, dif_pos (by omega)]
        have : UInt8.ofNat (48 + (c.toNat - 48)) = c := by
          rw [show 48 + (c.toNat - 48) = c.toNat by omega]
          exact UInt8.ofNat_toNat
        rw [this]; rfl
      simp only [nil_ok, h4, beq_self_eq_true, Bool.and_true, Bool.not_false, Bool.true_and]
      exact decide_eq_true (by omega)
  · have hn : numB r = false := by simpa using hn
    rw [hn]
    by_cases h1 : decide ((atoiE ⟨r⟩).1 > 0) = true
    · by_cases h2 : (Lib.itoa (atoiE ⟨r⟩).1 == r) = true
      · exfalso
        have h1 : (atoiE ⟨r⟩).1 > 0 := by simpa using h1
        have h2 : Lib.itoa (atoiE ⟨r⟩).1 = r := by simpa using h2
        rw [Lib.itoa, if_neg (by omega)] at h2
        obtain ⟨d1, d2, d3⟩ := dec_digits (atoiE ⟨r⟩).1.toNat (by omega)
        rw [h2] at d1 d2 d3
        have : numB r = true := by simp only [numB, d1, decide_eq_true d2, Bool.true_and, Bool.and_true]; cases r <;> simp at d3 ⊢
        rw [this] at hn; cases hn
      · simp [h2]
    · simp [h1]
theorem nameB_us (r : List UInt8) : nameB ⟨95 :: r⟩ = (numB r && decide (r.length ≤ 9)) := by simp [nameB, numB]
end Go.Pl

namespace Go.Pl
open Go.RowKit
open Enc (enc dec is)
open EncL (encL decL isL)
theorem look_map (s : List UInt8) : ∀ m : List (Str × Int), look (.str s) (mapP m) = some ((m.find? fun p => p.1.s == s).map fun p => .int .i64 p.2)
  | [] => rfl
  | p :: m => by
    simp only [mapP, List.map_cons, look, pvEq, List.find?_cons]
    by_cases h : s = p.1.s
    · subst h
      simp
    · have h1 : (s == p.1.s) = false := by simpa using h
      have h2 : (p.1.s == s) = false := by simpa using fun e : p.1.s = s => h e.symm
      simp only [h1, h2]
      exact look_map s m
theorem lookOK_map (s : List UInt8) (m : List (Str × Int)) : lookOK (.str s) (mapP m) = true := by simp [lookOK, look_map]
theorem lookD_map (s : List UInt8) (m : List (Str × Int)) : lookD (.str s) (.int .i64 0) (mapP m) = .int .i64 (atM m s) := by
  simp only [lookD, look_map, atM]
  cases m.find? fun p => p.1.s == s <;> rfl
def updM (s : Str) (c : Int) : List (Str × Int) → List (Str × Int)
  | [] => [(s, c)]
  | p :: m => if s.s = p.1.s then (s, c) :: m else p :: updM s c m
theorem upd_map (s : Str) (c : Int) : ∀ m : List (Str × Int), upd (.str s.s) (.int .i64 c) (mapP m) = some (mapP (updM s c m))
  | [] => rfl
  | p :: m => by
    have ih := upd_map s c m
    simp only [mapP] at ih
    simp only [mapP, List.map_cons, upd, pvEq, updM]
    by_cases h : s.s = p.1.s
    · simp [h]
    · have h1 : (s.s == p.1.s) = false := by simpa using h
      simp [h1, h, ih]
def addT (k : Int) : List Coef → List (Str × Int) → List (Str × Int)
  | [], m => m
  | t :: l, m => addT k l (updM t.v (IntKind.i64.wrap (atM m t.v.s + IntKind.i64.wrap (k * t.c))) m)
def keysM (m : List (Str × Int)) : List (List UInt8) := m.map (·.1.s)
theorem upd_keys (s : Str) (c : Int) : ∀ m : List (Str × Int), (keysM (updM s c m) = keysM m) ∨ (s.s ∉ keysM m ∧ keysM (updM s c m) = keysM m ++ [s.s])
  | [] => .inr ⟨by simp [keysM], rfl⟩
  | p :: m => by
    rw [updM]
    split
    · rename_i h
      exact .inl (by simp [keysM, h])
    · rename_i h
      rcases upd_keys s c m with e | ⟨e1, e2⟩
      · exact .inl (by simp only [keysM, List.map_cons] at e ⊢; rw [e])
      · refine .inr ⟨?_, ?_⟩
        · simp only [keysM, List.map_cons, List.mem_cons, not_or] at e1 ⊢
          exact ⟨h, e1⟩
        · simp only [keysM, List.map_cons] at e2 ⊢
          rw [e2]; rfl
theorem upd_nodup {s : Str} {c : Int} {m : List (Str × Int)} (h : (keysM m).Nodup) : (keysM (updM s c m)).Nodup := by
  rcases upd_keys s c m with e | ⟨e1, e2⟩
  · rw [e]; exact h
  · rw [e2, List.nodup_append]
    exact ⟨h, by simp, fun a ha b hb e => by simp at hb; subst hb; subst e; exact e1 ha⟩
theorem addT_nodup (k : Int) : ∀ (l : List Coef) (m : List (Str × Int)), (keysM m).Nodup → (keysM (addT k l m)).Nodup
  | [], m, h => h
  | t :: l, m, h => addT_nodup k l _ (upd_nodup h)
theorem upd_len (s : Str) (c : Int) (m : List (Str × Int)) : (updM s c m).length ≤ m.length + 1 := by
  have h : (updM s c m).length = (keysM (updM s c m)).length := by simp [keysM]
  have h2 : m.length = (keysM m).length := by simp [keysM]
  rcases upd_keys s c m with e | ⟨_, e⟩
  · rw [h, e, ← h2]; omega
  · rw [h, e]; simp; omega
theorem addT_len (k : Int) : ∀ (l : List Coef) (m : List (Str × Int)), (addT k l m).length ≤ m.length + l.length
  | [], m => Nat.le_refl _
  | t :: l, m => by
    have h1 := addT_len k l (updM t.v (IntKind.i64.wrap (atM m t.v.s + IntKind.i64.wrap (k * t.c))) m)
    have h2 := upd_len t.v (IntKind.i64.wrap (atM m t.v.s + IntKind.i64.wrap (k * t.c))) m
    rw [addT, List.length_cons]; omega
def nzM (m : List (Str × Int)) : List (Str × Int) := m.filter fun p => decide (p.2 ≠ 0)
def combN : AV × List AObj × List AObj := (.tup [.pv (.int .i64 0), .pv .nilmap, .pv (.bool false)], [], [])
theorem sortS_perm' {a b : List (List UInt8)} (h : a.Perm b) : sortS a = sortS b := by
  have tr : ∀ x y z : List UInt8, decide (x ≤ y) = true → decide (y ≤ z) = true → decide (x ≤ z) = true := fun x y z h k => by simp only [decide_eq_true_eq] at *; exact List.le_trans h k
  have to : ∀ x y : List UInt8, (decide (x ≤ y) || decide (y ≤ x)) = true := fun x y => by simp only [Bool.or_eq_true, decide_eq_true_eq]; exact List.le_total x y
  refine List.Perm.eq_of_pairwise (le := fun x y => decide (x ≤ y) = true) (fun x y _ _ h1 h2 => ?_) (List.pairwise_mergeSort tr to a) (List.pairwise_mergeSort tr to b) (((List.mergeSort_perm a _).trans h).trans (List.mergeSort_perm b _).symm)
  simp only [decide_eq_true_eq] at h1 h2
  exact List.le_antisymm h1 h2
structure FnV (n : Nat) where
  u : Unit := ()
instance (n : Nat) : Enc (FnV n) where
  sz := 1
  enc _ := .fn n
  dec _ := {}
  is | .fn m => m == n | _ => false
  is_enc _ := by simp
  dec_enc _ := rfl
  sub p h := by
    cases p with
    | fn m => have : m = n := by simpa using h
              subst this; exact .refl _
    | _ => cases h
def ixFind {α : Type} (p : α → Bool) (l : List α) : Int := match l.findIdx? p with | some i => i | none => -1
theorem ix_step {α : Type} (p : α → Bool) (l : List α) (i : Nat) (hlt : i < l.length) (hno : ∀ j (h : j < l.length), j < i → p l[j] = false) (hp : p l[i] = true) : ixFind p l = i := by
  unfold ixFind
  have : l.findIdx? p = some i := by
    rw [List.findIdx?_eq_some_iff_getElem]
    exact ⟨hlt, hp, fun j hj => by simp [hno j (by omega) hj]⟩
  rw [this]
theorem ix_none {α : Type} (p : α → Bool) (l : List α) (hno : ∀ j (h : j < l.length), p l[j] = false) : ixFind p l = -1 := by
  unfold ixFind
  have : l.findIdx? p = none := by
    rw [List.findIdx?_eq_none_iff]
    intro x hx
    obtain ⟨j, hj, rfl⟩ := List.getElem_of_mem hx
    exact hno j hj
  rw [this]
def pre_e1 : List AV → List AObj → Bool
  | [.pv x, .ptr 0 0], [.box [.pv (.str v), .pv (.int .i64 c)]] => can Coef x
  | _, _ => false
def val_e1 : List AV → List AObj → AV × List AObj × List AObj
  | [.pv x, _], [.box [.pv (.str v), .pv (.int .i64 c)]] => (.pv (.bool ((dec x : Coef).v.s == v)), [.box [.pv (.str v), .pv (.int .i64 c)]], [])
  | _, _ => combN
def pre_ixE (g : Nat) : List AV → List AObj → Bool
  | [.pv l, .fn g' [] [.ptr 0 0]], [.box [.pv (.str v), .pv (.int .i64 c)]] => g' == g && can (List Coef) l && decide ((dec l : List Coef).length ≤ 9223372036854775807)
  | _, _ => false
def val_ixE : List AV → List AObj → AV × List AObj × List AObj
  | [.pv l, _], [.box [.pv (.str v), .pv (.int .i64 c)]] => (.pv (.int .i64 (ixFind (fun t : Coef => t.v.s == v) (dec l))), [.box [.pv (.str v), .pv (.int .i64 c)]], [])
  | _, _ => combN
end Go.Pl

namespace Go.Pl
open Go.RowKit
open Enc (enc dec is)
open EncL (encL decL isL)
set_option maxRecDepth 100000
def ic_ladd : IC := (.seq (.reg [⟨(some 4), (.box 2 (.t 1)), 0, none⟩] none) (.seq (.reg [⟨(some 8), (.mv (.t 0)), 0, none⟩, ⟨(some 9), (.nilchk (.t 8)), 0, none⟩, ⟨(some 10), (.faddr 0 (.t 9)), 0, none⟩, ⟨(some 11), (.load false [(.int .i64)] (.t 10)), 0, none⟩, ⟨(some 12), (.mv (.t 2)), 0, none⟩, ⟨(some 13), (.faddr 0 (.t 4)), 0, none⟩, ⟨(some 14), (.load false [(.int .i64)] (.t 13)), 0, none⟩, ⟨(some 15), (.bin .num .mul (.t 12) (.t 14)), 0, none⟩, ⟨(some 16), (.bin .num .add (.t 11) (.t 15)), 0, none⟩, ⟨(some 17), (.nilchk (.t 8)), 0, none⟩, ⟨(some 18), (.faddr 0 (.t 17)), 0, none⟩, ⟨none, (.store 1 (.t 18) (.t 16)), 0, none⟩] (some [[], [0], [1, 0], [2, 1, 0], [], [], [5], [4, 6, 5], [3, 7, 2, 1, 0, 4, 6, 5], [0, 1, 2, 3, 4, 5, 6, 7, 8], [9, 0, 1, 2, 3, 4, 5, 6, 7, 8], [10, 8, 0, 1, 2, 3, 4, 5, 6, 7, 9]])) (.seq (.reg [⟨(some 19), (.faddr 1 (.t 4)), 0, none⟩, ⟨(some 20), (.load false [(.sl 2)] (.t 19)), 0, none⟩, ⟨(some 21), (.len 1 (.t 20)), 0, none⟩, ⟨(some 22), (.mv (.c (.int .i64 0))), 0, none⟩] none) (.block 0 (.loop [22, 21, 20, 0, 2] (.seq (.reg [⟨(some 23), (.bin .num .lss (.t 22) (.t 21)), 0, none⟩] none) (.seq (.cond (.t 23) .skip (.exit 0)) (.seq (.block 1 (.seq (.reg [⟨(some 24), (.iaddr 2 (.t 20) (.t 22)), 0, none⟩, ⟨(some 25), (.load true [.str, (.int .i64)] (.t 24)), 0, none⟩, ⟨(some 7), (.alloc (.agg [(.str []), (.int .i64 0)])), 0, none⟩, ⟨none, (.store 2 (.t 7) (.t 25)), 1, none⟩] none) (.reg [⟨(some 26), (.mv (.t 0)), 0, none⟩, ⟨(some 27), (.nilchk (.t 26)), 0, none⟩, ⟨(some 28), (.faddr 1 (.t 27)), 0, none⟩, ⟨(some 29), (.load false [.any] (.t 28)), 0, none⟩, ⟨(some 30), (.faddr 0 (.t 7)), 0, none⟩, ⟨(some 31), (.load false [.str] (.t 30)), 0, none⟩, ⟨(some 32), (.lookup true (.int .i64) (.int .i64 0) false (.t 29) (.t 31)), 0, none⟩, ⟨(some 33), (.mv (.t 2)), 0, none⟩, ⟨(some 34), (.faddr 1 (.t 7)), 0, none⟩, ⟨(some 35), (.load false [(.int .i64)] (.t 34)), 0, none⟩, ⟨(some 36), (.bin .num .mul (.t 33) (.t 35)), 0, none⟩, ⟨(some 37), (.bin .num .add (.t 32) (.t 36)), 0, none⟩, ⟨none, (.mapupd true (.t 29) (.t 31) (.t 37)), 0, none⟩] (some [[], [0], [1, 0], [2, 1, 0], [], [4], [3, 5, 2, 1, 0, 4], [], [], [8], [7, 9, 8], [6, 10, 3, 5, 2, 1, 0, 4, 7, 9, 8], [3, 5, 11, 0, 1, 2, 4, 6, 7, 8, 9, 10]])))) (.reg [⟨(some 38), (.bin .num .add (.t 22) (.c (.int .i64 1))), 0, none⟩, ⟨(some 22), (.mv (.t 38)), 0, none⟩] none)))))))))
def rs_ladd : List IRes := []
abbrev nt_ladd : Nat := 39
def T_ladd : Tab := tab []
theorem ladd_s {G : AV × List AObj × List AObj → Prop} (n : Int) (m : List (Str × Int)) (l : Lin) (k : Int) (h : At T_ladd 2 (endO' 2 rs_ladd G) ic_ladd 0 39 [(0, (.ptr 0 0)), (2, (.pv (.int .i64 k))), (20, (.pv (.sl 2 false (List.map enc l.t)))), (21, (.pv (.int .i64 (↑(List.length (List.map enc l.t)) : Int)))), (22, (.pv (.int .i64 0)))] [(.obj (.box [(.pv (.int .i64 (IntKind.wrap IntKind.i64 (n + IntKind.wrap IntKind.i64 (k * l.k))))), (.map 1)])), (.obj (.map (mapP m)))]) : Gets T_ladd 2 (endO' 2 rs_ladd G) ic_ladd [] (st0O 39 [.ptr 0 0, .pv (enc l), .pv (.int .i64 k)] [.box [.pv (.int .i64 n), .map 1], .map (mapP m)]) := Gets.to (.lit (.lit (.nil))) h (by kernel_rfl)
theorem ladd_h0 {G : AV × List AObj × List AObj → Prop} (n : Int) (m : List (Str × Int)) (l : Lin) (k : Int) (i : Int) (h : if (decide (i < (↑(List.length l.t) : Int))) = true then (decide (0 ≤ i) && decide (Int.toNat i < List.length (List.map enc l.t)) && Enc.sz Coef == 2) = true ∧ (∃ y0 : Coef, AV.pv (PV.rptr (PV.cells (List.getD (List.map enc l.t) (Int.toNat i) default))) = AV.pv (PV.rptr (PV.cells ((enc) y0))) ∧ ((lookOK (Sh.co Sh.str (List.getD (PV.cells (enc y0)) 0 default)) (mapP m) && Sh.fit (Sh.int .i64) (lookD (Sh.co Sh.str (List.getD (PV.cells (enc y0)) 0 default)) (PV.int .i64 0) (mapP m))) = true ∧ ((updOK (Sh.co Sh.str (List.getD (PV.cells (enc y0)) 0 default)) (PV.int .i64 (IntKind.wrap IntKind.i64 (PV.asInt (lookD (Sh.co Sh.str (List.getD (PV.cells (enc y0)) 0 default)) (PV.int .i64 0) (mapP m)) + IntKind.wrap IntKind.i64 (k * PV.asInt (List.getD (PV.cells (enc y0)) (0 + 1) default))))) (mapP m)) = true ∧ (At T_ladd 2 (endO' 2 rs_ladd G) ic_ladd 0 39 [(0, (.ptr 0 0)), (2, (.pv (.int .i64 k))), (20, (.pv (.sl 2 false (List.map enc l.t)))), (21, (.pv (.int .i64 (↑(List.length l.t) : Int)))), (22, (.pv (.int .i64 (IntKind.wrap IntKind.i64 (i + 1)))))] [(.obj (.box [(.pv (.int .i64 n)), (.map 1)])), (.obj (.map (updL (Sh.co Sh.str (List.getD (PV.cells (enc y0)) 0 default)) (PV.int .i64 (IntKind.wrap IntKind.i64 (PV.asInt (lookD (Sh.co Sh.str (List.getD (PV.cells (enc y0)) 0 default)) (PV.int .i64 0) (mapP m)) + IntKind.wrap IntKind.i64 (k * PV.asInt (List.getD (PV.cells (enc y0)) (0 + 1) default))))) (mapP m))))])))) else (G (((.tup []), ([(.box [(.pv (.int .i64 n)), (.map 1)]), (.map (mapP m))], []))))) : At T_ladd 2 (endO' 2 rs_ladd G) ic_ladd 0 39 [(0, .ptr 0 0), (2, .pv (.int .i64 k)), (20, .pv (enc l.t)), (21, .pv (.int .i64 l.t.length)), (22, .pv (.int .i64 i))] [.obj (.box [.pv (.int .i64 n), .map 1]), .obj (.map (mapP m))] := At.to (.lit (.ask (.req (.abs (Coef) (fun YY => AV.pv (PV.rptr (PV.cells ((enc) YY)))) (.lit (.req (.keep (.lit (.lit (.req (.lit (.nil)))))))))) (.nil))) h (by kernel_rfl)
end Go.Pl

namespace Go.Pl
open Go.RowKit
open Enc (enc dec is)
open EncL (encL decL isL)
set_option maxRecDepth 100000
def ic_resra : IC := (.seq (.reg [⟨(some 25), (.mv (.t 7)), 0, none⟩, ⟨(some 26), (.bin .num .neq (.t 25) (.c (.int .i64 0))), 0, none⟩] none) (.cond (.t 26) (.reg [⟨(some 27), (.mv (.t 5)), 0, none⟩, ⟨(some 28), (.mv (.t 6)), 0, none⟩, ⟨(some 29), (.bslice 9 1 1 (.str []) [(0, (.t 28))]), 0, none⟩, ⟨(some 30), (.append 9 1 16 (.t 27) (.t 29)), 1, none⟩, ⟨(some 5), (.mv (.t 30)), 2, none⟩] none) .skip))
def rs_resra : List IRes := []
def T_resra : Tab := tab [(71, .own pre_sorts val_sorts), (67, .pure (preT (fun x : Lin × Unit => linSm x.1)) (valT (fun x : Lin × Unit => validL x.1)))]
theorem resra_r0 {G : AV × List AObj × List AObj → Prop} (E : ExtE) (n : Int) (s : List UInt8) (c : Int)  (h : if (c != 0) = true then E 99 ⟨envJ 58 0 [(0, (.ptr 0 0)), (2, (.ptr 2 0)), (4, (.ptr 3 0)), (5, (.row 5 1 0 1)), (18, (.map 1)), (19, (.ptr 4 0))], [(.obj (.box [(.pv (.int .i64 n)), (.map 1)])), .dead, (.obj (.box [(.pv (.int .i64 0)), (.pv (.sl 0 true []))])), (.obj (.box [(.pv (.int .i64 n)), (.pv (.sl 0 true []))])), .dead, (.obj (.row false 9 1 [(.str s)]))]⟩ (fun x S' => AfX T_resra E 5 (endO' 5 rs_resra G) ic_resra 99 x S') else (E 99 ⟨envJ 58 0 [(0, (.ptr 0 0)), (2, (.ptr 2 0)), (4, (.ptr 3 0)), (5, (.pv (.sl 0 true []))), (18, (.map 1)), (19, (.ptr 4 0))], [(.obj (.box [(.pv (.int .i64 n)), (.map 1)])), .dead, (.obj (.box [(.pv (.int .i64 0)), (.pv (.sl 0 true []))])), (.obj (.box [(.pv (.int .i64 n)), (.pv (.sl 0 true []))])), .dead]⟩ (fun x S' => AfX T_resra E 5 (endO' 5 rs_resra G) ic_resra 99 x S'))) : GetsX T_resra E 5 (endO' 5 rs_resra G) (.inl ic_resra) [.blk 1, .seq (.ext 99 [0, 2, 4, 5, 18, 19])] ⟨envJ 58 0 [(0, .ptr 0 0), (2, .ptr 2 0), (4, .ptr 3 0), (5, .pv (.sl 0 true [])), (6, .pv (.str s)), (7, .pv (.int .i64 c)), (18, .map 1), (19, .ptr 4 0), (22, .pv (.tup [.str s, .int .i64 c])), (23, .pv (.str s)), (24, .pv (.int .i64 c))], [.obj (.box [.pv (.int .i64 n), .map 1]), .dead, .obj (.box [.pv (.int .i64 0), .pv (.sl 0 true [])]), .obj (.box [.pv (.int .i64 n), .pv (.sl 0 true [])]), .dead]⟩ := GetsX.mo (.lit (.ask (.lit (.lit (.lit (.lit (.lit (.nil)))))) (.nil))) h (by kernel_rfl)
theorem resrb_r0 {G : AV × List AObj × List AObj → Prop} (E : ExtE) (n : Int) (s : List UInt8) (c : Int) (l : Nat) (xs : List (List UInt8))  (h : if (c != 0) = true then (List.length (List.map PV.str xs) == l && l == l && decide ((l + List.length (List.drop 0 (List.take 1 [PV.str s]))) * 16 ≤ 1099511627776) && decide (l + List.length (List.drop 0 (List.take 1 [PV.str s])) ≤ 1099511627776)) = true ∧ (E 99 ⟨envJ 58 0 [(0, (.ptr 0 0)), (2, (.ptr 2 0)), (4, (.ptr 3 0)), (5, (.row 5 (l + List.length (List.drop 0 (List.take 1 [PV.str s]))) 0 (l + List.length (List.drop 0 (List.take 1 [PV.str s]))))), (18, (.map 1)), (19, (.ptr 4 0))], [(.obj (.box [(.pv (.int .i64 n)), (.map 1)])), .dead, (.obj (.box [(.pv (.int .i64 0)), (.pv (.sl 0 true []))])), (.obj (.box [(.pv (.int .i64 n)), (.pv (.sl 0 true []))])), .dead, (.obj (.row false 9 1 (List.map PV.str xs ++ List.drop 0 (List.take 1 [PV.str s]))))]⟩ (fun x S' => AfX T_resra E 6 (endO' 6 rs_resra G) ic_resra 99 x S')) else (E 99 ⟨envJ 58 0 [(0, (.ptr 0 0)), (2, (.ptr 2 0)), (4, (.ptr 3 0)), (5, (.row 5 l 0 l)), (18, (.map 1)), (19, (.ptr 4 0))], [(.obj (.box [(.pv (.int .i64 n)), (.map 1)])), .dead, (.obj (.box [(.pv (.int .i64 0)), (.pv (.sl 0 true []))])), (.obj (.box [(.pv (.int .i64 n)), (.pv (.sl 0 true []))])), .dead, (.obj (.row false 9 1 (List.map PV.str xs)))]⟩ (fun x S' => AfX T_resra E 6 (endO' 6 rs_resra G) ic_resra 99 x S'))) : GetsX T_resra E 6 (endO' 6 rs_resra G) (.inl ic_resra) [.blk 1, .seq (.ext 99 [0, 2, 4, 5, 18, 19])] ⟨envJ 58 0 [(0, .ptr 0 0), (2, .ptr 2 0), (4, .ptr 3 0), (5, .row 5 l 0 l), (6, .pv (.str s)), (7, .pv (.int .i64 c)), (18, .map 1), (19, .ptr 4 0), (22, .pv (.tup [.str s, .int .i64 c])), (23, .pv (.str s)), (24, .pv (.int .i64 c))], [.obj (.box [.pv (.int .i64 n), .map 1]), .dead, .obj (.box [.pv (.int .i64 0), .pv (.sl 0 true [])]), .obj (.box [.pv (.int .i64 n), .pv (.sl 0 true [])]), .dead, .obj (.row false 9 1 (xs.map .str))]⟩ := GetsX.mo (.lit (.ask (.lit (.lit (.req (.nil)))) (.nil))) h (by kernel_rfl)
def ic_resx : IC := (.seq (.reg [⟨(some 2), (.alloc (.agg [(.int .i64 0), (.sl 0 true [])])), 0, none⟩, ⟨(some 3), (.mv (.c (.int .i64 0))), 1, none⟩] none) (.seq (.reg [⟨(some 10), (.mv (.t 0)), 0, none⟩, ⟨(some 11), (.nilchk (.t 10)), 0, none⟩, ⟨(some 12), (.faddr 0 (.t 11)), 0, none⟩, ⟨(some 13), (.load false [(.int .i64)] (.t 12)), 0, none⟩, ⟨(some 14), (.build [(.int .i64 0), (.sl 0 true [])] [(0, (1, (.t 13)))]), 0, none⟩, ⟨(some 4), (.alloc (.agg [(.int .i64 0), (.sl 0 true [])])), 0, none⟩, ⟨none, (.store 2 (.t 4) (.t 14)), 1, none⟩] none) (.seq (.reg [⟨(some 5), (.mv (.c (.sl 0 true []))), 0, none⟩] none) (.seq (.ext 0 [0, 15, 16, 17, 18, 19, 20, 21, 22, 23, 24, 7, 25, 26, 5, 6, 28, 27, 29, 30, 4, 2]) (.seq (.reg [⟨(some 31), (.mv (.t 5)), 0, none⟩, ⟨(some 32), (.call (.c (.fn 71)) [(.t 31)]), 0, none⟩] none) (.seq (.seq (.reg [⟨(some 33), (.mv (.t 5)), 0, none⟩, ⟨(some 34), (.len 1 (.t 33)), 0, none⟩, ⟨(some 35), (.mv (.c (.int .i64 0))), 0, none⟩] none) (.block 2 (.loop [35, 34, 33, 4, 0, 2] (.seq (.reg [⟨(some 36), (.bin .num .lss (.t 35) (.t 34)), 0, none⟩] none) (.seq (.cond (.t 36) .skip (.exit 2)) (.seq (.block 3 (.seq (.reg [⟨(some 37), (.iaddr 1 (.t 33) (.t 35)), 0, none⟩, ⟨(some 38), (.load false [.str] (.t 37)), 0, none⟩, ⟨(some 9), (.mv (.t 38)), 0, none⟩] none) (.reg [⟨(some 39), (.faddr 1 (.t 4)), 0, none⟩, ⟨(some 40), (.load false [(.sl 2)] (.t 39)), 0, none⟩, ⟨(some 41), (.mv (.t 9)), 0, none⟩, ⟨(some 42), (.mv (.t 0)), 0, none⟩, ⟨(some 43), (.nilchk (.t 42)), 0, none⟩, ⟨(some 44), (.faddr 1 (.t 43)), 0, none⟩, ⟨(some 45), (.load false [.any] (.t 44)), 0, none⟩, ⟨(some 46), (.mv (.t 9)), 0, none⟩, ⟨(some 47), (.lookup true (.int .i64) (.int .i64 0) false (.t 45) (.t 46)), 0, none⟩, ⟨(some 48), (.build [(.str []), (.int .i64 0)] [(0, (1, (.t 41))), (1, (1, (.t 47)))]), 0, none⟩, ⟨(some 49), (.bslice 87 2 1 (.agg [(.str []), (.int .i64 0)]) [(0, (.t 48))]), 0, none⟩, ⟨(some 50), (.append 87 2 24 (.t 40) (.t 49)), 1, none⟩, ⟨(some 51), (.faddr 1 (.t 4)), 2, none⟩, ⟨none, (.store 1 (.t 51) (.t 50)), 2, none⟩] (some [[], [0], [], [], [3], [4, 3], [5, 4, 3], [], [6, 7, 5, 4, 3], [2, 8, 6, 7, 5, 4, 3], [9, 2, 8, 6, 7, 5, 4, 3], [1, 10, 0, 9, 2, 8, 6, 7, 5, 4, 3], [0, 1, 2, 3, 4, 5, 6, 7, 8, 9, 10, 11], [12, 11, 0, 1, 2, 3, 4, 5, 6, 7, 8, 9, 10]])))) (.reg [⟨(some 52), (.bin .num .add (.t 35) (.c (.int .i64 1))), 0, none⟩, ⟨(some 35), (.mv (.t 52)), 0, none⟩] none))))))) (.seq (.seq (.reg [⟨(some 53), (.load true [(.int .i64), (.sl 2)] (.t 4)), 0, none⟩, ⟨(some 54), (.call (.c (.fn 67)) [(.t 53)]), 0, none⟩, ⟨(some 55), (.un .not (.t 54)), 2, none⟩] none) (.cond (.t 55) (.seq (.reg [⟨(some 56), (.build [(.int .i64 0), (.sl 0 true [])] []), 0, none⟩, ⟨none, (.store 2 (.t 2) (.t 56)), 0, none⟩, ⟨(some 3), (.mv (.c (.int .i64 3))), 0, none⟩] none) .ret) .skip)) (.seq (.reg [⟨(some 57), (.load true [(.int .i64), (.sl 2)] (.t 4)), 0, none⟩, ⟨none, (.store 2 (.t 2) (.t 57)), 0, none⟩, ⟨(some 3), (.mv (.c (.int .i64 0))), 0, none⟩] none) .ret))))))))
def rs_resx : List IRes := [(.cell true 2 2), (.tmp 3)]
abbrev nt_resx : Nat := 58
def T_resx : Tab := tab [(71, .own pre_sorts val_sorts), (67, .pure (preT (fun x : Lin × Unit => linSm x.1)) (valT (fun x : Lin × Unit => validL x.1)))]
theorem resx_s {G : AV × List AObj × List AObj → Prop} (E : ExtE) (n : Int) (m : List (Str × Int)) (h : E 0 ⟨envJ 58 0 [(0, (.ptr 0 0)), (2, (.ptr 2 0)), (4, (.ptr 3 0)), (5, (.pv (.sl 0 true []))), (6, .undef), (7, .undef), (15, .undef), (16, .undef), (17, .undef), (18, .undef), (19, .undef), (20, .undef), (21, .undef), (22, .undef), (23, .undef), (24, .undef), (25, .undef), (26, .undef), (27, .undef), (28, .undef), (29, .undef), (30, .undef)], [(.obj (.box [(.pv (.int .i64 n)), (.map 1)])), (.obj (.map (mapP m))), (.obj (.box [(.pv (.int .i64 0)), (.pv (.sl 0 true []))])), (.obj (.box [(.pv (.int .i64 n)), (.pv (.sl 0 true []))]))]⟩ (fun x S' => AfX T_resx E 2 (endO' 2 rs_resx G) ic_resx 0 x S')) : GetsX T_resx E 2 (endO' 2 rs_resx G) (.inl ic_resx) [] (st0O 58 [.ptr 0 0] [.box [.pv (.int .i64 n), .map 1], .map (mapP m)]) := GetsX.mo (.nil) h (by kernel_rfl)
-- IMPOSSIBLE
theorem resx_h0n {G : AV × List AObj × List AObj → Prop} (E : ExtE) (n : Int) (m : List (Str × Int)) (i : Int) (h : if (decide (i < 0)) = true then (decide (0 ≤ i) && decide (Int.toNat i < List.length ([] : List PV)) && 0 == 1) = true ∧ (False) else (∃ y0 : Bool, AV.pv (valT (fun (x : Lin × Unit) => validL x.1) [(.agg [(.int .i64 n), (.sl 0 true [])])]) = AV.pv (enc y0) ∧ (if (!y0) = true then G (((.tup [(.pv (.agg [(.int .i64 0), (.sl 0 true [])])), (.pv (.int .i64 3))]), ([(.box [(.pv (.int .i64 n)), (.map 1)]), (.map (mapP m))], []))) else (G (((.tup [(.pv (.agg [(.int .i64 n), (.sl 0 true [])])), (.pv (.int .i64 0))]), ([(.box [(.pv (.int .i64 n)), (.map 1)]), (.map (mapP m))], []))))))) : AtM T_resx E 2 (endO' 2 rs_resx G) ic_resx 0 58 [(0, .ptr 0 0), (2, .ptr 2 0), (4, .ptr 3 0), (33, .pv (.sl 0 true [])), (34, .pv (.int .i64 0)), (35, .pv (.int .i64 i))] [.obj (.box [.pv (.int .i64 n), .map 1]), .obj (.map (mapP m)), .obj (.box [.pv (.int .i64 0), .pv (.sl 0 true [])]), .obj (.box [.pv (.int .i64 n), .pv (.sl 0 true [])])] := GetsX.mo (.lit (.ask (.req (.keep (.lit (.nil)))) (.lit (.abs (Bool) (fun YY => AV.pv (enc YY)) (.ask (.nil) (.nil)))))) h (by kernel_rfl)
theorem resx_h0a {G : AV × List AObj × List AObj → Prop} (E : ExtE) (n : Int) (m : List (Str × Int)) (l : Nat) (xs : List (List UInt8)) (i : Int) (h : if (decide (i < (↑l : Int))) = true then (decide (0 ≤ i) && decide (0 + Int.toNat i < l) && List.length (List.map PV.str xs) == l) = true ∧ ((List.length (List.map PV.str xs) == l && decide (0 + Int.toNat i < List.length (List.map PV.str xs))) = true ∧ ((decide (0 + List.length [Sh.str] ≤ List.length (PV.cells (List.getD (List.map PV.str xs) (0 + Int.toNat i) default))) && shFit (PV.cells (List.getD (List.map PV.str xs) (0 + Int.toNat i) default)) 0 [Sh.str]) = true ∧ ((lookOK (Sh.co Sh.str (List.getD (PV.cells (List.getD (List.map PV.str xs) (0 + Int.toNat i) default)) 0 default)) (mapP m) && Sh.fit (Sh.int .i64) (lookD (Sh.co Sh.str (List.getD (PV.cells (List.getD (List.map PV.str xs) (0 + Int.toNat i) default)) 0 default)) (PV.int .i64 0) (mapP m))) = true ∧ (AtM T_resx E 2 (endO' 2 rs_resx G) ic_resx 0 58 [(0, (.ptr 0 0)), (2, (.ptr 2 0)), (4, (.ptr 3 0)), (33, (.row 4 l 0 l)), (34, (.pv (.int .i64 (↑l : Int)))), (35, (.pv (.int .i64 (IntKind.wrap IntKind.i64 (i + 1)))))] [(.obj (.box [(.pv (.int .i64 n)), (.map 1)])), (.obj (.map (mapP m))), (.obj (.box [(.pv (.int .i64 0)), (.pv (.sl 0 true []))])), (.obj (.box [(.pv (.int .i64 n)), (.row 5 1 0 1)])), (.obj (.row false 9 1 (List.map PV.str xs))), (.obj (.row false 87 2 [(.agg [(.str (PV.asStr (List.getD (PV.cells (List.getD (List.map PV.str xs) (0 + Int.toNat i) default)) 0 default))), (.int .i64 (PV.asInt (lookD (Sh.co Sh.str (List.getD (PV.cells (List.getD (List.map PV.str xs) (0 + Int.toNat i) default)) 0 default)) (PV.int .i64 0) (mapP m))))])]))])))) else (∃ y0 : Bool, AV.pv (valT (fun (x : Lin × Unit) => validL x.1) [(.agg [(.int .i64 n), (.sl 0 true [])])]) = AV.pv (enc y0) ∧ (if (!y0) = true then G (((.tup [(.pv (.agg [(.int .i64 0), (.sl 0 true [])])), (.pv (.int .i64 3))]), ([(.box [(.pv (.int .i64 n)), (.map 1)]), (.map (mapP m))], []))) else (G (((.tup [(.pv (.agg [(.int .i64 n), (.sl 0 true [])])), (.pv (.int .i64 0))]), ([(.box [(.pv (.int .i64 n)), (.map 1)]), (.map (mapP m))], []))))))) : AtM T_resx E 2 (endO' 2 rs_resx G) ic_resx 0 58 [(0, .ptr 0 0), (2, .ptr 2 0), (4, .ptr 3 0), (33, .row 4 l 0 l), (34, .pv (.int .i64 l)), (35, .pv (.int .i64 i))] [.obj (.box [.pv (.int .i64 n), .map 1]), .obj (.map (mapP m)), .obj (.box [.pv (.int .i64 0), .pv (.sl 0 true [])]), .obj (.box [.pv (.int .i64 n), .pv (.sl 0 true [])]), .obj (.row false 9 1 (xs.map .str))] := GetsX.mo (.lit (.ask (.req (.keep (.req (.req (.req (.keep (.lit (.lit (.lit (.lit (.lit (.lit (.nil))))))))))))) (.lit (.abs (Bool) (fun YY => AV.pv (enc YY)) (.ask (.nil) (.nil)))))) h (by kernel_rfl)
theorem resx_h0b {G : AV × List AObj × List AObj → Prop} (E : ExtE) (n : Int) (m : List (Str × Int)) (l : Nat) (xs : List (List UInt8)) (i : Int) (q : Nat) (ts : List Coef) (h : if (decide (i < (↑l : Int))) = true then (decide (0 ≤ i) && decide (0 + Int.toNat i < l) && List.length (List.map PV.str xs) == l) = true ∧ ((List.length (List.map PV.str xs) == l && decide (0 + Int.toNat i < List.length (List.map PV.str xs))) = true ∧ ((decide (0 + List.length [Sh.str] ≤ List.length (PV.cells (List.getD (List.map PV.str xs) (0 + Int.toNat i) default))) && shFit (PV.cells (List.getD (List.map PV.str xs) (0 + Int.toNat i) default)) 0 [Sh.str]) = true ∧ ((lookOK (Sh.co Sh.str (List.getD (PV.cells (List.getD (List.map PV.str xs) (0 + Int.toNat i) default)) 0 default)) (mapP m) && Sh.fit (Sh.int .i64) (lookD (Sh.co Sh.str (List.getD (PV.cells (List.getD (List.map PV.str xs) (0 + Int.toNat i) default)) 0 default)) (PV.int .i64 0) (mapP m))) = true ∧ ((List.length (List.map enc ts) == q && q == q && decide ((q + List.length (List.drop 0 (List.take 1 [PV.agg [Sh.co Sh.str (List.getD (PV.cells (List.getD (List.map PV.str xs) (0 + Int.toNat i) default)) 0 default), if false = true then PV.tup [Sh.co (Sh.int .i64) (lookD (Sh.co Sh.str (List.getD (PV.cells (List.getD (List.map PV.str xs) (0 + Int.toNat i) default)) 0 default)) (PV.int .i64 0) (mapP m)), PV.bool (lookHas (Sh.co Sh.str (List.getD (PV.cells (List.getD (List.map PV.str xs) (0 + Int.toNat i) default)) 0 default)) (mapP m))] else Sh.co (Sh.int .i64) (lookD (Sh.co Sh.str (List.getD (PV.cells (List.getD (List.map PV.str xs) (0 + Int.toNat i) default)) 0 default)) (PV.int .i64 0) (mapP m))]]))) * 24 ≤ 1099511627776) && decide (q + List.length (List.drop 0 (List.take 1 [PV.agg [Sh.co Sh.str (List.getD (PV.cells (List.getD (List.map PV.str xs) (0 + Int.toNat i) default)) 0 default), if false = true then PV.tup [Sh.co (Sh.int .i64) (lookD (Sh.co Sh.str (List.getD (PV.cells (List.getD (List.map PV.str xs) (0 + Int.toNat i) default)) 0 default)) (PV.int .i64 0) (mapP m)), PV.bool (lookHas (Sh.co Sh.str (List.getD (PV.cells (List.getD (List.map PV.str xs) (0 + Int.toNat i) default)) 0 default)) (mapP m))] else Sh.co (Sh.int .i64) (lookD (Sh.co Sh.str (List.getD (PV.cells (List.getD (List.map PV.str xs) (0 + Int.toNat i) default)) 0 default)) (PV.int .i64 0) (mapP m))]])) ≤ 1099511627776)) = true ∧ (AtM T_resx E 2 (endO' 2 rs_resx G) ic_resx 0 58 [(0, (.ptr 0 0)), (2, (.ptr 2 0)), (4, (.ptr 3 0)), (33, (.row 4 l 0 l)), (34, (.pv (.int .i64 (↑l : Int)))), (35, (.pv (.int .i64 (IntKind.wrap IntKind.i64 (i + 1)))))] [(.obj (.box [(.pv (.int .i64 n)), (.map 1)])), (.obj (.map (mapP m))), (.obj (.box [(.pv (.int .i64 0)), (.pv (.sl 0 true []))])), (.obj (.box [(.pv (.int .i64 n)), (.row 5 (q + List.length (List.drop 0 (List.take 1 [PV.agg [Sh.co Sh.str (List.getD (PV.cells (List.getD (List.map PV.str xs) (0 + Int.toNat i) default)) 0 default), if false = true then PV.tup [Sh.co (Sh.int .i64) (lookD (Sh.co Sh.str (List.getD (PV.cells (List.getD (List.map PV.str xs) (0 + Int.toNat i) default)) 0 default)) (PV.int .i64 0) (mapP m)), PV.bool (lookHas (Sh.co Sh.str (List.getD (PV.cells (List.getD (List.map PV.str xs) (0 + Int.toNat i) default)) 0 default)) (mapP m))] else Sh.co (Sh.int .i64) (lookD (Sh.co Sh.str (List.getD (PV.cells (List.getD (List.map PV.str xs) (0 + Int.toNat i) default)) 0 default)) (PV.int .i64 0) (mapP m))]]))) 0 (q + List.length (List.drop 0 (List.take 1 [PV.agg [Sh.co Sh.str (List.getD (PV.cells (List.getD (List.map PV.str xs) (0 + Int.toNat i) default)) 0 default), if false = true then PV.tup [Sh.co (Sh.int .i64) (lookD (Sh.co Sh.str (List.getD (PV.cells (List.getD (List.map PV.str xs) (0 + Int.toNat i) default)) 0 default)) (PV.int .i64 0) (mapP m)), PV.bool (lookHas (Sh.co Sh.str (List.getD (PV.cells (List.getD (List.map PV.str xs) (0 + Int.toNat i) default)) 0 default)) (mapP m))] else Sh.co (Sh.int .i64) (lookD (Sh.co Sh.str (List.getD (PV.cells (List.getD (List.map PV.str xs) (0 + Int.toNat i) default)) 0 default)) (PV.int .i64 0) (mapP m))]]))))])), (.obj (.row false 9 1 (List.map PV.str xs))), (.obj (.row false 87 2 (List.map enc ts ++ List.drop 0 (List.take 1 [PV.agg [Sh.co Sh.str (List.getD (PV.cells (List.getD (List.map PV.str xs) (0 + Int.toNat i) default)) 0 default), if false = true then PV.tup [Sh.co (Sh.int .i64) (lookD (Sh.co Sh.str (List.getD (PV.cells (List.getD (List.map PV.str xs) (0 + Int.toNat i) default)) 0 default)) (PV.int .i64 0) (mapP m)), PV.bool (lookHas (Sh.co Sh.str (List.getD (PV.cells (List.getD (List.map PV.str xs) (0 + Int.toNat i) default)) 0 default)) (mapP m))] else Sh.co (Sh.int .i64) (lookD (Sh.co Sh.str (List.getD (PV.cells (List.getD (List.map PV.str xs) (0 + Int.toNat i) default)) 0 default)) (PV.int .i64 0) (mapP m))]]))))]))))) else ((List.length (List.map enc ts) == q) = true ∧ ((Go.Pl.preT (fun (x : Lin × Unit) => linSm x.1) [(.agg [(.int .i64 n), (.sl 2 false (List.drop 0 (List.take q (List.map enc ts))))])]) = true ∧ (∃ y0 : Bool, AV.pv (valT (fun (x : Lin × Unit) => validL x.1) [(.agg [(.int .i64 n), (.sl 2 false (List.drop 0 (List.take q (List.map enc ts))))])]) = AV.pv (enc y0) ∧ (if (!y0) = true then G (((.tup [(.pv (.agg [(.int .i64 0), (.sl 0 true [])])), (.pv (.int .i64 3))]), ([(.box [(.pv (.int .i64 n)), (.map 1)]), (.map (mapP m))], []))) else (G (((.tup [(.agg [(.pv (.int .i64 n)), (.row 2 q 0 q)]), (.pv (.int .i64 0))]), ([(.box [(.pv (.int .i64 n)), (.map 1)]), (.map (mapP m))], [(.row true 87 2 (List.map enc ts))]))))))))) : AtM T_resx E 2 (endO' 2 rs_resx G) ic_resx 0 58 [(0, .ptr 0 0), (2, .ptr 2 0), (4, .ptr 3 0), (33, .row 4 l 0 l), (34, .pv (.int .i64 l)), (35, .pv (.int .i64 i))] [.obj (.box [.pv (.int .i64 n), .map 1]), .obj (.map (mapP m)), .obj (.box [.pv (.int .i64 0), .pv (.sl 0 true [])]), .obj (.box [.pv (.int .i64 n), .row 5 q 0 q]), .obj (.row false 9 1 (xs.map .str)), .obj (.row false 87 2 (ts.map enc))] := GetsX.mo (.lit (.ask (.req (.keep (.req (.req (.req (.keep (.lit (.lit (.req (.lit (.nil))))))))))) (.req (.req (.abs (Bool) (fun YY => AV.pv (enc YY)) (.ask (.nil) (.nil))))))) h (by kernel_rfl)
theorem resx_x0a {G : AV × List AObj × List AObj → Prop} (E : ExtE) (n : Int) (m : List (Str × Int))  (h : AtM T_resx E 2 (endO' 2 rs_resx G) ic_resx 0 58 [(0, (.ptr 0 0)), (2, (.ptr 2 0)), (4, (.ptr 3 0)), (33, (.pv (.sl 0 true []))), (34, (.pv (.int .i64 0))), (35, (.pv (.int .i64 0)))] [(.obj (.box [(.pv (.int .i64 n)), (.map 1)])), (.obj (.map (mapP m))), (.obj (.box [(.pv (.int .i64 0)), (.pv (.sl 0 true []))])), (.obj (.box [(.pv (.int .i64 n)), (.pv (.sl 0 true []))]))]) : AfX T_resx E 2 (endO' 2 rs_resx G) ic_resx 0 .normal ⟨envJ 58 0 [(0, .ptr 0 0), (2, .ptr 2 0), (4, .ptr 3 0), (5, .pv (.sl 0 true [])), (18, .map 1), (19, .ptr 4 0)], [.obj (.box [.pv (.int .i64 n), .map 1]), .obj (.map (mapP m)), .obj (.box [.pv (.int .i64 0), .pv (.sl 0 true [])]), .obj (.box [.pv (.int .i64 n), .pv (.sl 0 true [])]), .dead]⟩ := GetsX.mo (.lit (.keep (.nil))) h (by kernel_rfl)
theorem resx_x0b {G : AV × List AObj × List AObj → Prop} (E : ExtE) (n : Int) (m : List (Str × Int)) (l : Nat) (xs : List (List UInt8)) (h : (pre_sorts [(.row 0 l 0 l)] [(.row false 9 1 (List.map PV.str xs))]) = true ∧ (AtM T_resx E 2 (endO' 2 rs_resx G) ic_resx 0 58 [(0, (.ptr 0 0)), (2, (.ptr 2 0)), (4, (.ptr 3 0)), (33, (.row 4 l 0 l)), (34, (.pv (.int .i64 (↑(l - 0) : Int)))), (35, (.pv (.int .i64 0)))] [(.obj (.box [(.pv (.int .i64 n)), (.map 1)])), (.obj (.map (mapP m))), (.obj (.box [(.pv (.int .i64 0)), (.pv (.sl 0 true []))])), (.obj (.box [(.pv (.int .i64 n)), (.pv (.sl 0 true []))])), (.obj (.row false 9 1 (List.map PV.str (sortS (List.map strOf (List.map PV.str xs))))))])) : AfX T_resx E 2 (endO' 2 rs_resx G) ic_resx 0 .normal ⟨envJ 58 0 [(0, .ptr 0 0), (2, .ptr 2 0), (4, .ptr 3 0), (5, .row 5 l 0 l), (18, .map 1), (19, .ptr 4 0)], [.obj (.box [.pv (.int .i64 n), .map 1]), .obj (.map (mapP m)), .obj (.box [.pv (.int .i64 0), .pv (.sl 0 true [])]), .obj (.box [.pv (.int .i64 n), .pv (.sl 0 true [])]), .dead, .obj (.row false 9 1 (xs.map .str))]⟩ := GetsX.mo (.req (.keep (.nil))) h (by kernel_rfl)
end Go.Pl

namespace Go.Pl
open Go.RowKit
open Enc (enc dec is)
open EncL (encL decL isL)
def coefsM (m : List (Str × Int)) (xs : List (List UInt8)) : List Coef := xs.map fun s => ⟨⟨s⟩, atM m s⟩
def resW (n : Int) (m : List (Str × Int)) (l : List Coef) : AV × List AObj × List AObj :=
  if validL ⟨n, l⟩ then
    if l.isEmpty then (.tup [.pv (.agg [.int .i64 n, .sl 0 true []]), .pv (.int .i64 0)], [.box [.pv (.int .i64 n), .map 1], .map (mapP m)], [])
    else (.tup [.agg [.pv (.int .i64 n), .row 2 l.length 0 l.length], .pv (.int .i64 0)], [.box [.pv (.int .i64 n), .map 1], .map (mapP m)], [.row true 87 2 (l.map enc)])
  else (.tup [.pv (.agg [.int .i64 0, .sl 0 true []]), .pv (.int .i64 3)], [.box [.pv (.int .i64 n), .map 1], .map (mapP m)], [])
theorem coefs_sm (n : Int) (m : List (Str × Int)) {xs : List (List UInt8)} (hx : xs.length ≤ 1000000) (hsx : ∀ x ∈ xs, x.length ≤ 1000000) : linSm ⟨n, coefsM m xs⟩ = true := by
  simp only [linSm, linOk, coefsM, List.length_map, Bool.and_eq_true, decide_eq_true_eq, List.all_eq_true, List.mem_map]
  refine ⟨by omega, ?_⟩
  rintro t ⟨x, hxm, rfl⟩
  exact hsx x hxm
theorem res_loop {E : ExtE} (n : Int) (m : List (Str × Int)) (xs : List (List UInt8)) (hx : xs.length ≤ 1000000) (hsx : ∀ x ∈ xs, x.length ≤ 1000000) : ∀ (j k : Nat), j + k = xs.length → 0 < k →
    AtM T_resx E 2 (endO' 2 rs_resx fun r => r = resW n m (coefsM m xs)) ic_resx 0 58 [(0, .ptr 0 0), (2, .ptr 2 0), (4, .ptr 3 0), (33, .row 4 xs.length 0 xs.length), (34, .pv (.int .i64 xs.length)), (35, .pv (.int .i64 k))]
      [.obj (.box [.pv (.int .i64 n), .map 1]), .obj (.map (mapP m)), .obj (.box [.pv (.int .i64 0), .pv (.sl 0 true [])]), .obj (.box [.pv (.int .i64 n), .row 5 k 0 k]), .obj (.row false 9 1 (xs.map .str)), .obj (.row false 87 2 ((coefsM m (xs.take k)).map enc))] := by
  intro j
  induction j with
  | zero =>
    intro k hk h0
    obtain rfl : k = xs.length := by omega
    refine resx_h0b E n m xs.length xs xs.length xs.length (coefsM m (xs.take xs.length)) ?_
    rw [if_neg (by simp)]
    have e1 : coefsM m (xs.take xs.length) = coefsM m xs := by rw [List.take_length]
    rw [e1]
    have e2 : List.drop 0 (List.take xs.length (List.map (enc : Coef → PV) (coefsM m xs))) = (coefsM m xs).map enc := by rw [List.drop_zero, List.take_of_length_le (by simp [coefsM])]
    rw [e2]
    refine ⟨by simp [coefsM], pre_enc (⟨n, coefsM m xs⟩, ()) rfl (coefs_sm n m hx hsx), ex_enc (⟨n, coefsM m xs⟩, ()) rfl ?_⟩
    have hne : (coefsM m xs).isEmpty = false := by cases xs <;> simp [coefsM] at h0 ⊢
    by_cases hv : validL ⟨n, coefsM m xs⟩ = true
    · rw [if_neg (by simp [hv])]
      unfold resW
      rw [if_pos hv, hne]
      simp [coefsM]
    · rw [if_pos (by simpa using hv)]
      simp [resW, hv]
  | succ j ih =>
    intro k hk h0
    have hlt : k < xs.length := by omega
    refine resx_h0b E n m xs.length xs k k (coefsM m (xs.take k)) ?_
    rw [if_pos (by simp; omega)]
    have eg : List.getD (List.map PV.str xs) (0 + Int.toNat (k : Int)) default = .str xs[k] := by simp [List.getD, hlt]
    rw [eg]
    have ec : Sh.co Sh.str (List.getD (PV.cells (.str xs[k])) 0 default) = .str xs[k] := rfl
    rw [ec, lookD_map]
    refine ⟨by simp; omega, by simp; omega, rfl, by rw [lookOK_map]; rfl, ?_, ?_⟩
    · simp [coefsM]; omega
    · have h := ih (k + 1) (by omega) (by omega)
      have et : xs.take (k + 1) = xs.take k ++ [xs[k]] := by rw [List.take_add_one, List.getElem?_eq_getElem hlt]; rfl
      rw [et] at h
      rw [next (by omega)]
      simp only [coefsM, List.map_append, List.map_cons, List.map_nil] at h ⊢
      exact h
def resP : MapParts := ⟨[⟨(some 15), (.mv (.t 0)), 0, none⟩, ⟨(some 16), (.nilchk (.t 15)), 0, none⟩, ⟨(some 17), (.faddr 1 (.t 16)), 0, none⟩, ⟨(some 18), (.load false [.any] (.t 17)), 0, none⟩], .t 18, 19, 20, 21, 22, 1, [⟨(some 23), (.extract (.t 22) 0), 0, none⟩, ⟨(some 24), (.extract (.t 22) 1), 0, none⟩, ⟨(some 6), (.mv (.t 23)), 0, none⟩, ⟨(some 7), (.mv (.t 24)), 0, none⟩], ic_resra⟩
def resE : ExtE := fun nn st q => nn = 0 ∧ MapE T_resx 2 resP st q
def kz (vis : List (PV × PV)) : List (List UInt8) := vis.filterMap fun p => match p with | (.str s, .int _ c) => if c = 0 then none else some s | _ => none
def namesM (m : List (Str × Int)) : List (List UInt8) := sortS (kz (mapP m))
def resH (n : Int) : Heap := [.obj (.box [.pv (.int .i64 n), .map 1]), .dead, .obj (.box [.pv (.int .i64 0), .pv (.sl 0 true [])]), .obj (.box [.pv (.int .i64 n), .pv (.sl 0 true [])]), .dead]
def resEnv (x : AV) : List AV := envJ 58 0 [(0, .ptr 0 0), (2, .ptr 2 0), (4, .ptr 3 0), (5, x), (18, .map 1), (19, .ptr 4 0)]
def resI (n : Int) (vis : List (PV × PV)) (s : St) : Prop :=
  (kz vis = [] ∧ s = ⟨resEnv (.pv (.sl 0 true [])), resH n⟩) ∨ (kz vis ≠ [] ∧ s = ⟨resEnv (.row 5 (kz vis).length 0 (kz vis).length), resH n ++ [.obj (.row false 9 1 ((kz vis).map .str))]⟩)
theorem sortS_perm {a b : List (List UInt8)} (h : a.Perm b) : sortS a = sortS b := by
  have tr : ∀ x y z : List UInt8, decide (x ≤ y) = true → decide (y ≤ z) = true → decide (x ≤ z) = true := fun x y z h k => by simp only [decide_eq_true_eq] at *; exact List.le_trans h k
  have to : ∀ x y : List UInt8, (decide (x ≤ y) || decide (y ≤ x)) = true := fun x y => by simp only [Bool.or_eq_true, decide_eq_true_eq]; exact List.le_total x y
  refine List.Perm.eq_of_pairwise (le := fun x y => decide (x ≤ y) = true) (fun x y _ _ h1 h2 => ?_) (List.pairwise_mergeSort tr to a) (List.pairwise_mergeSort tr to b) (((List.mergeSort_perm a _).trans h).trans (List.mergeSort_perm b _).symm)
  simp only [decide_eq_true_eq] at h1 h2
  exact List.le_antisymm h1 h2
theorem res_round (n : Int) (vis : List (PV × PV)) (s : List UInt8) (c : Int) (st : St) (hl : (kz vis).length < 1000000) (h : resI n vis st) :
    ∃ s2, runA T_resx st.heap.length resP.psE (grow ⟨((st.env.set 20 .junk).set 21 .junk).set 22 (.pv (.tup [.str s, .int .i64 c])), st.heap⟩ (news resP.psE)) = some s2 ∧ ∃ F', (∀ x, ¬ F' x) ∧
      GetsX T_resx (fun n' S' _ => n' = 99 ∧ resI n (vis ++ [(.str s, .int .i64 c)]) S') st.heap.length F' (.inl ic_resra) [.blk 1, .seq (.ext 99 [0, 2, 4, 5, 18, 19])] s2 := by
  have hno : ∀ k, ∀ x, ¬ endO' k rs_resra (fun _ => False) x := by rintro k x ⟨r, _, h⟩; exact h
  have ek : kz (vis ++ [(.str s, .int .i64 c)]) = kz vis ++ (if c = 0 then [] else [s]) := by
    unfold kz
    rw [List.filterMap_append]
    by_cases hc : c = 0 <;> simp [hc]
  rcases h with ⟨h1, rfl⟩ | ⟨h1, rfl⟩
  · refine ⟨_, by kernel_rfl, _, hno 5, resra_r0 (G := fun _ => False) _ n s c ?_⟩
    by_cases hc : c = 0
    · rw [if_neg (by simp [hc])]
      refine ⟨rfl, .inl ⟨by rw [ek, h1]; simp [hc], rfl⟩⟩
    · rw [if_pos (by simpa using hc)]
      refine ⟨rfl, .inr ⟨by rw [ek, h1]; simp [hc], ?_⟩⟩
      rw [ek, h1]
      simp [hc]
      exact ⟨rfl, rfl⟩
  · refine ⟨_, by kernel_rfl, _, hno 6, resrb_r0 (G := fun _ => False) _ n s c (kz vis).length (kz vis) ?_⟩
    by_cases hc : c = 0
    · rw [if_neg (by simp [hc])]
      refine ⟨rfl, .inr ⟨by rw [ek]; simp [hc, h1], ?_⟩⟩
      rw [ek]
      simp [hc]
      exact ⟨rfl, rfl⟩
    · rw [if_pos (by simpa using hc)]
      refine ⟨by simp; omega, rfl, .inr ⟨by rw [ek]; simp [hc], ?_⟩⟩
      rw [ek]
      simp [hc]
      exact ⟨rfl, rfl⟩
theorem res_first {E : ExtE} (n : Int) (m : List (Str × Int)) (xs : List (List UInt8)) (hx : xs.length ≤ 1000000) (hsx : ∀ x ∈ xs, x.length ≤ 1000000) (h0 : 0 < xs.length) :
    AtM T_resx E 2 (endO' 2 rs_resx fun r => r = resW n m (coefsM m xs)) ic_resx 0 58 [(0, .ptr 0 0), (2, .ptr 2 0), (4, .ptr 3 0), (33, .row 4 xs.length 0 xs.length), (34, .pv (.int .i64 xs.length)), (35, .pv (.int .i64 0))]
      [.obj (.box [.pv (.int .i64 n), .map 1]), .obj (.map (mapP m)), .obj (.box [.pv (.int .i64 0), .pv (.sl 0 true [])]), .obj (.box [.pv (.int .i64 n), .pv (.sl 0 true [])]), .obj (.row false 9 1 (xs.map .str))] := by
  refine resx_h0a E n m xs.length xs 0 ?_
  rw [if_pos (by simp; omega)]
  have eg : List.getD (List.map PV.str xs) (0 + Int.toNat (0 : Int)) default = .str xs[0] := by simp [List.getD, h0]
  rw [eg]
  have ec : Sh.co Sh.str (List.getD (PV.cells (.str xs[0])) 0 default) = .str xs[0] := rfl
  rw [ec, lookD_map]
  refine ⟨by simp; omega, by simp; omega, rfl, by rw [lookOK_map]; rfl, ?_⟩
  have h := res_loop (E := E) n m xs hx hsx (xs.length - 1) 1 (by omega) (by omega)
  have et : xs.take 1 = [xs[0]] := by cases xs <;> simp at h0 ⊢
  rw [et] at h
  exact h
theorem resx_run (n : Int) (m : List (Str × Int)) (hm : m.length < 1000000) (hkm : ∀ x ∈ namesM m, x.length ≤ 1000000) :
    GetsM T_resx resE 2 (endO' 2 rs_resx fun r => r = resW n m (coefsM m (namesM m))) ic_resx [] (st0O 58 [.ptr 0 0] [.box [.pv (.int .i64 n), .map 1], .map (mapP m)]) := by
  refine resx_s resE n m ?_
  have elen : ∀ x, (resEnv x).length = 58 := fun x => rfl
  refine ⟨rfl, ⟨((((envJ 58 0 [(0, .ptr 0 0), (2, .ptr 2 0), (4, .ptr 3 0), (5, .pv (.sl 0 true [])), (6, .undef), (7, .undef), (15, .undef), (16, .undef), (17, .undef), (18, .undef), (19, .undef), (20, .undef), (21, .undef), (22, .undef), (23, .undef), (24, .undef), (25, .undef), (26, .undef), (27, .undef), (28, .undef), (29, .undef), (30, .undef)]).set 15 (.ptr 0 0)).set 16 (.ptr 0 0)).set 17 (.ptr 0 1)).set 18 (.map 1),
      [.obj (.box [.pv (.int .i64 n), .map 1]), .obj (.map (mapP m)), .obj (.box [.pv (.int .i64 0), .pv (.sl 0 true [])]), .obj (.box [.pv (.int .i64 n), .pv (.sl 0 true [])])]⟩, ⟨resEnv (.pv (.sl 0 true [])), resH n⟩, 1, 4, 18, 1, mapP m, [0, 2, 4, 5, 18, 19], [0, 2, 4, 5, 18, 19], resI n, by kernel_rfl, rfl, rfl, by kernel_rfl, rfl, by decide, rfl, .inl ⟨rfl, rfl⟩, ?_, ?_, ?_⟩
  · intro vis s h
    rcases h with ⟨_, rfl⟩ | ⟨_, rfl⟩
    · exact ⟨⟨rfl, by show 20 < _; rw [elen]; omega, by show 21 < _; rw [elen]; omega, by show 22 < _; rw [elen]; omega⟩, rfl⟩
    · exact ⟨⟨rfl, by show 20 < _; rw [elen]; omega, by show 21 < _; rw [elen]; omega, by show 22 < _; rw [elen]; omega⟩, rfl⟩
  · intro vis kv s rest hp hI
    have hin : kv ∈ mapP m := hp.mem_iff.2 (by simp)
    obtain ⟨p, _, rfl⟩ := List.mem_map.1 hin
    have hl := hp.length_eq
    simp [mapP] at hl
    have hk : (kz vis).length ≤ vis.length := List.length_filterMap_le _ _
    exact res_round n vis p.1.s p.2 s (by omega) hI
  · intro vis s hp hI
    have hpk : (kz vis).Perm (kz (mapP m)) := hp.filterMap _
    have hs : sortS (kz vis) = namesM m := sortS_perm hpk
    have hkl : (kz vis).length ≤ 1000000 := by
      have h1 : (kz vis).length ≤ vis.length := List.length_filterMap_le _ _
      have h2 := hp.length_eq
      simp [mapP] at h2
      omega
    rcases hI with ⟨h1, rfl⟩ | ⟨h1, rfl⟩
    · refine resx_x0a resE n m ?_
      have hn : namesM m = [] := by rw [← hs, h1]; simp [sortS]
      rw [hn]
      refine resx_h0n resE n m 0 ?_
      rw [if_neg (by simp)]
      refine ex_val (⟨n, []⟩, ()) (by simp) ?_
      by_cases hv : validL ⟨n, []⟩ = true
      · rw [if_neg (by simp [hv])]
        simp [resW, coefsM, hv]
      · rw [if_pos (by simpa using hv)]
        simp [resW, coefsM, hv]
    · refine resx_x0b resE n m (kz vis).length (kz vis) ?_
      have e1 : List.map strOf (List.map PV.str (kz vis)) = kz vis := by rw [List.map_map]; exact List.map_id _
      rw [e1, hs]
      have e2 : (namesM m).length = (kz vis).length := by rw [← hs]; exact (List.mergeSort_perm _ _).length_eq
      refine ⟨?_, ?_⟩
      · simp [pre_sorts, isStrP]
        omega
      · have := res_first (E := resE) n m (namesM m) (by omega) hkm (by rw [e2]; exact List.length_pos_iff.2 h1)
        rw [e2] at this
        simpa using this
end Go.Pl

namespace Go.Pl
open Go.RowKit
open Enc (enc dec is)
open EncL (encL decL isL)
def addW (n : Int) (m : List (Str × Int)) : AV × List AObj × List AObj := (.tup [], [.box [.pv (.int .i64 n), .map 1], .map (mapP m)], [])
theorem ladd_loop (n : Int) (l : Lin) (k : Int) (hl : l.t.length ≤ 1000000) : ∀ (j i : Nat) (m : List (Str × Int)), j + i = l.t.length →
    At T_ladd 2 (endO' 2 rs_ladd fun r => r = addW n (addT k (l.t.drop i) m)) ic_ladd 0 39 [(0, .ptr 0 0), (2, .pv (.int .i64 k)), (20, .pv (enc l.t)), (21, .pv (.int .i64 l.t.length)), (22, .pv (.int .i64 i))] [.obj (.box [.pv (.int .i64 n), .map 1]), .obj (.map (mapP m))] := by
  intro j
  induction j with
  | zero =>
    intro i m hi
    refine ladd_h0 n m l k i ?_
    rw [if_neg (by simp; omega), List.drop_of_length_le (by omega)]
    rfl
  | succ j ih =>
    intro i m hi
    have hlt : i < l.t.length := by omega
    refine ladd_h0 n m l k i ?_
    rw [if_pos (by simp; omega)]
    refine ⟨by simp [Enc.sz]; omega, l.t[i], by simp [List.getD, hlt], ?_⟩
    have ec : Sh.co Sh.str (List.getD (PV.cells (enc l.t[i])) 0 default) = .str l.t[i].v.s := rfl
    rw [ec, lookD_map]
    have ev : PV.asInt (List.getD (PV.cells (enc l.t[i])) (0 + 1) default) = l.t[i].c := rfl
    have ea : PV.asInt (.int .i64 (atM m l.t[i].v.s)) = atM m l.t[i].v.s := rfl
    rw [ev, ea]
    have eu := upd_map l.t[i].v (IntKind.i64.wrap (atM m l.t[i].v.s + IntKind.i64.wrap (k * l.t[i].c))) m
    refine ⟨by rw [lookOK_map]; rfl, ?_, ?_⟩
    · show (upd _ _ _).isSome = true
      exact (congrArg Option.isSome eu).trans rfl
    · have h := ih (i + 1) (updM l.t[i].v (IntKind.i64.wrap (atM m l.t[i].v.s + IntKind.i64.wrap (k * l.t[i].c))) m) (by omega)
      rw [next (by omega)]
      have ed : l.t.drop i = l.t[i] :: l.t.drop (i + 1) := List.drop_eq_getElem_cons hlt
      rw [ed]
      have e2 : updL (.str l.t[i].v.s) (.int .i64 (IntKind.i64.wrap (atM m l.t[i].v.s + IntKind.i64.wrap (k * l.t[i].c)))) (mapP m) = mapP (updM l.t[i].v (IntKind.i64.wrap (atM m l.t[i].v.s + IntKind.i64.wrap (k * l.t[i].c))) m) := by
        unfold updL
        rw [eu]
        rfl
      rw [← e2] at h
      exact h
theorem ladd_run (n : Int) (m : List (Str × Int)) (l : Lin) (k : Int) (hl : l.t.length ≤ 1000000) :
    Gets T_ladd 2 (endO' 2 rs_ladd fun r => r = addW (IntKind.i64.wrap (n + IntKind.i64.wrap (k * l.k))) (addT k l.t m)) ic_ladd [] (st0O 39 [.ptr 0 0, .pv (enc l), .pv (.int .i64 k)] [.box [.pv (.int .i64 n), .map 1], .map (mapP m)]) := by
  refine ladd_s n m l k ?_
  have h := ladd_loop (IntKind.i64.wrap (n + IntKind.i64.wrap (k * l.k))) l k hl l.t.length 0 m rfl
  rw [List.drop_zero] at h
  have e : List.length (List.map (enc : Coef → PV) l.t) = l.t.length := by simp
  rw [e]
  exact h
end Go.Pl

namespace Go.Pl
open Go.RowKit
open Enc (enc dec is)
open EncL (encL decL isL)
set_option maxRecDepth 100000
end Go.Pl

namespace Go.Pl
open Go.RowKit
open Enc (enc dec is)
open EncL (encL decL isL)
end Go.Pl

namespace Go.Pl
open Go.RowKit
open Enc (enc dec is)
open EncL (encL decL isL)
set_option maxRecDepth 100000
end Go.Pl

namespace Go.Pl
open Go.RowKit
open Enc (enc dec is)
open EncL (encL decL isL)
end Go.Pl

namespace Go.Pl
open Go.RowKit
open Enc (enc dec is)
open EncL (encL decL isL)
def mapD (es : List (PV × PV)) : List (Str × Int) := es.map fun p => (⟨strOf p.1⟩, p.2.asInt)
def canE : PV × PV → Bool
  | (.str _, .int .i64 _) => true
  | _ => false
def canM (es : List (PV × PV)) : Bool := es.all canE
theorem mapD_map (m : List (Str × Int)) : mapD (mapP m) = m := by
  simp only [mapD, mapP, List.map_map]
  exact List.map_id _
theorem canM_map (m : List (Str × Int)) : canM (mapP m) = true := by
  simp only [canM, mapP, List.all_map, List.all_eq_true]
  intro p _
  rfl
theorem canM_eq : ∀ {es : List (PV × PV)}, canM es = true → ∃ m, es = mapP m
  | [], _ => ⟨[], rfl⟩
  | (a, b) :: es, h => by
    simp only [canM, List.all_cons, Bool.and_eq_true] at h
    obtain ⟨m, rfl⟩ := canM_eq (es := es) h.2
    match a, b, h.1 with
    | .str s, .int .i64 n, _ => exact ⟨(⟨s⟩, n) :: m, rfl⟩
def mapSm (m : List (Str × Int)) : Bool := decide (m.length < 1000000) && (keysM m).all fun x => decide (x.length ≤ 1000000)
def pre_res : List AV → List AObj → Bool
  | [.ptr 0 0], [.box [.pv (.int .i64 n), .map 1], .map es] => canM es && mapSm (mapD es)
  | _, _ => false
def val_res : List AV → List AObj → AV × List AObj × List AObj
  | _, [.box [.pv (.int .i64 n), .map 1], .map es] => (.pv (enc (resM n (mapD es))), [.box [.pv (.int .i64 n), .map 1], .map es], [])
  | _, _ => combN
def pre_add : List AV → List AObj → Bool
  | [.ptr 0 0, .pv l, .pv (.int .i64 k)], [.box [.pv (.int .i64 n), .map 1], .map es] => canM es && can Lin l && decide ((dec l : Lin).t.length ≤ 1000000)
  | _, _ => false
def addV (n : Int) (es : List (PV × PV)) (l : Lin) (k : Int) : AV × List AObj × List AObj := (.tup [], [.box [.pv (.int .i64 (w64 (n + w64 (k * l.k)))), .map 1], .map (mapP (addT k l.t (mapD es)))], [])
def val_add : List AV → List AObj → AV × List AObj × List AObj
  | [_, .pv l, .pv (.int .i64 k)], [.box [.pv (.int .i64 n), .map 1], .map es] => addV n es (dec l) k
  | _, _ => combN
def combineL (a b : Lin) (k : Int) : Lin × Int := if validL a then (if validL b then resM (w64 (w64 (0 + w64 (1 * a.k)) + w64 (k * b.k))) (addT k b.t (addT 1 a.t [])) else (⟨0, []⟩, 1)) else (⟨0, []⟩, 1)
mutual
def cSm : Cert → Bool
  | .mk _ m l ks => decide (m.length ≤ 9223372036854775807) && linSm l && decide (ks.length ≤ 9223372036854775807) && cSms ks
def cSms : List Cert → Bool
  | [] => true
  | c :: cs => cSm c && cSms cs
end
mutual
theorem cSm_ok : ∀ {c : Cert}, cSm c = true → cOk c = true
  | .mk k m l ks, h => by
    simp only [cSm, cOk, linSm, Bool.and_eq_true] at h ⊢
    exact ⟨⟨⟨h.1.1.1, h.1.1.2.1⟩, h.1.2⟩, cSms_ok h.2⟩
theorem cSms_ok : ∀ {cs : List Cert}, cSms cs = true → cOks cs = true
  | [], _ => rfl
  | c :: cs, h => by
    simp only [cSms, cOks, Bool.and_eq_true] at h ⊢
    exact ⟨cSm_ok h.1, cSms_ok h.2⟩
end
theorem name_len {s : Str} (h : nameB s = true) : s.s.length ≤ 30 := by
  unfold nameB at h
  split at h
  · cases h
  · rename_i c r hs
    rw [hs]
    split at h
    · simp only [Bool.and_eq_true, decide_eq_true_eq] at h
      have := h.2
      simp only [List.length_cons]
      omega
    · simp only [Bool.and_eq_true, decide_eq_true_eq] at h
      have := h.2
      simp only [List.length_cons]
      omega
theorem valid_len {l : Lin} (h : validL l = true) : l.t.length ≤ 12 := by
  simp only [validL, Bool.and_eq_true, decide_eq_true_eq] at h
  exact h.2
theorem valid_coef {l : Lin} (h : validL l = true) {t : Coef} (ht : t ∈ l.t) : nameB t.v = true ∧ t.c ≠ 0 ∧ -1000000 ≤ t.c ∧ t.c ≤ 1000000 := by
  simp only [validL, Bool.and_eq_true, decide_eq_true_eq, List.all_eq_true] at h
  have := h.1.1.1 t ht
  simp only [coefIn, Bool.and_eq_true, decide_eq_true_eq] at this
  exact ⟨this.1.1, this.1.2, this.2⟩
theorem valid_k {l : Lin} (h : validL l = true) : -1000000 ≤ l.k ∧ l.k ≤ 1000000 := by
  simp only [validL, coefIn, Bool.and_eq_true, decide_eq_true_eq] at h
  exact h.1.2
theorem addT_keys (k : Int) : ∀ (l : List Coef) (m : List (Str × Int)) (x : List UInt8), x ∈ keysM (addT k l m) → x ∈ keysM m ∨ ∃ t ∈ l, t.v.s = x
  | [], m, x, h => .inl h
  | t :: l, m, x, h => by
    rw [addT] at h
    rcases addT_keys k l _ x h with h | ⟨u, hu, rfl⟩
    · rcases upd_keys t.v (IntKind.i64.wrap (atM m t.v.s + IntKind.i64.wrap (k * t.c))) m with e | ⟨_, e⟩
      · rw [e] at h; exact .inl h
      · rw [e, List.mem_append] at h
        rcases h with h | h
        · exact .inl h
        · exact .inr ⟨t, by simp, (List.mem_singleton.1 h).symm⟩
    · exact .inr ⟨u, by simp [hu], rfl⟩
end Go.Pl

namespace Go.Pl
open Go.RowKit
open Enc (enc dec is)
open EncL (encL decL isL)
theorem w64_id {n : Int} (h1 : -9223372036854775808 ≤ n) (h2 : n ≤ 9223372036854775807) : w64 n = n := wrap64 h1 h2
end Go.Pl

namespace Go.Pl
open Go.RowKit
open Enc (enc dec is)
open EncL (encL decL isL)
theorem add_run : ∀ args os, pre_add args os = true → Gets T_ladd os.length (endO' os.length rs_ladd fun r => r = val_add args os) ic_ladd [] (st0O nt_ladd args os) := by
  intro args os h
  unfold pre_add at h
  split at h
  · rename_i l k n es
    simp only [Bool.and_eq_true, decide_eq_true_eq] at h
    obtain ⟨⟨h1, h2⟩, h3⟩ := h
    obtain ⟨m, rfl⟩ := canM_eq h1
    obtain ⟨l, rfl⟩ := can_eq h2
    rw [Enc.dec_enc] at h3
    have hv : val_add [.ptr 0 0, .pv (enc l), .pv (.int .i64 k)] [.box [.pv (.int .i64 n), .map 1], .map (mapP m)] = addW (IntKind.i64.wrap (n + IntKind.i64.wrap (k * l.k))) (addT k l.t m) := by
      show addV n (mapP m) (dec (enc l)) k = _
      rw [Enc.dec_enc, addV, mapD_map]
      rfl
    rw [hv]
    exact ladd_run n m l k h3
  · cases h
theorem kz_map : ∀ m : List (Str × Int), kz (mapP m) = keysM (nzM m)
  | [] => rfl
  | (s, c) :: m => by
    have ih := kz_map m
    simp only [kz, mapP, keysM, nzM] at ih ⊢
    by_cases h : c = 0
    · subst h
      simp [ih]
    · simp [h, ih]
theorem names_terms (m : List (Str × Int)) : coefsM m (namesM m) = termsM m := by
  unfold coefsM namesM termsM
  rw [kz_map]
  rfl
def val_resW : List AV → List AObj → AV × List AObj × List AObj
  | _, [.box [.pv (.int .i64 n), .map 1], .map es] => resW n (mapD es) (termsM (mapD es))
  | _, _ => combN
theorem resW_run : ∀ args os, pre_res args os = true → GetsM T_resx resE os.length (endO' os.length rs_resx fun r => r = val_resW args os) ic_resx [] (st0O nt_resx args os) := by
  intro args os h
  unfold pre_res at h
  split at h
  · rename_i n es
    simp only [Bool.and_eq_true, mapSm, decide_eq_true_eq, List.all_eq_true] at h
    obtain ⟨h1, h2, h3⟩ := h
    obtain ⟨m, rfl⟩ := canM_eq h1
    rw [mapD_map] at h2 h3
    have hv : val_resW [.ptr 0 0] [.box [.pv (.int .i64 n), .map 1], .map (mapP m)] = resW n m (coefsM m (namesM m)) := by
      show resW n (mapD (mapP m)) (termsM (mapD (mapP m))) = _
      rw [mapD_map, names_terms]
    rw [hv]
    refine resx_run n m h2 fun x hx => h3 x ?_
    have hx : x ∈ kz (mapP m) := (List.mergeSort_perm _ _).mem_iff.1 hx
    rw [kz_map] at hx
    obtain ⟨p, hp, rfl⟩ := List.mem_map.1 hx
    exact List.mem_map.2 ⟨p, (List.mem_filter.1 hp).1, rfl⟩
  · cases h
theorem resW_len : ∀ args os, pre_res args os = true → (val_resW args os).2.1.length = os.length := by
  intro args os h
  unfold pre_res at h
  split at h
  · show (resW _ _ _).2.1.length = _
    unfold resW
    split
    · split <;> rfl
    · rfl
  · cases h
theorem sub_nolin (n c : Int) : Sub (.tup [.agg [.int .i64 n, .sl 0 true []], .int .i64 c]) (enc (((⟨n, []⟩ : Lin), c) : Lin × Int)) := .pair (.agg_cons (.refl _) (.agg_cons (Sub.sl0 _ _ _) .agg_nil)) (.refl _)
theorem res_frz {P : Program} {f : Nat} (h : OwnOK P f pre_res val_resW) : OwnOK P f pre_res val_res := by
  refine h.frz fun args os hp => ?_
  unfold pre_res at hp
  split at hp
  · rename_i n es
    have hv : val_resW [.ptr 0 0] [.box [.pv (.int .i64 n), .map 1], .map es] = resW n (mapD es) (termsM (mapD es)) := rfl
    have hv' : val_res [.ptr 0 0] [.box [.pv (.int .i64 n), .map 1], .map es] = (.pv (enc (resM n (mapD es))), [.box [.pv (.int .i64 n), .map 1], .map es], []) := rfl
    simp only [Bool.and_eq_true] at hp
    obtain ⟨m, rfl⟩ := canM_eq hp.1
    rw [hv, hv', mapD_map]
    unfold resW resM
    generalize termsM m = l
    by_cases hl : validL ⟨n, l⟩ = true
    · rw [if_pos hl, if_pos hl]
      by_cases hz : l.isEmpty = true
      · rw [if_pos hz]
        obtain rfl : l = [] := by simpa using hz
        exact ⟨_, _, _, _, _, _, _, _, rfl, rfl, rfl, sub_nolin n 0, rfl⟩
      · rw [if_neg hz]
        refine ⟨_, _, _, .tup [.agg [.int .i64 n, .sl 2 false (l.map enc)], .int .i64 0], [.obj (.box [.pv (.int .i64 n), .map 1]), .obj (.map (mapP m)), .obj (.row true 87 2 (l.map enc))], _, _, _, rfl, ?_, rfl, .refl _, rfl⟩
        have e : List.drop 0 (List.take l.length (List.map (enc : Coef → PV) l)) = l.map enc := by rw [List.drop_zero, List.take_of_length_le (by simp)]
        simp only [frz, frzL, HM.run_bind, objs, List.map_cons, List.map_nil, List.cons_append, List.nil_append]
        simp [HM.run, HM.req]
        exact List.take_of_length_le (by simp)
    · rw [if_neg hl, if_neg hl]
      exact ⟨_, _, _, _, _, _, _, _, rfl, rfl, rfl, sub_nolin 0 3, rfl⟩
  · cases hp
end Go.Pl

namespace Go.Pl
open Go.RowKit
open Enc (enc dec is)
open EncL (encL decL isL)
set_option maxRecDepth 100000
def ic_ev1 : IC := (.seq (.reg [⟨(some 2), (.box 2 (.t 0)), 0, none⟩, ⟨(some 3), (.mv (.c (.bool false))), 1, none⟩] none) (.seq (.reg [⟨(some 4), (.faddr 0 (.t 2)), 0, none⟩, ⟨(some 5), (.load false [.str] (.t 4)), 0, none⟩, ⟨(some 6), (.faddr 0 (.t 1)), 0, none⟩, ⟨(some 7), (.load false [.str] (.t 6)), 0, none⟩, ⟨(some 8), (.bin .num .eql (.t 5) (.t 7)), 0, none⟩, ⟨(some 3), (.mv (.t 8)), 0, none⟩] none) .ret))
def rs_ev1 : List IRes := [(.tmp 3)]
abbrev nt_ev1 : Nat := 9
def T_ev1 : Tab := tab []
theorem ev1_s {G : AV × List AObj × List AObj → Prop} (x : Coef) (v : List UInt8) (c : Int) (h : G (((.pv (.bool (Str.s (Coef.v x) == v))), ([(.box [(.pv (.str v)), (.pv (.int .i64 c))])], [])))) : Gets T_ev1 1 (endO' 1 rs_ev1 G) ic_ev1 [] (st0O 9 [.pv (enc x), .ptr 0 0] [.box [.pv (.str v), .pv (.int .i64 c)]]) := Gets.to (.lit (.nil)) h (by kernel_rfl)
def ic_ixe : IC := (.seq (.reg [⟨(some 4), (.mv (.c (.int .i64 0))), 0, none⟩] none) (.seq (.seq (.reg [⟨(some 6), (.mv (.t 0)), 0, none⟩, ⟨(some 7), (.len 1 (.t 6)), 0, none⟩, ⟨(some 8), (.mv (.c (.int .i64 0))), 0, none⟩] none) (.block 0 (.loop [8, 7, 1, 0] (.seq (.reg [⟨(some 9), (.bin .num .lss (.t 8) (.t 7)), 0, none⟩] none) (.seq (.cond (.t 9) .skip (.exit 0)) (.seq (.block 1 (.seq (.reg [⟨(some 10), (.mv (.t 8)), 0, none⟩, ⟨(some 5), (.mv (.t 10)), 0, none⟩] none) (.seq (.reg [⟨(some 11), (.mv (.t 1)), 0, none⟩, ⟨(some 12), (.mv (.t 0)), 0, none⟩, ⟨(some 13), (.mv (.t 5)), 0, none⟩, ⟨(some 14), (.iaddr 2 (.t 12) (.t 13)), 0, none⟩, ⟨(some 15), (.load true [.str, (.int .i64)] (.t 14)), 0, none⟩, ⟨(some 16), (.call (.t 11) [(.t 15)]), 0, none⟩] none) (.cond (.t 16) (.seq (.reg [⟨(some 17), (.mv (.t 5)), 0, none⟩, ⟨(some 4), (.mv (.t 17)), 0, none⟩] none) .ret) .skip)))) (.reg [⟨(some 18), (.bin .num .add (.t 8) (.c (.int .i64 1))), 0, none⟩, ⟨(some 8), (.mv (.t 18)), 0, none⟩] none))))))) (.seq (.reg [⟨(some 4), (.mv (.c (.int .i64 (-1)))), 0, none⟩] none) .ret)))
def rs_ixe : List IRes := [(.tmp 4)]
abbrev nt_ixe : Nat := 19
def T_ixe : Tab := tab [(112, .own pre_e1 val_e1)]
theorem ixe_s {G : AV × List AObj × List AObj → Prop} (l : List Coef) (v : List UInt8) (c : Int) (h : At T_ixe 1 (endO' 1 rs_ixe G) ic_ixe 0 19 [(0, (.pv (.sl 2 false (List.map enc l)))), (1, (.fn 112 [] [(.ptr 0 0)])), (7, (.pv (.int .i64 (↑(List.length (List.map enc l)) : Int)))), (8, (.pv (.int .i64 0)))] [(.obj (.box [(.pv (.str v)), (.pv (.int .i64 c))]))]) : Gets T_ixe 1 (endO' 1 rs_ixe G) ic_ixe [] (st0O 19 [.pv (enc l), .fn 112 [] [.ptr 0 0]] [.box [.pv (.str v), .pv (.int .i64 c)]]) := Gets.to (.nil) h (by kernel_rfl)
theorem ixe_h0 {G : AV × List AObj × List AObj → Prop} (l : List Coef) (v : List UInt8) (c : Int) (i : Int) (h : if (decide (i < (↑(List.length l) : Int))) = true then (decide (0 ≤ i) && decide (Int.toNat i < List.length (List.map enc l)) && Enc.sz Coef == 2) = true ∧ (∃ y0 : Coef, AV.pv (PV.rptr (PV.cells (List.getD (List.map enc l) (Int.toNat i) default))) = AV.pv (PV.rptr (PV.cells ((enc) y0))) ∧ ((pre_e1 [(.pv (.agg [(.str (PV.asStr (List.getD (PV.cells (enc y0)) 0 default))), (.int .i64 (PV.asInt (List.getD (PV.cells (enc y0)) (0 + 1) default)))])), (.ptr 0 0)] [(.box [(.pv (.str v)), (.pv (.int .i64 c))])]) = true ∧ (if (Str.s (Coef.v (dec (PV.agg (shAll (PV.cells (enc y0)) 0 [Sh.str, Sh.int .i64])))) == v) = true then G (((.pv (.int .i64 i)), ([(.box [(.pv (.str v)), (.pv (.int .i64 c))])], []))) else (At T_ixe 1 (endO' 1 rs_ixe G) ic_ixe 0 19 [(0, (.pv (.sl 2 false (List.map enc l)))), (1, (.fn 112 [] [(.ptr 0 0)])), (7, (.pv (.int .i64 (↑(List.length l) : Int)))), (8, (.pv (.int .i64 (IntKind.wrap IntKind.i64 (i + 1)))))] [(.obj (.box [(.pv (.str v)), (.pv (.int .i64 c))]))])))) else (G (((.pv (.int .i64 (-1))), ([(.box [(.pv (.str v)), (.pv (.int .i64 c))])], []))))) : At T_ixe 1 (endO' 1 rs_ixe G) ic_ixe 0 19 [(0, .pv (enc l)), (1, .fn 112 [] [.ptr 0 0]), (7, .pv (.int .i64 l.length)), (8, .pv (.int .i64 i))] [.obj (.box [.pv (.str v), .pv (.int .i64 c)])] := At.to (.lit (.ask (.req (.abs (Coef) (fun YY => AV.pv (PV.rptr (PV.cells ((enc) YY)))) (.lit (.req (.keep (.ask (.nil) (.lit (.nil)))))))) (.nil))) h (by kernel_rfl)
def ic_lev : IC := (.seq (.reg [⟨(some 2), (.box 2 (.t 0)), 0, none⟩, ⟨(some 4), (.mv (.c (.int .i64 0))), 1, none⟩, ⟨(some 5), (.mv (.c (.int .i64 0))), 1, none⟩] none) (.seq (.seq (.reg [⟨(some 11), (.load true [(.int .i64), (.sl 2)] (.t 2)), 0, none⟩, ⟨(some 12), (.call (.c (.fn 67)) [(.t 11)]), 0, none⟩, ⟨(some 13), (.un .not (.t 12)), 2, none⟩] none) (.cond (.t 13) (.seq (.reg [⟨(some 4), (.mv (.c (.int .i64 0))), 0, none⟩, ⟨(some 5), (.mv (.c (.int .i64 1))), 0, none⟩] none) .ret) .skip)) (.seq (.reg [⟨(some 14), (.faddr 0 (.t 2)), 0, none⟩, ⟨(some 15), (.load false [(.int .i64)] (.t 14)), 0, none⟩, ⟨(some 6), (.mv (.t 15)), 0, none⟩] none) (.seq (.seq (.reg [⟨(some 16), (.faddr 1 (.t 2)), 0, none⟩, ⟨(some 17), (.load false [(.sl 2)] (.t 16)), 0, none⟩, ⟨(some 18), (.len 1 (.t 17)), 0, none⟩, ⟨(some 19), (.mv (.c (.int .i64 0))), 0, none⟩] none) (.block 0 (.loop [19, 18, 17, 1, 6] (.seq (.reg [⟨(some 20), (.bin .num .lss (.t 19) (.t 18)), 0, none⟩] none) (.seq (.cond (.t 20) .skip (.exit 0)) (.seq (.block 1 (.seq (.reg [⟨(some 21), (.iaddr 2 (.t 17) (.t 19)), 0, none⟩, ⟨(some 22), (.load true [.str, (.int .i64)] (.t 21)), 0, none⟩, ⟨(some 8), (.alloc (.agg [(.str []), (.int .i64 0)])), 0, none⟩, ⟨none, (.store 2 (.t 8) (.t 22)), 1, none⟩] none) (.seq (.reg [⟨(some 23), (.mv (.t 1)), 0, none⟩, ⟨(some 24), (.mkfn 112 [] [(.t 8)]), 0, none⟩, ⟨(some 25), (.call (.c (.fn 111)) [(.t 23), (.t 24)]), 0, none⟩, ⟨(some 9), (.mv (.t 25)), 2, none⟩] none) (.seq (.seq (.reg [⟨(some 26), (.mv (.t 9)), 0, none⟩, ⟨(some 27), (.bin .num .lss (.t 26) (.c (.int .i64 0))), 0, none⟩] none) (.cond (.t 27) (.seq (.reg [⟨(some 4), (.mv (.c (.int .i64 0))), 0, none⟩, ⟨(some 5), (.mv (.c (.int .i64 7))), 0, none⟩] none) .ret) .skip)) (.seq (.seq (.reg [⟨(some 28), (.mv (.t 1)), 0, none⟩, ⟨(some 29), (.mv (.t 9)), 0, none⟩, ⟨(some 30), (.iaddr 2 (.t 28) (.t 29)), 0, none⟩, ⟨(some 31), (.faddr 1 (.t 30)), 0, none⟩, ⟨(some 32), (.load false [(.int .i64)] (.t 31)), 0, none⟩, ⟨(some 10), (.mv (.t 32)), 0, none⟩] none) (.seq (.reg [⟨(some 33), (.mv (.t 10)), 0, none⟩, ⟨(some 34), (.bin .num .lss (.t 33) (.c (.int .i64 (-1000000000)))), 0, none⟩, ⟨(some 35), (.mv (.t 34)), 0, none⟩, ⟨(some 36), (.mv (.t 10)), 0, (some (35, false))⟩, ⟨(some 37), (.bin .num .gtr (.t 36) (.c (.int .i64 1000000000))), 0, (some (35, false))⟩, ⟨(some 38), (.pick (.t 35) (.c (.bool true)) (.t 37)), 0, none⟩] none) (.cond (.t 38) (.seq (.reg [⟨(some 4), (.mv (.c (.int .i64 0))), 0, none⟩, ⟨(some 5), (.mv (.c (.int .i64 2))), 0, none⟩] none) .ret) .skip))) (.reg [⟨(some 39), (.mv (.t 6)), 0, none⟩, ⟨(some 40), (.faddr 1 (.t 8)), 0, none⟩, ⟨(some 41), (.load false [(.int .i64)] (.t 40)), 0, none⟩, ⟨(some 42), (.mv (.t 1)), 0, none⟩, ⟨(some 43), (.mv (.t 9)), 0, none⟩, ⟨(some 44), (.iaddr 2 (.t 42) (.t 43)), 0, none⟩, ⟨(some 45), (.faddr 1 (.t 44)), 0, none⟩, ⟨(some 46), (.load false [(.int .i64)] (.t 45)), 0, none⟩, ⟨(some 47), (.bin .num .mul (.t 41) (.t 46)), 0, none⟩, ⟨(some 48), (.bin .num .add (.t 39) (.t 47)), 0, none⟩, ⟨(some 6), (.mv (.t 48)), 0, none⟩] (some [[], [], [1], [], [], [3, 4], [5, 3, 4], [6, 5, 3, 4], [2, 7, 1, 6, 5, 3, 4], [0, 8, 2, 7, 1, 6, 5, 3, 4], [9, 0, 1, 2, 3, 4, 5, 6, 7, 8]]))))))) (.reg [⟨(some 49), (.bin .num .add (.t 19) (.c (.int .i64 1))), 0, none⟩, ⟨(some 19), (.mv (.t 49)), 0, none⟩] none))))))) (.seq (.reg [⟨(some 50), (.mv (.t 6)), 0, none⟩, ⟨(some 4), (.mv (.t 50)), 0, none⟩, ⟨(some 5), (.mv (.c (.int .i64 0))), 0, none⟩] none) .ret)))))
def rs_lev : List IRes := [(.tmp 4), (.tmp 5)]
abbrev nt_lev : Nat := 51
def T_lev : Tab := tab [(67, .pure (preT (fun x : Lin × Unit => linSm x.1)) (valT (fun x : Lin × Unit => validL x.1))), (111, .own (pre_ixE 112) val_ixE)]
theorem lev_s {G : PV → Prop} (l : Lin) (v : List Coef) (h : (Go.Pl.preT (fun (x : Lin × Unit) => linSm x.1) [(.agg [(.int .i64 l.k), (.sl 2 false (List.map enc l.t))])]) = true ∧ (∃ y0 : Bool, AV.pv (valT (fun (x : Lin × Unit) => validL x.1) [(.agg [(.int .i64 l.k), (.sl 2 false (List.map enc l.t))])]) = AV.pv (enc y0) ∧ (if (!y0) = true then G ((.tup [(.int .i64 0), (.int .i64 1)])) else (At T_lev 0 (endP' rs_lev G) ic_lev 0 51 [(1, (.pv (.sl 2 false (List.map enc v)))), (6, (.pv (.int .i64 l.k))), (17, (.pv (.sl 2 false (List.map enc l.t)))), (18, (.pv (.int .i64 (↑(List.length (List.map enc l.t)) : Int)))), (19, (.pv (.int .i64 0)))] [])))) : Gets T_lev 0 (endP' rs_lev G) ic_lev [] (st0 51 [enc l, enc v]) := Gets.tp (.req (.abs (Bool) (fun YY => AV.pv (enc YY)) (.ask (.nil) (.nil)))) h (by kernel_rfl)
theorem lev_h0 {G : PV → Prop} (l : Lin) (v : List Coef) (n i : Int) (h : if (decide (i < (↑(List.length l.t) : Int))) = true then (decide (0 ≤ i) && decide (Int.toNat i < List.length (List.map enc l.t)) && Enc.sz Coef == 2) = true ∧ (∃ y0 : Coef, AV.pv (PV.rptr (PV.cells (List.getD (List.map enc l.t) (Int.toNat i) default))) = AV.pv (PV.rptr (PV.cells ((enc) y0))) ∧ ((pre_ixE 112 [(.pv (.sl 2 false (List.map enc v))), (.fn 112 [] [(.ptr 0 0)])] [(.box [(.pv (.str (PV.asStr (List.getD (PV.cells (enc y0)) 0 default)))), (.pv (.int .i64 (PV.asInt (List.getD (PV.cells (enc y0)) (0 + 1) default))))])]) = true ∧ (if (decide (ixFind (fun (t : Coef) => Str.s (Coef.v t) == PV.asStr (List.getD (PV.cells (enc y0)) 0 default)) (dec (enc v)) < 0)) = true then G ((.tup [(.int .i64 0), (.int .i64 7)])) else ((decide (0 ≤ ixFind (fun (t : Coef) => Str.s (Coef.v t) == PV.asStr (List.getD (PV.cells (enc y0)) 0 default)) (dec (enc v))) && decide (Int.toNat (ixFind (fun (t : Coef) => Str.s (Coef.v t) == PV.asStr (List.getD (PV.cells (enc y0)) 0 default)) (dec (enc v))) < List.length (List.map enc v)) && Enc.sz Coef == 2) = true ∧ (∃ y1 : Coef, AV.pv (PV.rptr (PV.cells (List.getD (List.map enc v) (Int.toNat (ixFind (fun (t : Coef) => Str.s (Coef.v t) == PV.asStr (List.getD (PV.cells (enc y0)) 0 default)) (dec (enc v)))) default))) = AV.pv (PV.rptr (PV.cells ((enc) y1))) ∧ (if (decide (PV.asInt (List.getD (List.drop 1 (PV.cells (enc y1))) 0 default) < (-1000000000 : Int))) = true then G ((.tup [(.int .i64 0), (.int .i64 2)])) else (if (decide (PV.asInt (List.getD (List.drop 1 (PV.cells (enc y1))) 0 default) > 1000000000)) = true then G ((.tup [(.int .i64 0), (.int .i64 2)])) else ((decide (0 ≤ ixFind (fun (t : Coef) => Str.s (Coef.v t) == PV.asStr (List.getD (PV.cells (enc y0)) 0 default)) (dec (enc v))) && decide (Int.toNat (ixFind (fun (t : Coef) => Str.s (Coef.v t) == PV.asStr (List.getD (PV.cells (enc y0)) 0 default)) (dec (enc v))) < List.length (List.map enc v)) && Enc.sz Coef == 2) = true ∧ (∃ y2 : Coef, AV.pv (PV.rptr (PV.cells (List.getD (List.map enc v) (Int.toNat (ixFind (fun (t : Coef) => Str.s (Coef.v t) == PV.asStr (List.getD (PV.cells (enc y0)) 0 default)) (dec (enc v)))) default))) = AV.pv (PV.rptr (PV.cells ((enc) y2))) ∧ (At T_lev 0 (endP' rs_lev G) ic_lev 0 51 [(1, (.pv (.sl 2 false (List.map enc v)))), (6, (.pv (.int .i64 (IntKind.wrap IntKind.i64 (n + IntKind.wrap IntKind.i64 (PV.asInt (List.getD (PV.cells (enc y0)) (0 + 1) default) * PV.asInt (List.getD (List.drop 1 (PV.cells (enc y2))) 0 default))))))), (17, (.pv (.sl 2 false (List.map enc l.t)))), (18, (.pv (.int .i64 (↑(List.length l.t) : Int)))), (19, (.pv (.int .i64 (IntKind.wrap IntKind.i64 (i + 1)))))] [])))))))))) else (G ((.tup [(.int .i64 n), (.int .i64 0)])))) : At T_lev 0 (endP' rs_lev G) ic_lev 0 51 [(1, .pv (enc v)), (6, .pv (.int .i64 n)), (17, .pv (enc l.t)), (18, .pv (.int .i64 l.t.length)), (19, .pv (.int .i64 i))] [] := At.tp (.lit (.ask (.req (.abs (Coef) (fun YY => AV.pv (PV.rptr (PV.cells ((enc) YY)))) (.lit (.req (.keep (.lit (.ask (.nil) (.req (.abs (Coef) (fun YY => AV.pv (PV.rptr (PV.cells ((enc) YY)))) (.lit (.lit (.ask (.lit (.lit (.lit (.nil)))) (.lit (.lit (.lit (.ask (.nil) (.req (.abs (Coef) (fun YY => AV.pv (PV.rptr (PV.cells ((enc) YY)))) (.lit (.lit (.lit (.lit (.nil))))))))))))))))))))))) (.nil))) h (by kernel_rfl)
end Go.Pl

namespace Go.Pl
open Go.RowKit
open Enc (enc dec is)
open EncL (encL decL isL)
theorem ev1_run : ∀ args os, pre_e1 args os = true → Gets T_ev1 os.length (endO' os.length rs_ev1 fun r => r = val_e1 args os) ic_ev1 [] (st0O nt_ev1 args os) := by
  intro args os h
  unfold pre_e1 at h
  split at h
  · rename_i x v c
    obtain ⟨x, rfl⟩ := can_eq h
    exact ev1_s x v c (by simp only [val_e1, Enc.dec_enc])
  · cases h
theorem ixe_loop (l : List Coef) (v : List UInt8) (c : Int) (hl : l.length ≤ 9223372036854775807) (H : AV × List AObj × List AObj) (hH : H = (.pv (.int .i64 (ixFind (fun t : Coef => t.v.s == v) l)), [.box [.pv (.str v), .pv (.int .i64 c)]], [])) : ∀ (m i : Nat), m + i = l.length → (∀ j (hj : j < l.length), j < i → (l[j].v.s == v) = false) →
    At T_ixe 1 (endO' 1 rs_ixe fun r => r = H) ic_ixe 0 19 [(0, .pv (enc l)), (1, .fn 112 [] [.ptr 0 0]), (7, .pv (.int .i64 l.length)), (8, .pv (.int .i64 i))] [.obj (.box [.pv (.str v), .pv (.int .i64 c)])] := by
  subst hH
  intro m
  induction m with
  | zero =>
    intro i hi hno
    refine ixe_h0 l v c i (iteF (lt_no' (by omega)) ?_)
    rw [ix_none _ _ (fun j hj => hno j hj (by omega))]
  | succ m ih =>
    intro i hi hno
    have hlt : i < l.length := by omega
    refine ixe_h0 l v c i (iteT (lt_ok' hlt) ⟨idx_ok hlt rfl, el_ex hlt ⟨can_enc l[i], iteB (fun hb => ?_) fun hb => ?_⟩⟩)
    · rw [ix_step (fun t : Coef => t.v.s == v) l i hlt hno hb]
    · rw [next (by omega)]
      refine ih (i + 1) (by omega) fun j hj hji => ?_
      by_cases e : j = i
      · subst e; exact hb
      · exact hno j hj (by omega)
theorem ixe_run : ∀ args os, pre_ixE 112 args os = true → Gets T_ixe os.length (endO' os.length rs_ixe fun r => r = val_ixE args os) ic_ixe [] (st0O nt_ixe args os) := by
  intro args os h
  unfold pre_ixE at h
  split at h
  · rename_i l g v c
    simp only [Bool.and_eq_true, beq_iff_eq, decide_eq_true_eq] at h
    obtain ⟨⟨rfl, hl⟩, h2⟩ := h
    obtain ⟨l, rfl⟩ := can_eq hl
    rw [Enc.dec_enc] at h2
    refine ixe_s l v c ?_
    rw [List.length_map]
    exact ixe_loop l v c h2 _ (by simp only [val_ixE, Enc.dec_enc]) l.length 0 (by omega) (fun j hj h => by omega)
  · cases h
theorem ix_look (v : List Coef) (s : Str) : (ixFind (fun t : Coef => t.v.s == s.s) v < 0 ∧ lookV v s = none) ∨ ∃ (i : Nat) (hi : i < v.length), ixFind (fun t : Coef => t.v.s == s.s) v = i ∧ lookV v s = some v[i].c := by
  unfold ixFind lookV
  have hp : (fun t : Coef => decide (t.v = s)) = fun t : Coef => t.v.s == s.s := by
    funext t
    by_cases h : t.v = s
    · simp [h]
    · have : ¬ t.v.s = s.s := fun e => h (by cases hv : t.v; cases s; rw [hv] at e; cases e; rfl)
      simp [h, this]
  rw [hp]
  cases h : v.findIdx? (fun t : Coef => t.v.s == s.s) with
  | none =>
    left
    refine ⟨by show (-1 : Int) < 0; omega, ?_⟩
    rw [List.findIdx?_eq_none_iff] at h
    have : v.find? (fun t : Coef => t.v.s == s.s) = none := List.find?_eq_none.2 fun x hx => by simp [h x hx]
    rw [this]; rfl
  | some i =>
    right
    have h' := h
    rw [List.findIdx?_eq_some_iff_getElem] at h
    obtain ⟨hi, h1, h2⟩ := h
    refine ⟨i, hi, rfl, ?_⟩
    have : v.find? (fun t : Coef => t.v.s == s.s) = some v[i] := by
      rw [List.find?_eq_some_iff_getElem]
      exact ⟨h1, i, hi, rfl, fun j hj => by simpa using h2 j hj⟩
    rw [this]; rfl
theorem lev_loop (l : Lin) (v : List Coef) (hl : l.t.length ≤ 9223372036854775807) (hv : v.length ≤ 9223372036854775807) : ∀ (m i : Nat) (n : Int), m + i = l.t.length →
    At T_lev 0 (endP' rs_lev (Fits (evalT v n (l.t.drop i)))) ic_lev 0 51 [(1, .pv (enc v)), (6, .pv (.int .i64 n)), (17, .pv (enc l.t)), (18, .pv (.int .i64 l.t.length)), (19, .pv (.int .i64 i))] [] := by
  intro m
  induction m with
  | zero =>
    intro i n hi
    refine lev_h0 l v n i (iteF (lt_no' (by omega)) ?_)
    rw [List.drop_of_length_le (show l.t.length ≤ i by omega)]
    exact ⟨rfl, rfl⟩
  | succ m ih =>
    intro i n hi
    have hlt : i < l.t.length := by omega
    refine lev_h0 l v n i (iteT (lt_ok' hlt) ⟨idx_ok hlt rfl, el_ex hlt ?_⟩)
    rw [List.drop_eq_getElem_cons hlt, evalT, next (by omega)]
    have e0 : PV.asStr (List.getD (PV.cells (enc l.t[i])) 0 default) = l.t[i].v.s := rfl
    simp only [e0, Enc.dec_enc]
    refine ⟨by show pre_ixE _ [.pv (enc v), _] _ = true; simp [pre_ixE, hv], ?_⟩
    rcases ix_look v l.t[i].v with ⟨h1, h2⟩ | ⟨k, hk, h1, h2⟩
    · rw [h2]
      exact iteT (by simpa using h1) ⟨rfl, rfl⟩
    · rw [h2]
      simp only [h1]
      refine iteF (by simp) ⟨idx_ok hk rfl, el_ex hk ?_⟩
      refine iteD (fun h3 => ?_) fun h3 => iteD (fun h4 => ?_) fun h4 => ⟨idx_ok hk rfl, el_ex hk ?_⟩
      · have h3 : v[k].c < -1000000000 := h3
        rw [if_pos h3]; exact ⟨rfl, rfl⟩
      · have h3 : ¬ v[k].c < -1000000000 := h3
        have h4 : v[k].c > 1000000000 := h4
        rw [if_neg h3, if_pos h4]; exact ⟨rfl, rfl⟩
      · have h3 : ¬ v[k].c < -1000000000 := h3
        have h4 : ¬ v[k].c > 1000000000 := h4
        rw [if_neg h3, if_neg h4]
        exact ih (i + 1) _ (by omega)
theorem lev_run : ∀ a : Lin × List Coef × Unit, (linSm a.1 && decide (a.2.1.length ≤ 9223372036854775807)) = true → Gets T_lev 0 (endP' rs_lev (Fits (evalL a.1 a.2.1))) ic_lev [] (st0 nt_lev (encL a)) := by
  rintro ⟨l, v, ⟨⟩⟩ h
  simp only [Bool.and_eq_true, decide_eq_true_eq] at h
  have hl : l.t.length ≤ 9223372036854775807 := by
    have := h.1
    simp only [linSm, linOk, Bool.and_eq_true, decide_eq_true_eq] at this
    exact this.1
  refine lev_s l v ⟨pre_enc (l, ()) rfl h.1, ex_enc (l, ()) rfl ?_⟩
  show if (!validL l) = true then Fits (evalL l v) _ else At T_lev 0 (endP' rs_lev (Fits (evalL l v))) ic_lev 0 51 _ _
  unfold evalL
  refine iteN (fun hv => ?_) fun hv => ?_
  · rw [if_neg (by rw [hv]; simp)]
    exact ⟨rfl, rfl⟩
  · rw [if_pos hv, List.length_map]
    exact lev_loop l v hl h.2 l.t.length 0 l.k (by omega)
end Go.Pl

namespace Go.Pl
open Go.RowKit
open Enc (enc dec is)
open EncL (encL decL isL)
set_option maxRecDepth 100000
def ic_combine : IC := (.seq (.reg [⟨(some 3), (.box 2 (.t 0)), 0, none⟩, ⟨(some 4), (.box 2 (.t 1)), 1, none⟩, ⟨(some 6), (.alloc (.agg [(.int .i64 0), (.sl 0 true [])])), 2, none⟩, ⟨(some 7), (.mv (.c (.int .i64 0))), 3, none⟩] none) (.seq (.seq (.reg [⟨(some 9), (.load true [(.int .i64), (.sl 2)] (.t 3)), 0, none⟩, ⟨(some 10), (.call (.c (.fn 67)) [(.t 9)]), 0, none⟩, ⟨(some 11), (.un .not (.t 10)), 2, none⟩, ⟨(some 12), (.mv (.t 11)), 2, none⟩, ⟨(some 13), (.load true [(.int .i64), (.sl 2)] (.t 4)), 2, (some (12, false))⟩, ⟨(some 14), (.call (.c (.fn 67)) [(.t 13)]), 2, (some (12, false))⟩, ⟨(some 15), (.un .not (.t 14)), 4, (some (12, false))⟩, ⟨(some 16), (.pick (.t 12) (.c (.bool true)) (.t 15)), 4, none⟩] none) (.cond (.t 16) (.seq (.reg [⟨(some 17), (.build [(.int .i64 0), (.sl 0 true [])] []), 0, none⟩, ⟨none, (.store 2 (.t 6) (.t 17)), 0, none⟩, ⟨(some 7), (.mv (.c (.int .i64 1))), 0, none⟩] none) .ret) .skip)) (.seq (.reg [⟨(some 18), .mkmap, 0, none⟩, ⟨(some 19), (.build [(.int .i64 0), .nilmap] [(1, (1, (.t 18)))]), 1, none⟩, ⟨(some 8), (.alloc (.agg [(.int .i64 0), .nilmap])), 1, none⟩, ⟨none, (.store 2 (.t 8) (.t 19)), 2, none⟩] none) (.seq (.reg [⟨(some 20), (.load true [(.int .i64), (.sl 2)] (.t 3)), 0, none⟩, ⟨(some 21), (.call (.c (.fn 108)) [(.t 8), (.t 20), (.c (.int .i64 1))]), 0, none⟩] none) (.seq (.reg [⟨(some 22), (.load true [(.int .i64), (.sl 2)] (.t 4)), 0, none⟩, ⟨(some 23), (.mv (.t 2)), 0, none⟩, ⟨(some 24), (.call (.c (.fn 108)) [(.t 8), (.t 22), (.t 23)]), 0, none⟩] none) (.seq (.reg [⟨(some 25), (.call (.c (.fn 85)) [(.t 8)]), 0, none⟩, ⟨(some 26), (.extract (.t 25) 0), 2, none⟩, ⟨(some 27), (.extract (.t 25) 1), 2, none⟩, ⟨none, (.store 2 (.t 6) (.t 26)), 2, none⟩, ⟨(some 7), (.mv (.t 27)), 2, none⟩] none) .ret))))))
def rs_combine : List IRes := [(.cell true 2 6), (.tmp 7)]
abbrev nt_combine : Nat := 28
def T_combine : Tab := tab [(67, .pure (preT (fun x : Lin × Unit => linSm x.1)) (valT (fun x : Lin × Unit => validL x.1))), (108, .own pre_add val_add), (85, .own pre_res val_res)]
theorem combine_s {G : PV → Prop} (a b : Lin) (k : Int) (h : (Go.Pl.preT (fun (x : Lin × Unit) => linSm x.1) [(.agg [(.int .i64 a.k), (.sl 2 false (List.map enc a.t))])]) = true ∧ (∃ y0 : Bool, AV.pv (valT (fun (x : Lin × Unit) => validL x.1) [(.agg [(.int .i64 a.k), (.sl 2 false (List.map enc a.t))])]) = AV.pv (enc y0) ∧ (if (!y0) = true then G ((.tup [(.agg [(.int .i64 0), (.sl 0 true [])]), (.int .i64 1)])) else ((Go.Pl.preT (fun (x : Lin × Unit) => linSm x.1) [(.agg [(.int .i64 b.k), (.sl 2 false (List.map enc b.t))])]) = true ∧ (∃ y1 : Bool, AV.pv (valT (fun (x : Lin × Unit) => validL x.1) [(.agg [(.int .i64 b.k), (.sl 2 false (List.map enc b.t))])]) = AV.pv (enc y1) ∧ (if (!y1) = true then G ((.tup [(.agg [(.int .i64 0), (.sl 0 true [])]), (.int .i64 1)])) else ((pre_add [(.ptr 0 0), (.pv (.agg [(.int .i64 a.k), (.sl 2 false (List.map enc a.t))])), (.pv (.int .i64 1))] [(.box [(.pv (.int .i64 0)), (.map 1)]), (.map [])]) = true ∧ ((pre_add [(.ptr 0 0), (.pv (.agg [(.int .i64 b.k), (.sl 2 false (List.map enc b.t))])), (.pv (.int .i64 k))] [(.box [(.pv (.int .i64 (w64 (0 + w64 (1 * Lin.k (dec (PV.agg [enc a.k, enc a.t]))))))), (.map 1)]), (.map (mapP (addT 1 (Lin.t (dec (PV.agg [enc a.k, enc a.t]))) (mapD []))))]) = true ∧ ((pre_res [(.ptr 0 0)] [(.box [(.pv (.int .i64 (w64 (w64 (0 + w64 (1 * Lin.k (dec (PV.agg [enc a.k, enc a.t])))) + w64 (k * Lin.k (dec (PV.agg [enc b.k, enc b.t]))))))), (.map 1)]), (.map (mapP (addT k (Lin.t (dec (PV.agg [enc b.k, enc b.t]))) (mapD (mapP (addT 1 (Lin.t (dec (PV.agg [enc a.k, enc a.t]))) (mapD [])))))))]) = true ∧ (G ((.tup [(.agg [(.int .i64 (Lin.k (Prod.fst (resM (w64 (w64 (0 + w64 (1 * Lin.k (dec (PV.agg [enc a.k, enc a.t])))) + w64 (k * Lin.k (dec (PV.agg [enc b.k, enc b.t]))))) (mapD (mapP (addT k (Lin.t (dec (PV.agg [enc b.k, enc b.t]))) (mapD (mapP (addT 1 (Lin.t (dec (PV.agg [enc a.k, enc a.t]))) (mapD []))))))))))), (.sl 2 false (List.map enc (Lin.t (Prod.fst (resM (w64 (w64 (0 + w64 (1 * Lin.k (dec (PV.agg [enc a.k, enc a.t])))) + w64 (k * Lin.k (dec (PV.agg [enc b.k, enc b.t]))))) (mapD (mapP (addT k (Lin.t (dec (PV.agg [enc b.k, enc b.t]))) (mapD (mapP (addT 1 (Lin.t (dec (PV.agg [enc a.k, enc a.t]))) (mapD []))))))))))))]), (.int .i64 (Prod.snd (resM (w64 (w64 (0 + w64 (1 * Lin.k (dec (PV.agg [enc a.k, enc a.t])))) + w64 (k * Lin.k (dec (PV.agg [enc b.k, enc b.t]))))) (mapD (mapP (addT k (Lin.t (dec (PV.agg [enc b.k, enc b.t]))) (mapD (mapP (addT 1 (Lin.t (dec (PV.agg [enc a.k, enc a.t]))) (mapD []))))))))))])))))))))))) : Gets T_combine 0 (endP' rs_combine G) ic_combine [] (st0 28 [enc a, enc b, enc k]) := Gets.tp (.req (.abs (Bool) (fun YY => AV.pv (enc YY)) (.ask (.lit (.lit (.lit (.lit (.nil))))) (.lit (.req (.abs (Bool) (fun YY => AV.pv (enc YY)) (.lit (.lit (.ask (.nil) (.req (.keep (.req (.keep (.req (.keep (.nil)))))))))))))))) h (by kernel_rfl)
def ic_ladd2 : IC := (.seq (.reg [⟨(some 2), (.box 2 (.t 0)), 0, none⟩, ⟨(some 3), (.box 2 (.t 1)), 1, none⟩, ⟨(some 4), (.alloc (.agg [(.int .i64 0), (.sl 0 true [])])), 2, none⟩, ⟨(some 5), (.mv (.c (.int .i64 0))), 3, none⟩] none) (.seq (.reg [⟨(some 6), (.load true [(.int .i64), (.sl 2)] (.t 2)), 0, none⟩, ⟨(some 7), (.load true [(.int .i64), (.sl 2)] (.t 3)), 0, none⟩, ⟨(some 8), (.call (.c (.fn 96)) [(.t 6), (.t 7), (.c (.int .i64 1))]), 0, none⟩, ⟨(some 9), (.extract (.t 8) 0), 2, none⟩, ⟨(some 10), (.extract (.t 8) 1), 2, none⟩, ⟨none, (.store 2 (.t 4) (.t 9)), 2, none⟩, ⟨(some 5), (.mv (.t 10)), 2, none⟩] none) .ret))
def rs_ladd2 : List IRes := [(.cell true 2 4), (.tmp 5)]
abbrev nt_ladd2 : Nat := 11
def T_ladd2 : Tab := tab [(96, .pure (preT (fun x : Lin × Lin × Int × Unit => linSm x.1 && linSm x.2.1)) (valT (fun x : Lin × Lin × Int × Unit => combineL x.1 x.2.1 x.2.2.1)))]
theorem ladd2_s {G : PV → Prop} (a b : Lin) (h : (Go.Pl.preT (fun (x : Lin × Lin × Int × Unit) => linSm x.1 && linSm x.2.1) [(.agg [(.int .i64 a.k), (.sl 2 false (List.map enc a.t))]), (.agg [(.int .i64 b.k), (.sl 2 false (List.map enc b.t))]), (.int .i64 1)]) = true ∧ (∃ y0 : Lin × Int, AV.pv (valT (fun (x : Lin × Lin × Int × Unit) => combineL x.1 x.2.1 x.2.2.1) [(.agg [(.int .i64 a.k), (.sl 2 false (List.map enc a.t))]), (.agg [(.int .i64 b.k), (.sl 2 false (List.map enc b.t))]), (.int .i64 1)]) = AV.pv (enc y0) ∧ (G ((.tup [(.agg [(.int .i64 y0.1.k), (.sl 2 false (List.map enc y0.1.t))]), (.int .i64 y0.2)]))))) : Gets T_ladd2 0 (endP' rs_ladd2 G) ic_ladd2 [] (st0 11 [enc a, enc b]) := Gets.tp (.req (.abs (Lin × Int) (fun YY => AV.pv (enc YY)) (.nil))) h (by kernel_rfl)
end Go.Pl

namespace Go.Pl
open Go.RowKit
open Enc (enc dec is)
open EncL (encL decL isL)
theorem sums_sm (k : Int) {a b : Lin} (ha : validL a = true) (hb : validL b = true) : mapSm (addT k b.t (addT 1 a.t [])) = true := by
  have h1 := valid_len ha
  have h2 := valid_len hb
  have h3 := addT_len k b.t (addT 1 a.t [])
  have h4 := addT_len 1 a.t []
  simp only [mapSm, Bool.and_eq_true, decide_eq_true_eq, List.all_eq_true]
  have hz : ([] : List (Str × Int)).length = 0 := rfl
  refine ⟨by omega, fun x hx => ?_⟩
  rcases addT_keys _ _ _ _ hx with hx | ⟨t, ht, rfl⟩
  · rcases addT_keys _ _ _ _ hx with hx | ⟨t, ht, rfl⟩
    · cases hx
    · have := name_len (valid_coef ha ht).1; omega
  · have := name_len (valid_coef hb ht).1; omega
theorem dec_lin_eq (a : Lin) : (dec (PV.agg [enc a.k, enc a.t]) : Lin) = a := Enc.dec_enc a
theorem combine_run : ∀ a : Lin × Lin × Int × Unit, (linSm a.1 && linSm a.2.1) = true → Gets T_combine 0 (endP' rs_combine (Fits (combineL a.1 a.2.1 a.2.2.1))) ic_combine [] (st0 nt_combine (encL a)) := by
  rintro ⟨a, b, k, ⟨⟩⟩ h
  simp only [Bool.and_eq_true] at h
  refine combine_s a b k ⟨pre_enc (a, ()) rfl h.1, ex_enc (a, ()) rfl (iteN (fun ha => ?_) fun ha => ⟨pre_enc (b, ()) rfl h.2, ex_enc (b, ()) rfl (iteN (fun hb => ?_) fun hb => ?_)⟩)⟩
  · have ha : validL a = false := ha
    simp only [combineL, ha]
    exact ⟨rfl, rfl⟩
  · have ha : validL a = true := ha
    have hb : validL b = false := hb
    simp only [combineL, ha, hb]
    exact ⟨rfl, rfl⟩
  have ha : validL a = true := ha
  have hb : validL b = true := hb
  have h1 := valid_len ha
  have h2 := valid_len hb
  have e0 : mapD [] = [] := rfl
  simp only [dec_lin_eq, mapD_map, e0]
  have c1 : can Lin (PV.agg [PV.int .i64 a.k, PV.sl 2 false (List.map enc a.t)]) = true := can_enc a
  have c2 : can Lin (PV.agg [PV.int .i64 b.k, PV.sl 2 false (List.map enc b.t)]) = true := can_enc b
  have d1 : (dec (PV.agg [PV.int .i64 a.k, PV.sl 2 false (List.map enc a.t)]) : Lin) = a := Enc.dec_enc a
  have d2 : (dec (PV.agg [PV.int .i64 b.k, PV.sl 2 false (List.map enc b.t)]) : Lin) = b := Enc.dec_enc b
  refine ⟨?_, ?_, ?_, ?_⟩
  · simp only [pre_add, c1, d1]
    simp [canM]; omega
  · simp only [pre_add, c2, d2, canM_map]
    simp; omega
  · simp only [pre_res, canM_map, mapD_map, sums_sm k ha hb]
    rfl
  · simp only [combineL, ha, hb, if_true]
    exact fits_of rfl
theorem ladd2_run : ∀ a : Lin × Lin × Unit, (linSm a.1 && linSm a.2.1) = true → Gets T_ladd2 0 (endP' rs_ladd2 (Fits (combineL a.1 a.2.1 1))) ic_ladd2 [] (st0 nt_ladd2 (encL a)) := by
  rintro ⟨a, b, ⟨⟩⟩ h
  exact ladd2_s a b ⟨pre_enc (a, b, 1, ()) rfl h, ex_enc (a, b, 1, ()) rfl (fits_of rfl)⟩
end Go.Pl

namespace Go.Pl
open Go.RowKit
open Enc (enc dec is)
open EncL (encL decL isL)
mutual
def smallC : Cert → Int → Bool
  | .mk _ m l ks, n => !decide ((m.length : Int) > 60) && (few4 l 8 && (!decide (n < 1) && (!decide ((ks.length : Int) > n) && smallCs ks n)))
def smallCs : List Cert → Int → Bool
  | [], _ => true
  | c :: cs, n => smallC c (w64 (n - 1)) && smallCs cs (w64 (n - sizeC c))
end
end Go.Pl

namespace Go.Pl
open Go.RowKit
open Enc (enc dec is)
open EncL (encL decL isL)
set_option maxRecDepth 100000
end Go.Pl

namespace Go.Pl
open Go.RowKit
open Enc (enc dec is)
open EncL (encL decL isL)
set_option maxRecDepth 100000
def ic_rdig : IC := (.seq (.reg [⟨(some 2), (.mv (.c (.bool false))), 0, none⟩] none) (.seq (.reg [⟨(some 3), (.mv (.t 0)), 0, none⟩, ⟨(some 4), (.bin .num .geq (.t 3) (.c (.int .u8 48))), 0, none⟩, ⟨(some 5), (.mv (.t 4)), 0, none⟩, ⟨(some 6), (.mv (.t 0)), 0, (some (5, true))⟩, ⟨(some 7), (.bin .num .leq (.t 6) (.c (.int .u8 57))), 0, (some (5, true))⟩, ⟨(some 8), (.pick (.t 5) (.t 7) (.c (.bool false))), 0, none⟩, ⟨(some 2), (.mv (.t 8)), 0, none⟩] none) .ret))
def rs_rdig : List IRes := [(.tmp 2)]
abbrev nt_rdig : Nat := 9
def T_rdig : Tab := tab []
theorem rdig_s {G : PV → Prop} (c : UInt8) (h : if (decide ((↑(UInt8.toNat c) : Int) ≥ 48)) = true then G ((.bool (decide ((↑(UInt8.toNat c) : Int) ≤ 57)))) else (G ((.bool false)))) : Gets T_rdig 0 (endP' rs_rdig G) ic_rdig [] (st0 9 [enc c]) := Gets.tp (.lit (.ask (.lit (.lit (.lit (.nil)))) (.lit (.lit (.nil))))) h (by kernel_rfl)
def ic_rlet : IC := (.seq (.reg [⟨(some 2), (.mv (.c (.bool false))), 0, none⟩] none) (.seq (.reg [⟨(some 3), (.mv (.t 0)), 0, none⟩, ⟨(some 4), (.bin .num .geq (.t 3) (.c (.int .u8 97))), 0, none⟩, ⟨(some 5), (.mv (.t 4)), 0, none⟩, ⟨(some 6), (.mv (.t 0)), 0, (some (5, true))⟩, ⟨(some 7), (.bin .num .leq (.t 6) (.c (.int .u8 122))), 0, (some (5, true))⟩, ⟨(some 8), (.pick (.t 5) (.t 7) (.c (.bool false))), 0, none⟩, ⟨(some 2), (.mv (.t 8)), 0, none⟩] none) .ret))
def rs_rlet : List IRes := [(.tmp 2)]
abbrev nt_rlet : Nat := 9
def T_rlet : Tab := tab []
theorem rlet_s {G : PV → Prop} (c : UInt8) (h : if (decide ((↑(UInt8.toNat c) : Int) ≥ 97)) = true then G ((.bool (decide ((↑(UInt8.toNat c) : Int) ≤ 122)))) else (G ((.bool false)))) : Gets T_rlet 0 (endP' rs_rlet G) ic_rlet [] (st0 9 [enc c]) := Gets.tp (.lit (.ask (.lit (.lit (.lit (.nil)))) (.lit (.lit (.nil))))) h (by kernel_rfl)
def ic_rsmall : IC := (.seq (.reg [⟨(some 2), (.mv (.c (.bool false))), 0, none⟩] none) (.seq (.reg [⟨(some 3), (.mv (.t 0)), 0, none⟩, ⟨(some 4), (.bin .num .geq (.t 3) (.c (.int .i64 (-1000000)))), 0, none⟩, ⟨(some 5), (.mv (.t 4)), 0, none⟩, ⟨(some 6), (.mv (.t 0)), 0, (some (5, true))⟩, ⟨(some 7), (.bin .num .leq (.t 6) (.c (.int .i64 1000000))), 0, (some (5, true))⟩, ⟨(some 8), (.pick (.t 5) (.t 7) (.c (.bool false))), 0, none⟩, ⟨(some 2), (.mv (.t 8)), 0, none⟩] none) .ret))
def rs_rsmall : List IRes := [(.tmp 2)]
abbrev nt_rsmall : Nat := 9
def T_rsmall : Tab := tab []
theorem rsmall_s {G : PV → Prop} (n : Int) (h : if (decide (n ≥ (-1000000 : Int))) = true then G ((.bool (decide (n ≤ 1000000)))) else (G ((.bool false)))) : Gets T_rsmall 0 (endP' rs_rsmall G) ic_rsmall [] (st0 9 [enc n]) := Gets.tp (.lit (.ask (.lit (.lit (.lit (.nil)))) (.lit (.lit (.nil))))) h (by kernel_rfl)
def ic_lin : IC := ic_rsmall
def rs_lin : List IRes := [(.tmp 2)]
abbrev nt_lin : Nat := 9
def T_lin : Tab := tab []
theorem lin_s {G : PV → Prop} (n : Int) (h : if (decide (n ≥ (-1000000 : Int))) = true then G ((.bool (decide (n ≤ 1000000)))) else (G ((.bool false)))) : Gets T_lin 0 (endP' rs_lin G) ic_lin [] (st0 9 [enc n]) := Gets.tp (.lit (.ask (.lit (.lit (.lit (.nil)))) (.lit (.lit (.nil))))) h (by kernel_rfl)
def ic_ldig : IC := ic_rdig
def rs_ldig : List IRes := [(.tmp 2)]
abbrev nt_ldig : Nat := 9
def T_ldig : Tab := tab []
theorem ldig_s {G : PV → Prop} (c : UInt8) (h : if (decide ((↑(UInt8.toNat c) : Int) ≥ 48)) = true then G ((.bool (decide ((↑(UInt8.toNat c) : Int) ≤ 57)))) else (G ((.bool false)))) : Gets T_ldig 0 (endP' rs_ldig G) ic_ldig [] (st0 9 [enc c]) := Gets.tp (.lit (.ask (.lit (.lit (.lit (.nil)))) (.lit (.lit (.nil))))) h (by kernel_rfl)
def ic_rname : IC := (.seq (.reg [⟨(some 2), (.mv (.c (.bool false))), 0, none⟩] none) (.seq (.seq (.reg [⟨(some 5), (.mv (.t 0)), 0, none⟩, ⟨(some 6), (.len 0 (.t 5)), 0, none⟩, ⟨(some 7), (.bin .num .eql (.t 6) (.c (.int .i64 0))), 0, none⟩, ⟨(some 8), (.mv (.t 7)), 0, none⟩, ⟨(some 9), (.mv (.t 0)), 0, (some (8, false))⟩, ⟨(some 10), (.len 0 (.t 9)), 0, (some (8, false))⟩, ⟨(some 11), (.bin .num .gtr (.t 10) (.c (.int .i64 30))), 0, (some (8, false))⟩, ⟨(some 12), (.pick (.t 8) (.c (.bool true)) (.t 11)), 0, none⟩] none) (.cond (.t 12) (.seq (.reg [⟨(some 2), (.mv (.c (.bool false))), 0, none⟩] none) .ret) .skip)) (.seq (.seq (.reg [⟨(some 13), (.mv (.t 0)), 0, none⟩, ⟨(some 14), (.index (.t 13) (.c (.int .i64 0))), 0, none⟩, ⟨(some 15), (.bin .num .eql (.t 14) (.c (.int .u8 95))), 0, none⟩] none) (.cond (.t 15) (.seq (.seq (.reg [⟨(some 16), (.mv (.t 0)), 0, none⟩, ⟨(some 17), (.len 0 (.t 16)), 0, none⟩, ⟨(some 18), (.bin .num .lss (.t 17) (.c (.int .i64 2))), 0, none⟩, ⟨(some 19), (.mv (.t 18)), 0, none⟩, ⟨(some 20), (.mv (.t 0)), 0, (some (19, false))⟩, ⟨(some 21), (.len 0 (.t 20)), 0, (some (19, false))⟩, ⟨(some 22), (.bin .num .gtr (.t 21) (.c (.int .i64 10))), 0, (some (19, false))⟩, ⟨(some 23), (.pick (.t 19) (.c (.bool true)) (.t 22)), 0, none⟩, ⟨(some 24), (.mv (.t 23)), 0, none⟩, ⟨(some 25), (.mv (.t 0)), 0, (some (24, false))⟩, ⟨(some 26), (.index (.t 25) (.c (.int .i64 1))), 0, (some (24, false))⟩, ⟨(some 27), (.bin .num .eql (.t 26) (.c (.int .u8 48))), 0, (some (24, false))⟩, ⟨(some 28), (.pick (.t 24) (.c (.bool true)) (.t 27)), 0, none⟩] none) (.cond (.t 28) (.seq (.reg [⟨(some 2), (.mv (.c (.bool false))), 0, none⟩] none) .ret) .skip)) (.seq (.seq (.reg [⟨(some 3), (.mv (.c (.int .i64 1))), 0, none⟩] none) (.block 0 (.loop [3, 0] (.seq (.seq (.reg [⟨(some 29), (.mv (.t 3)), 0, none⟩, ⟨(some 30), (.mv (.t 0)), 0, none⟩, ⟨(some 31), (.len 0 (.t 30)), 0, none⟩, ⟨(some 32), (.bin .num .lss (.t 29) (.t 31)), 0, none⟩] none) (.cond (.t 32) .skip (.exit 0))) (.seq (.block 1 (.seq (.reg [⟨(some 35), (.mv (.t 0)), 0, none⟩, ⟨(some 36), (.mv (.t 3)), 0, none⟩, ⟨(some 37), (.index (.t 35) (.t 36)), 0, none⟩, ⟨(some 38), (.call (.c (.fn 135)) [(.t 37)]), 0, none⟩, ⟨(some 39), (.un .not (.t 38)), 2, none⟩] none) (.cond (.t 39) (.seq (.reg [⟨(some 2), (.mv (.c (.bool false))), 0, none⟩] none) .ret) .skip))) (.reg [⟨(some 33), (.mv (.t 3)), 0, none⟩, ⟨(some 34), (.bin .num .add (.t 33) (.c (.int .i64 1))), 0, none⟩, ⟨(some 3), (.mv (.t 34)), 0, none⟩] none)))))) (.seq (.reg [⟨(some 2), (.mv (.c (.bool true))), 0, none⟩] none) .ret))) .skip)) (.seq (.seq (.reg [⟨(some 4), (.mv (.c (.int .i64 0))), 0, none⟩] none) (.block 2 (.loop [4, 0] (.seq (.seq (.reg [⟨(some 40), (.mv (.t 4)), 0, none⟩, ⟨(some 41), (.mv (.t 0)), 0, none⟩, ⟨(some 42), (.len 0 (.t 41)), 0, none⟩, ⟨(some 43), (.bin .num .lss (.t 40) (.t 42)), 0, none⟩] none) (.cond (.t 43) .skip (.exit 2))) (.seq (.block 3 (.seq (.reg [⟨(some 46), (.mv (.t 0)), 0, none⟩, ⟨(some 47), (.mv (.t 4)), 0, none⟩, ⟨(some 48), (.index (.t 46) (.t 47)), 0, none⟩, ⟨(some 49), (.call (.c (.fn 136)) [(.t 48)]), 0, none⟩, ⟨(some 50), (.un .not (.t 49)), 2, none⟩, ⟨(some 51), (.mv (.t 50)), 2, none⟩, ⟨(some 52), (.mv (.t 4)), 2, (some (51, true))⟩, ⟨(some 53), (.bin .num .eql (.t 52) (.c (.int .i64 0))), 2, (some (51, true))⟩, ⟨(some 54), (.mv (.t 53)), 2, (some (51, true))⟩, ⟨(some 55), (.mv (.t 0)), 2, (some (54, false))⟩, ⟨(some 56), (.mv (.t 4)), 2, (some (54, false))⟩, ⟨(some 57), (.index (.t 55) (.t 56)), 2, (some (54, false))⟩, ⟨(some 58), (.call (.c (.fn 135)) [(.t 57)]), 2, (some (54, false))⟩, ⟨(some 59), (.un .not (.t 58)), 4, (some (54, false))⟩, ⟨(some 60), (.pick (.t 54) (.c (.bool true)) (.t 59)), 4, (some (51, true))⟩, ⟨(some 61), (.pick (.t 51) (.t 60) (.c (.bool false))), 4, none⟩] none) (.cond (.t 61) (.seq (.reg [⟨(some 2), (.mv (.c (.bool false))), 0, none⟩] none) .ret) .skip))) (.reg [⟨(some 44), (.mv (.t 4)), 0, none⟩, ⟨(some 45), (.bin .num .add (.t 44) (.c (.int .i64 1))), 0, none⟩, ⟨(some 4), (.mv (.t 45)), 0, none⟩] none)))))) (.seq (.reg [⟨(some 2), (.mv (.c (.bool true))), 0, none⟩] none) .ret)))))
def rs_rname : List IRes := [(.tmp 2)]
abbrev nt_rname : Nat := 62
def T_rname : Tab := tab [(135, .pure (preT (fun _ : UInt8 × Unit => true)) (valT (fun x : UInt8 × Unit => digB x.1))), (136, .pure (preT (fun _ : UInt8 × Unit => true)) (valT (fun x : UInt8 × Unit => lowB x.1)))]
theorem rname_s {G : PV → Prop} (s : List UInt8) (h : if ((↑(List.length s) : Int) == 0) = true then G ((.bool false)) else (if (decide ((↑(List.length s) : Int) > 30)) = true then G ((.bool false)) else ((decide (0 ≤ 0) && decide (Int.toNat 0 < List.length s)) = true ∧ (if ((↑(UInt8.toNat (List.getD s (Int.toNat 0) (0 : UInt8))) : Int) == 95) = true then if (decide ((↑(List.length s) : Int) < 2)) = true then G ((.bool false)) else (if (decide ((↑(List.length s) : Int) > 10)) = true then G ((.bool false)) else ((decide (0 ≤ 1) && decide (Int.toNat 1 < List.length s)) = true ∧ (if ((↑(UInt8.toNat (List.getD s (Int.toNat 1) (0 : UInt8))) : Int) == 48) = true then G ((.bool false)) else (At T_rname 0 (endP' rs_rname G) ic_rname 0 62 [(0, (.pv (.str s))), (3, (.pv (.int .i64 1)))] [])))) else (At T_rname 0 (endP' rs_rname G) ic_rname 1 62 [(0, (.pv (.str s))), (4, (.pv (.int .i64 0)))] []))))) : Gets T_rname 0 (endP' rs_rname G) ic_rname [] (st0 62 [.str s]) := Gets.tp (.lit (.ask (.lit (.lit (.lit (.lit (.nil))))) (.lit (.lit (.lit (.lit (.ask (.nil) (.req (.lit (.ask (.lit (.ask (.lit (.lit (.lit (.lit (.lit (.lit (.lit (.lit (.nil))))))))) (.lit (.lit (.lit (.lit (.ask (.lit (.lit (.lit (.lit (.nil))))) (.lit (.req (.lit (.lit (.lit (.ask (.nil) (.nil)))))))))))))) (.nil))))))))))) h (by kernel_rfl)
theorem rname_h0 {G : PV → Prop} (s : List UInt8) (i : Int) (h : if (decide (i < (↑(List.length s) : Int))) = true then (decide (0 ≤ i) && decide (Int.toNat i < List.length s)) = true ∧ ((Go.Pl.preT (fun (x : UInt8 × Unit) => true) [(.int IntKind.u8 (↑(UInt8.toNat (List.getD s (Int.toNat i) (0 : UInt8))) : Int))]) = true ∧ (∃ y0 : Bool, AV.pv (valT (fun (x : UInt8 × Unit) => digB x.1) [(.int IntKind.u8 (↑(UInt8.toNat (List.getD s (Int.toNat i) (0 : UInt8))) : Int))]) = AV.pv (enc y0) ∧ (if (!y0) = true then G ((.bool false)) else (At T_rname 0 (endP' rs_rname G) ic_rname 0 62 [(0, (.pv (.str s))), (3, (.pv (.int .i64 (IntKind.wrap IntKind.i64 (i + 1)))))] [])))) else (G ((.bool true)))) : At T_rname 0 (endP' rs_rname G) ic_rname 0 62 [(0, .pv (.str s)), (3, .pv (.int .i64 i))] [] := At.tp (.lit (.ask (.req (.req (.abs (Bool) (fun YY => AV.pv (enc YY)) (.ask (.nil) (.lit (.nil)))))) (.nil))) h (by kernel_rfl)
theorem rname_h1 {G : PV → Prop} (s : List UInt8) (i : Int) (h : if (decide (i < (↑(List.length s) : Int))) = true then (decide (0 ≤ i) && decide (Int.toNat i < List.length s)) = true ∧ ((Go.Pl.preT (fun (x : UInt8 × Unit) => true) [(.int IntKind.u8 (↑(UInt8.toNat (List.getD s (Int.toNat i) (0 : UInt8))) : Int))]) = true ∧ (∃ y0 : Bool, AV.pv (valT (fun (x : UInt8 × Unit) => lowB x.1) [(.int IntKind.u8 (↑(UInt8.toNat (List.getD s (Int.toNat i) (0 : UInt8))) : Int))]) = AV.pv (enc y0) ∧ (if (!y0) = true then if (i == 0) = true then G ((.bool false)) else ((decide (0 ≤ i) && decide (Int.toNat i < List.length s)) = true ∧ ((Go.Pl.preT (fun (x : UInt8 × Unit) => true) [(.int IntKind.u8 (↑(UInt8.toNat (List.getD s (Int.toNat i) (0 : UInt8))) : Int))]) = true ∧ (∃ y1 : Bool, AV.pv (valT (fun (x : UInt8 × Unit) => digB x.1) [(.int IntKind.u8 (↑(UInt8.toNat (List.getD s (Int.toNat i) (0 : UInt8))) : Int))]) = AV.pv (enc y1) ∧ (if (!y1) = true then G ((.bool false)) else (At T_rname 0 (endP' rs_rname G) ic_rname 1 62 [(0, (.pv (.str s))), (4, (.pv (.int .i64 (IntKind.wrap IntKind.i64 (i + 1)))))] []))))) else (At T_rname 0 (endP' rs_rname G) ic_rname 1 62 [(0, (.pv (.str s))), (4, (.pv (.int .i64 (IntKind.wrap IntKind.i64 (i + 1)))))] [])))) else (G ((.bool true)))) : At T_rname 0 (endP' rs_rname G) ic_rname 1 62 [(0, .pv (.str s)), (4, .pv (.int .i64 i))] [] := At.tp (.lit (.ask (.req (.req (.abs (Bool) (fun YY => AV.pv (enc YY)) (.ask (.lit (.lit (.lit (.ask (.lit (.lit (.lit (.lit (.lit (.lit (.lit (.lit (.nil))))))))) (.lit (.lit (.req (.lit (.req (.abs (Bool) (fun YY => AV.pv (enc YY)) (.lit (.lit (.lit (.lit (.ask (.nil) (.lit (.nil))))))))))))))))) (.lit (.lit (.lit (.lit (.lit (.lit (.nil))))))))))) (.nil))) h (by kernel_rfl)
def ic_rvalid : IC := (.seq (.reg [⟨(some 1), (.box 2 (.t 0)), 0, none⟩, ⟨(some 2), (.mv (.c (.bool false))), 1, none⟩] none) (.seq (.seq (.reg [⟨(some 5), (.faddr 0 (.t 1)), 0, none⟩, ⟨(some 6), (.load false [(.int .i64)] (.t 5)), 0, none⟩, ⟨(some 7), (.call (.c (.fn 86)) [(.t 6)]), 0, none⟩, ⟨(some 8), (.un .not (.t 7)), 2, none⟩, ⟨(some 9), (.mv (.t 8)), 2, none⟩, ⟨(some 10), (.faddr 1 (.t 1)), 2, (some (9, false))⟩, ⟨(some 11), (.load false [(.sl 2)] (.t 10)), 2, (some (9, false))⟩, ⟨(some 12), (.len 1 (.t 11)), 2, (some (9, false))⟩, ⟨(some 13), (.bin .num .gtr (.t 12) (.c (.int .i64 12))), 2, (some (9, false))⟩, ⟨(some 14), (.pick (.t 9) (.c (.bool true)) (.t 13)), 2, none⟩] none) (.cond (.t 14) (.seq (.reg [⟨(some 2), (.mv (.c (.bool false))), 0, none⟩] none) .ret) .skip)) (.seq (.seq (.reg [⟨(some 3), (.mv (.c (.int .i64 0))), 0, none⟩] none) (.block 0 (.loop [3, 1] (.seq (.seq (.reg [⟨(some 15), (.mv (.t 3)), 0, none⟩, ⟨(some 16), (.faddr 1 (.t 1)), 0, none⟩, ⟨(some 17), (.load false [(.sl 2)] (.t 16)), 0, none⟩, ⟨(some 18), (.len 1 (.t 17)), 0, none⟩, ⟨(some 19), (.bin .num .lss (.t 15) (.t 18)), 0, none⟩] none) (.cond (.t 19) .skip (.exit 0))) (.seq (.block 1 (.seq (.reg [⟨(some 22), (.faddr 1 (.t 1)), 0, none⟩, ⟨(some 23), (.load false [(.sl 2)] (.t 22)), 0, none⟩, ⟨(some 24), (.mv (.t 3)), 0, none⟩, ⟨(some 25), (.iaddr 2 (.t 23) (.t 24)), 0, none⟩, ⟨(some 26), (.load true [.str, (.int .i64)] (.t 25)), 0, none⟩, ⟨(some 4), (.alloc (.agg [(.str []), (.int .i64 0)])), 0, none⟩, ⟨none, (.store 2 (.t 4) (.t 26)), 1, none⟩] none) (.seq (.reg [⟨(some 27), (.faddr 0 (.t 4)), 0, none⟩, ⟨(some 28), (.load false [.str] (.t 27)), 0, none⟩, ⟨(some 29), (.call (.c (.fn 87)) [(.t 28)]), 0, none⟩, ⟨(some 30), (.un .not (.t 29)), 2, none⟩, ⟨(some 31), (.mv (.t 30)), 2, none⟩, ⟨(some 32), (.faddr 1 (.t 4)), 2, (some (31, false))⟩, ⟨(some 33), (.load false [(.int .i64)] (.t 32)), 2, (some (31, false))⟩, ⟨(some 34), (.bin .num .eql (.t 33) (.c (.int .i64 0))), 2, (some (31, false))⟩, ⟨(some 35), (.pick (.t 31) (.c (.bool true)) (.t 34)), 2, none⟩, ⟨(some 36), (.mv (.t 35)), 2, none⟩, ⟨(some 37), (.faddr 1 (.t 4)), 2, (some (36, false))⟩, ⟨(some 38), (.load false [(.int .i64)] (.t 37)), 2, (some (36, false))⟩, ⟨(some 39), (.call (.c (.fn 86)) [(.t 38)]), 2, (some (36, false))⟩, ⟨(some 40), (.un .not (.t 39)), 4, (some (36, false))⟩, ⟨(some 41), (.pick (.t 36) (.c (.bool true)) (.t 40)), 4, none⟩, ⟨(some 42), (.mv (.t 41)), 4, none⟩, ⟨(some 43), (.mv (.t 3)), 4, (some (42, false))⟩, ⟨(some 44), (.bin .num .gtr (.t 43) (.c (.int .i64 0))), 4, (some (42, false))⟩, ⟨(some 45), (.mv (.t 44)), 4, (some (42, false))⟩, ⟨(some 46), (.faddr 1 (.t 1)), 4, (some (45, true))⟩, ⟨(some 47), (.load false [(.sl 2)] (.t 46)), 4, (some (45, true))⟩, ⟨(some 48), (.mv (.t 3)), 4, (some (45, true))⟩, ⟨(some 49), (.bin .num .sub (.t 48) (.c (.int .i64 1))), 4, (some (45, true))⟩, ⟨(some 50), (.iaddr 2 (.t 47) (.t 49)), 4, (some (45, true))⟩, ⟨(some 51), (.faddr 0 (.t 50)), 4, (some (45, true))⟩, ⟨(some 52), (.load false [.str] (.t 51)), 4, (some (45, true))⟩, ⟨(some 53), (.faddr 0 (.t 4)), 4, (some (45, true))⟩, ⟨(some 54), (.load false [.str] (.t 53)), 4, (some (45, true))⟩, ⟨(some 55), (.bin .num .geq (.t 52) (.t 54)), 4, (some (45, true))⟩, ⟨(some 56), (.pick (.t 45) (.t 55) (.c (.bool false))), 4, (some (42, false))⟩, ⟨(some 57), (.pick (.t 42) (.c (.bool true)) (.t 56)), 4, none⟩] (some [[], [0], [1, 0], [2, 1, 0], [3, 2, 1, 0], [4, 3, 2, 1, 0], [5, 4, 3, 2, 1, 0], [6, 4, 5, 3, 2, 1, 0], [4, 7, 3, 2, 1, 0, 6, 5], [8, 4, 7, 3, 2, 1, 0, 6, 5], [9, 8, 4, 7, 3, 2, 1, 0, 6, 5], [10, 9, 8, 4, 7, 3, 2, 1, 0, 6, 5], [11, 9, 10, 8, 4, 7, 3, 2, 1, 0, 6, 5], [12, 9, 11, 10, 8, 4, 7, 3, 2, 1, 0, 6, 5], [9, 13, 8, 4, 7, 3, 2, 1, 0, 6, 5, 12, 11, 10], [14, 12, 9, 13, 8, 4, 7, 3, 2, 1, 0, 6, 5, 11, 10], [15, 14, 12, 9, 13, 8, 4, 7, 3, 2, 1, 0, 6, 5, 11, 10], [16, 15, 14, 12, 9, 13, 8, 4, 7, 3, 2, 1, 0, 6, 5, 11, 10], [17, 15, 16, 14, 12, 9, 13, 8, 4, 7, 3, 2, 1, 0, 6, 5, 11, 10], [18, 17, 15, 16, 14, 12, 9, 13, 8, 4, 7, 3, 2, 1, 0, 6, 5, 11, 10], [19, 18, 17, 15, 16, 14, 12, 9, 13, 8, 4, 7, 3, 2, 1, 0, 6, 5, 11, 10], [18, 17, 15, 16, 14, 12, 9, 13, 8, 4, 7, 3, 2, 1, 0, 6, 5, 11, 10], [21, 18, 17, 15, 16, 14, 12, 9, 13, 8, 4, 7, 3, 2, 1, 0, 6, 5, 11, 10], [20, 22, 18, 19, 17, 15, 16, 14, 12, 9, 13, 8, 4, 7, 3, 2, 1, 0, 6, 5, 11, 10, 21], [23, 18, 20, 22, 19, 17, 15, 16, 14, 12, 9, 13, 8, 4, 7, 3, 2, 1, 0, 6, 5, 11, 10, 21], [24, 18, 23, 20, 22, 19, 17, 15, 16, 14, 12, 9, 13, 8, 4, 7, 3, 2, 1, 0, 6, 5, 11, 10, 21], [18, 17, 15, 16, 14, 12, 9, 13, 8, 4, 7, 3, 2, 1, 0, 6, 5, 11, 10], [26, 18, 17, 15, 16, 14, 12, 9, 13, 8, 4, 7, 3, 2, 1, 0, 6, 5, 11, 10], [25, 27, 18, 24, 23, 20, 22, 19, 17, 15, 16, 14, 12, 9, 13, 8, 4, 7, 3, 2, 1, 0, 6, 5, 11, 10, 21, 26], [18, 28, 15, 17, 16, 14, 12, 9, 13, 8, 4, 7, 3, 2, 1, 0, 6, 5, 11, 10, 25, 27, 24, 23, 20, 22, 19, 21, 26], [15, 29, 14, 12, 9, 13, 8, 4, 7, 3, 2, 1, 0, 6, 5, 11, 10, 18, 28, 17, 16, 25, 27, 24, 23, 20, 22, 19, 21, 26]])) (.cond (.t 57) (.seq (.reg [⟨(some 2), (.mv (.c (.bool false))), 0, none⟩] none) .ret) .skip)))) (.reg [⟨(some 20), (.mv (.t 3)), 0, none⟩, ⟨(some 21), (.bin .num .add (.t 20) (.c (.int .i64 1))), 0, none⟩, ⟨(some 3), (.mv (.t 21)), 0, none⟩] none)))))) (.seq (.reg [⟨(some 2), (.mv (.c (.bool true))), 0, none⟩] none) .ret))))
def rs_rvalid : List IRes := [(.tmp 2)]
abbrev nt_rvalid : Nat := 58
def T_rvalid : Tab := tab [(86, .pure (preT (fun _ : Int × Unit => true)) (valT (fun x : Int × Unit => coefIn x.1))), (87, .pure (preT (fun _ : Str × Unit => true)) (valT (fun x : Str × Unit => nameB x.1)))]
theorem rvalid_s {G : PV → Prop} (l : Lin) (h : ∃ y0 : Bool, AV.pv (valT (fun (x : Int × Unit) => coefIn x.1) [(.int .i64 l.k)]) = AV.pv (enc y0) ∧ (if (!y0) = true then G ((.bool false)) else (if (decide ((↑(List.length (List.map enc l.t)) : Int) > 12)) = true then G ((.bool false)) else (At T_rvalid 0 (endP' rs_rvalid G) ic_rvalid 0 58 [(1, (.ptr 0 0)), (3, (.pv (.int .i64 0)))] [(.obj (.box [(.pv (.int .i64 l.k)), (.pv (.sl 2 false (List.map enc l.t)))]))])))) : Gets T_rvalid 0 (endP' rs_rvalid G) ic_rvalid [] (st0 58 [enc l]) := Gets.tp (.lit (.abs (Bool) (fun YY => AV.pv (enc YY)) (.ask (.lit (.lit (.lit (.lit (.lit (.nil)))))) (.lit (.lit (.lit (.lit (.lit (.ask (.nil) (.nil)))))))))) h (by kernel_rfl)
theorem rvalid_h0 {G : PV → Prop} (l : Lin) (i : Int) (h : if (decide (i < (↑(List.length (List.map enc l.t)) : Int))) = true then (decide (0 ≤ i) && decide (Int.toNat i < List.length (List.map enc l.t)) && Enc.sz Coef == 2) = true ∧ (∃ y0 : Coef, AV.pv (PV.rptr (PV.cells (List.getD (List.map enc l.t) (Int.toNat i) default))) = AV.pv (PV.rptr (PV.cells ((enc) y0))) ∧ (∃ y1 : Bool, AV.pv (valT (fun (x : Str × Unit) => nameB x.1) [(.str (PV.asStr (List.getD (PV.cells (enc y0)) 0 default)))]) = AV.pv (enc y1) ∧ (if (!y1) = true then G ((.bool false)) else (if (PV.asInt (List.getD (PV.cells (enc y0)) (0 + 1) default) == 0) = true then G ((.bool false)) else (∃ y2 : Bool, AV.pv (valT (fun (x : Int × Unit) => coefIn x.1) [(.int .i64 (PV.asInt (List.getD (PV.cells (enc y0)) (0 + 1) default)))]) = AV.pv (enc y2) ∧ (if (!y2) = true then G ((.bool false)) else (if (decide (i > 0)) = true then (decide (0 ≤ IntKind.wrap IntKind.i64 (i - 1)) && decide (Int.toNat (IntKind.wrap IntKind.i64 (i - 1)) < List.length (List.map enc l.t)) && Enc.sz Coef == 2) = true ∧ (∃ y3 : Coef, AV.pv (PV.rptr (PV.cells (List.getD (List.map enc l.t) (Int.toNat (IntKind.wrap IntKind.i64 (i - 1))) default))) = AV.pv (PV.rptr (PV.cells ((enc) y3))) ∧ (if (!Op.bytesLess (PV.asStr (List.getD (List.drop 0 (PV.cells (enc y3))) 0 default)) (PV.asStr (List.getD (PV.cells (enc y0)) 0 default))) = true then G ((.bool false)) else (At T_rvalid 0 (endP' rs_rvalid G) ic_rvalid 0 58 [(1, (.ptr 0 0)), (3, (.pv (.int .i64 (IntKind.wrap IntKind.i64 (i + 1)))))] [(.obj (.box [(.pv (.int .i64 l.k)), (.pv (.sl 2 false (List.map enc l.t)))]))]))) else (At T_rvalid 0 (endP' rs_rvalid G) ic_rvalid 0 58 [(1, (.ptr 0 0)), (3, (.pv (.int .i64 (IntKind.wrap IntKind.i64 (i + 1)))))] [(.obj (.box [(.pv (.int .i64 l.k)), (.pv (.sl 2 false (List.map enc l.t)))]))])))))))) else (G ((.bool true)))) : At T_rvalid 0 (endP' rs_rvalid G) ic_rvalid 0 58 [(1, .ptr 0 0), (3, .pv (.int .i64 i))] [.obj (.box [.pv (.int .i64 l.k), .pv (enc l.t)])] := At.tp (.lit (.ask (.req (.abs (Coef) (fun YY => AV.pv (PV.rptr (PV.cells ((enc) YY)))) (.lit (.lit (.abs (Bool) (fun YY => AV.pv (enc YY)) (.ask (.lit (.lit (.lit (.lit (.lit (.lit (.lit (.lit (.lit (.lit (.lit (.lit (.lit (.lit (.nil))))))))))))))) (.lit (.lit (.lit (.lit (.ask (.lit (.lit (.lit (.lit (.lit (.lit (.lit (.lit (.lit (.lit (.nil))))))))))) (.lit (.lit (.lit (.abs (Bool) (fun YY => AV.pv (enc YY)) (.lit (.lit (.ask (.lit (.lit (.lit (.lit (.lit (.nil)))))) (.lit (.lit (.lit (.ask (.lit (.lit (.lit (.lit (.lit (.req (.abs (Coef) (fun YY => AV.pv (PV.rptr (PV.cells ((enc) YY)))) (.lit (.lit (.lit (.lit (.lit (.lit (.lit (.lit (.lit (.lit (.ask (.nil) (.lit (.nil)))))))))))))))))))) (.lit (.lit (.lit (.lit (.lit (.lit (.lit (.lit (.lit (.lit (.lit (.lit (.lit (.lit (.nil))))))))))))))))))))))))))))))))))))) (.nil))) h (by kernel_rfl)
def ic_rfew : IC := (.seq (.reg [⟨(some 2), (.box 2 (.t 0)), 0, none⟩, ⟨(some 4), (.mv (.c (.bool false))), 1, none⟩] none) (.seq (.seq (.reg [⟨(some 5), (.mv (.c (.int .i64 0))), 0, none⟩] none) (.block 0 (.loop [5, 2, 1] (.seq (.seq (.reg [⟨(some 6), (.mv (.t 5)), 0, none⟩, ⟨(some 7), (.faddr 1 (.t 2)), 0, none⟩, ⟨(some 8), (.load false [(.sl 2)] (.t 7)), 0, none⟩, ⟨(some 9), (.len 1 (.t 8)), 0, none⟩, ⟨(some 10), (.bin .num .lss (.t 6) (.t 9)), 0, none⟩] none) (.cond (.t 10) .skip (.exit 0))) (.seq (.block 1 (.seq (.reg [⟨(some 13), (.faddr 1 (.t 2)), 0, none⟩, ⟨(some 14), (.load false [(.sl 2)] (.t 13)), 0, none⟩, ⟨(some 15), (.mv (.t 5)), 0, none⟩, ⟨(some 16), (.iaddr 2 (.t 14) (.t 15)), 0, none⟩, ⟨(some 17), (.faddr 0 (.t 16)), 0, none⟩, ⟨(some 18), (.load false [.str] (.t 17)), 0, none⟩, ⟨(some 19), (.len 0 (.t 18)), 0, none⟩, ⟨(some 20), (.bin .num .gtr (.t 19) (.c (.int .i64 40))), 0, none⟩] none) (.cond (.t 20) (.seq (.reg [⟨(some 4), (.mv (.c (.bool false))), 0, none⟩] none) .ret) .skip))) (.reg [⟨(some 11), (.mv (.t 5)), 0, none⟩, ⟨(some 12), (.bin .num .add (.t 11) (.c (.int .i64 1))), 0, none⟩, ⟨(some 5), (.mv (.t 12)), 0, none⟩] none)))))) (.seq (.reg [⟨(some 21), (.faddr 1 (.t 2)), 0, none⟩, ⟨(some 22), (.load false [(.sl 2)] (.t 21)), 0, none⟩, ⟨(some 23), (.len 1 (.t 22)), 0, none⟩, ⟨(some 24), (.mv (.t 1)), 0, none⟩, ⟨(some 25), (.bin .num .leq (.t 23) (.t 24)), 0, none⟩, ⟨(some 4), (.mv (.t 25)), 0, none⟩] none) .ret)))
def rs_rfew : List IRes := [(.tmp 4)]
abbrev nt_rfew : Nat := 26
def T_rfew : Tab := tab []
theorem rfew_s {G : PV → Prop} (l : Lin) (n : Int) (h : At T_rfew 0 (endP' rs_rfew G) ic_rfew 0 26 [(1, (.pv (.int .i64 n))), (2, (.ptr 0 0)), (5, (.pv (.int .i64 0)))] [(.obj (.box [(.pv (.int .i64 l.k)), (.pv (.sl 2 false (List.map enc l.t)))]))]) : Gets T_rfew 0 (endP' rs_rfew G) ic_rfew [] (st0 26 [enc l, enc n]) := Gets.tp (.nil) h (by kernel_rfl)
theorem rfew_h0 {G : PV → Prop} (l : Lin) (n : Int) (i : Int) (h : if (decide (i < (↑(List.length (List.map enc l.t)) : Int))) = true then (decide (0 ≤ i) && decide (Int.toNat i < List.length (List.map enc l.t)) && Enc.sz Coef == 2) = true ∧ (∃ y0 : Coef, AV.pv (PV.rptr (PV.cells (List.getD (List.map enc l.t) (Int.toNat i) default))) = AV.pv (PV.rptr (PV.cells ((enc) y0))) ∧ (if (decide ((↑(List.length (PV.asStr (List.getD (List.drop 0 (PV.cells (enc y0))) 0 default))) : Int) > 40)) = true then G ((.bool false)) else (At T_rfew 0 (endP' rs_rfew G) ic_rfew 0 26 [(1, (.pv (.int .i64 n))), (2, (.ptr 0 0)), (5, (.pv (.int .i64 (IntKind.wrap IntKind.i64 (i + 1)))))] [(.obj (.box [(.pv (.int .i64 l.k)), (.pv (.sl 2 false (List.map enc l.t)))]))]))) else (G ((.bool (decide ((↑(List.length (List.map enc l.t)) : Int) ≤ n)))))) : At T_rfew 0 (endP' rs_rfew G) ic_rfew 0 26 [(1, .pv (.int .i64 n)), (2, .ptr 0 0), (5, .pv (.int .i64 i))] [.obj (.box [.pv (.int .i64 l.k), .pv (enc l.t)])] := At.tp (.lit (.ask (.req (.abs (Coef) (fun YY => AV.pv (PV.rptr (PV.cells ((enc) YY)))) (.lit (.lit (.ask (.nil) (.lit (.nil))))))) (.lit (.nil)))) h (by kernel_rfl)
-- IMPOSSIBLE
def ic_rcmp : IC := (.seq (.reg [⟨(some 2), (.box 2 (.t 0)), 0, none⟩, ⟨(some 3), (.box 2 (.t 1)), 1, none⟩, ⟨(some 4), (.mv (.c (.int .i64 0))), 2, none⟩] none) (.seq (.seq (.reg [⟨(some 5), (.mv (.c (.int .i64 0))), 0, none⟩] none) (.block 0 (.loop [5, 2, 3] (.seq (.seq (.reg [⟨(some 8), (.mv (.t 5)), 0, none⟩, ⟨(some 9), (.faddr 1 (.t 2)), 0, none⟩, ⟨(some 10), (.load false [(.sl 2)] (.t 9)), 0, none⟩, ⟨(some 11), (.len 1 (.t 10)), 0, none⟩, ⟨(some 12), (.bin .num .lss (.t 8) (.t 11)), 0, none⟩, ⟨(some 13), (.mv (.t 12)), 0, none⟩, ⟨(some 14), (.mv (.t 5)), 0, (some (13, true))⟩, ⟨(some 15), (.faddr 1 (.t 3)), 0, (some (13, true))⟩, ⟨(some 16), (.load false [(.sl 2)] (.t 15)), 0, (some (13, true))⟩, ⟨(some 17), (.len 1 (.t 16)), 0, (some (13, true))⟩, ⟨(some 18), (.bin .num .lss (.t 14) (.t 17)), 0, (some (13, true))⟩, ⟨(some 19), (.pick (.t 13) (.t 18) (.c (.bool false))), 0, none⟩] none) (.cond (.t 19) .skip (.exit 0))) (.seq (.block 1 (.seq (.reg [⟨(some 22), (.faddr 1 (.t 2)), 0, none⟩, ⟨(some 23), (.load false [(.sl 2)] (.t 22)), 0, none⟩, ⟨(some 24), (.mv (.t 5)), 0, none⟩, ⟨(some 25), (.iaddr 2 (.t 23) (.t 24)), 0, none⟩, ⟨(some 26), (.load true [.str, (.int .i64)] (.t 25)), 0, none⟩, ⟨(some 27), (.faddr 1 (.t 3)), 0, none⟩, ⟨(some 28), (.load false [(.sl 2)] (.t 27)), 0, none⟩, ⟨(some 29), (.mv (.t 5)), 0, none⟩, ⟨(some 30), (.iaddr 2 (.t 28) (.t 29)), 0, none⟩, ⟨(some 31), (.load true [.str, (.int .i64)] (.t 30)), 0, none⟩, ⟨(some 6), (.alloc (.agg [(.str []), (.int .i64 0)])), 0, none⟩, ⟨(some 7), (.alloc (.agg [(.str []), (.int .i64 0)])), 1, none⟩, ⟨none, (.store 2 (.t 6) (.t 26)), 2, none⟩, ⟨none, (.store 2 (.t 7) (.t 31)), 2, none⟩] (some [[], [0], [], [1, 2, 0], [3, 1, 2, 0], [], [5], [], [6, 7, 5], [8, 6, 7, 5], [], [], [10, 4, 0, 1, 2, 3, 11], [11, 9, 12, 0, 1, 2, 3, 4, 5, 6, 7, 8, 10]])) (.block 2 (.seq (.reg [⟨(some 33), (.faddr 0 (.t 6)), 0, none⟩, ⟨(some 34), (.load false [.str] (.t 33)), 0, none⟩, ⟨(some 35), (.faddr 0 (.t 7)), 0, none⟩, ⟨(some 36), (.load false [.str] (.t 35)), 0, none⟩, ⟨(some 37), (.bin .num .lss (.t 34) (.t 36)), 0, none⟩, ⟨(some 38), (.mv (.t 37)), 0, none⟩, ⟨(some 39), (.faddr 0 (.t 6)), 0, (some (38, false))⟩, ⟨(some 40), (.load false [.str] (.t 39)), 0, (some (38, false))⟩, ⟨(some 41), (.faddr 0 (.t 7)), 0, (some (38, false))⟩, ⟨(some 42), (.load false [.str] (.t 41)), 0, (some (38, false))⟩, ⟨(some 43), (.bin .num .eql (.t 40) (.t 42)), 0, (some (38, false))⟩, ⟨(some 44), (.mv (.t 43)), 0, (some (38, false))⟩, ⟨(some 45), (.faddr 1 (.t 6)), 0, (some (44, true))⟩, ⟨(some 46), (.load false [(.int .i64)] (.t 45)), 0, (some (44, true))⟩, ⟨(some 47), (.faddr 1 (.t 7)), 0, (some (44, true))⟩, ⟨(some 48), (.load false [(.int .i64)] (.t 47)), 0, (some (44, true))⟩, ⟨(some 49), (.bin .num .lss (.t 46) (.t 48)), 0, (some (44, true))⟩, ⟨(some 50), (.pick (.t 44) (.t 49) (.c (.bool false))), 0, (some (38, false))⟩, ⟨(some 51), (.pick (.t 38) (.c (.bool true)) (.t 50)), 0, none⟩, ⟨(some 32), (.mv (.t 51)), 0, none⟩] none) (.cond (.t 32) (.seq (.reg [⟨(some 4), (.mv (.c (.int .i64 (-1)))), 0, none⟩] none) .ret) (.seq (.reg [⟨(some 53), (.load true [.str, (.int .i64)] (.t 6)), 0, none⟩, ⟨(some 54), (.load true [.str, (.int .i64)] (.t 7)), 0, none⟩, ⟨(some 55), (.bin (.agg [1, 0]) .neq (.t 53) (.t 54)), 0, none⟩, ⟨(some 52), (.mv (.t 55)), 0, none⟩] none) (.cond (.t 52) (.seq (.reg [⟨(some 4), (.mv (.c (.int .i64 1))), 0, none⟩] none) .ret) .skip))))))) (.reg [⟨(some 20), (.mv (.t 5)), 0, none⟩, ⟨(some 21), (.bin .num .add (.t 20) (.c (.int .i64 1))), 0, none⟩, ⟨(some 5), (.mv (.t 21)), 0, none⟩] none)))))) (.seq (.block 3 (.seq (.reg [⟨(some 57), (.faddr 1 (.t 2)), 0, none⟩, ⟨(some 58), (.load false [(.sl 2)] (.t 57)), 0, none⟩, ⟨(some 59), (.len 1 (.t 58)), 0, none⟩, ⟨(some 60), (.faddr 1 (.t 3)), 0, none⟩, ⟨(some 61), (.load false [(.sl 2)] (.t 60)), 0, none⟩, ⟨(some 62), (.len 1 (.t 61)), 0, none⟩, ⟨(some 63), (.bin .num .lss (.t 59) (.t 62)), 0, none⟩, ⟨(some 64), (.mv (.t 63)), 0, none⟩, ⟨(some 65), (.faddr 1 (.t 2)), 0, (some (64, false))⟩, ⟨(some 66), (.load false [(.sl 2)] (.t 65)), 0, (some (64, false))⟩, ⟨(some 67), (.len 1 (.t 66)), 0, (some (64, false))⟩, ⟨(some 68), (.faddr 1 (.t 3)), 0, (some (64, false))⟩, ⟨(some 69), (.load false [(.sl 2)] (.t 68)), 0, (some (64, false))⟩, ⟨(some 70), (.len 1 (.t 69)), 0, (some (64, false))⟩, ⟨(some 71), (.bin .num .eql (.t 67) (.t 70)), 0, (some (64, false))⟩, ⟨(some 72), (.mv (.t 71)), 0, (some (64, false))⟩, ⟨(some 73), (.faddr 0 (.t 2)), 0, (some (72, true))⟩, ⟨(some 74), (.load false [(.int .i64)] (.t 73)), 0, (some (72, true))⟩, ⟨(some 75), (.faddr 0 (.t 3)), 0, (some (72, true))⟩, ⟨(some 76), (.load false [(.int .i64)] (.t 75)), 0, (some (72, true))⟩, ⟨(some 77), (.bin .num .lss (.t 74) (.t 76)), 0, (some (72, true))⟩, ⟨(some 78), (.pick (.t 72) (.t 77) (.c (.bool false))), 0, (some (64, false))⟩, ⟨(some 79), (.pick (.t 64) (.c (.bool true)) (.t 78)), 0, none⟩, ⟨(some 56), (.mv (.t 79)), 0, none⟩] none) (.cond (.t 56) (.seq (.reg [⟨(some 4), (.mv (.c (.int .i64 (-1)))), 0, none⟩] none) .ret) (.seq (.reg [⟨(some 81), (.faddr 1 (.t 2)), 0, none⟩, ⟨(some 82), (.load false [(.sl 2)] (.t 81)), 0, none⟩, ⟨(some 83), (.len 1 (.t 82)), 0, none⟩, ⟨(some 84), (.faddr 1 (.t 3)), 0, none⟩, ⟨(some 85), (.load false [(.sl 2)] (.t 84)), 0, none⟩, ⟨(some 86), (.len 1 (.t 85)), 0, none⟩, ⟨(some 87), (.bin .num .gtr (.t 83) (.t 86)), 0, none⟩, ⟨(some 88), (.mv (.t 87)), 0, none⟩, ⟨(some 89), (.faddr 0 (.t 2)), 0, (some (88, false))⟩, ⟨(some 90), (.load false [(.int .i64)] (.t 89)), 0, (some (88, false))⟩, ⟨(some 91), (.faddr 0 (.t 3)), 0, (some (88, false))⟩, ⟨(some 92), (.load false [(.int .i64)] (.t 91)), 0, (some (88, false))⟩, ⟨(some 93), (.bin .num .gtr (.t 90) (.t 92)), 0, (some (88, false))⟩, ⟨(some 94), (.pick (.t 88) (.c (.bool true)) (.t 93)), 0, none⟩, ⟨(some 80), (.mv (.t 94)), 0, none⟩] none) (.cond (.t 80) (.seq (.reg [⟨(some 4), (.mv (.c (.int .i64 1))), 0, none⟩] none) .ret) .skip))))) (.seq (.reg [⟨(some 4), (.mv (.c (.int .i64 0))), 0, none⟩] none) .ret))))
def rs_rcmp : List IRes := [(.tmp 4)]
abbrev nt_rcmp : Nat := 95
def T_rcmp : Tab := tab []
theorem rcmp_s {G : PV → Prop} (a b : Lin) (h : At T_rcmp 0 (endP' rs_rcmp G) ic_rcmp 0 95 [(2, (.ptr 0 0)), (3, (.ptr 1 0)), (5, (.pv (.int .i64 0)))] [(.obj (.box [(.pv (.int .i64 a.k)), (.pv (.sl 2 false (List.map enc a.t)))])), (.obj (.box [(.pv (.int .i64 b.k)), (.pv (.sl 2 false (List.map enc b.t)))]))]) : Gets T_rcmp 0 (endP' rs_rcmp G) ic_rcmp [] (st0 95 [enc a, enc b]) := Gets.tp (.nil) h (by kernel_rfl)
theorem rcmp_h0 {G : PV → Prop} (a b : Lin) (i : Int) (h : if (decide (i < (↑(List.length (List.map enc a.t)) : Int))) = true then if (decide (i < (↑(List.length (List.map enc b.t)) : Int))) = true then (decide (0 ≤ i) && decide (Int.toNat i < List.length (List.map enc a.t)) && Enc.sz Coef == 2) = true ∧ (∃ y0 : Coef, AV.pv (PV.rptr (PV.cells (List.getD (List.map enc a.t) (Int.toNat i) default))) = AV.pv (PV.rptr (PV.cells ((enc) y0))) ∧ ((decide (0 ≤ i) && decide (Int.toNat i < List.length (List.map enc b.t)) && Enc.sz Coef == 2) = true ∧ (∃ y1 : Coef, AV.pv (PV.rptr (PV.cells (List.getD (List.map enc b.t) (Int.toNat i) default))) = AV.pv (PV.rptr (PV.cells ((enc) y1))) ∧ (if (Op.bytesLess (PV.asStr (List.getD (PV.cells (enc y0)) 0 default)) (PV.asStr (List.getD (PV.cells (enc y1)) 0 default))) = true then G ((.int .i64 (-1))) else (if (PV.asStr (List.getD (PV.cells (enc y0)) 0 default) == PV.asStr (List.getD (PV.cells (enc y1)) 0 default)) = true then if (decide (PV.asInt (List.getD (PV.cells (enc y0)) (0 + 1) default) < PV.asInt (List.getD (PV.cells (enc y1)) (0 + 1) default))) = true then G ((.int .i64 (-1))) else (if (!(PV.asStr (List.getD (PV.cells (enc y0)) 0 default) == PV.asStr (List.getD (PV.cells (enc y1)) 0 default) && (PV.asInt (List.getD (PV.cells (enc y0)) (0 + 1) default) == PV.asInt (List.getD (PV.cells (enc y1)) (0 + 1) default) && true))) = true then G ((.int .i64 1)) else (At T_rcmp 0 (endP' rs_rcmp G) ic_rcmp 0 95 [(2, (.ptr 0 0)), (3, (.ptr 1 0)), (5, (.pv (.int .i64 (IntKind.wrap IntKind.i64 (i + 1)))))] [(.obj (.box [(.pv (.int .i64 a.k)), (.pv (.sl 2 false (List.map enc a.t)))])), (.obj (.box [(.pv (.int .i64 b.k)), (.pv (.sl 2 false (List.map enc b.t)))]))])) else (if (!(PV.asStr (List.getD (PV.cells (enc y0)) 0 default) == PV.asStr (List.getD (PV.cells (enc y1)) 0 default) && (PV.asInt (List.getD (PV.cells (enc y0)) (0 + 1) default) == PV.asInt (List.getD (PV.cells (enc y1)) (0 + 1) default) && true))) = true then G ((.int .i64 1)) else (At T_rcmp 0 (endP' rs_rcmp G) ic_rcmp 0 95 [(2, (.ptr 0 0)), (3, (.ptr 1 0)), (5, (.pv (.int .i64 (IntKind.wrap IntKind.i64 (i + 1)))))] [(.obj (.box [(.pv (.int .i64 a.k)), (.pv (.sl 2 false (List.map enc a.t)))])), (.obj (.box [(.pv (.int .i64 b.k)), (.pv (.sl 2 false (List.map enc b.t)))]))]))))))) else (if (decide ((↑(List.length (List.map enc a.t)) : Int) < (↑(List.length (List.map enc b.t)) : Int))) = true then G ((.int .i64 (-1))) else (if ((↑(List.length (List.map enc a.t)) : Int) == (↑(List.length (List.map enc b.t)) : Int)) = true then if (decide (a.k < b.k)) = true then G ((.int .i64 (-1))) else (if (decide ((↑(List.length (List.map enc a.t)) : Int) > (↑(List.length (List.map enc b.t)) : Int))) = true then G ((.int .i64 1)) else (if (decide (a.k > b.k)) = true then G ((.int .i64 1)) else (G ((.int .i64 0))))) else (if (decide ((↑(List.length (List.map enc a.t)) : Int) > (↑(List.length (List.map enc b.t)) : Int))) = true then G ((.int .i64 1)) else (if (decide (a.k > b.k)) = true then G ((.int .i64 1)) else (G ((.int .i64 0))))))) else (if (decide ((↑(List.length (List.map enc a.t)) : Int) < (↑(List.length (List.map enc b.t)) : Int))) = true then G ((.int .i64 (-1))) else (if ((↑(List.length (List.map enc a.t)) : Int) == (↑(List.length (List.map enc b.t)) : Int)) = true then if (decide (a.k < b.k)) = true then G ((.int .i64 (-1))) else (if (decide ((↑(List.length (List.map enc a.t)) : Int) > (↑(List.length (List.map enc b.t)) : Int))) = true then G ((.int .i64 1)) else (if (decide (a.k > b.k)) = true then G ((.int .i64 1)) else (G ((.int .i64 0))))) else (if (decide ((↑(List.length (List.map enc a.t)) : Int) > (↑(List.length (List.map enc b.t)) : Int))) = true then G ((.int .i64 1)) else (if (decide (a.k > b.k)) = true then G ((.int .i64 1)) else (G ((.int .i64 0)))))))) : At T_rcmp 0 (endP' rs_rcmp G) ic_rcmp 0 95 [(2, .ptr 0 0), (3, .ptr 1 0), (5, .pv (.int .i64 i))] [.obj (.box [.pv (.int .i64 a.k), .pv (enc a.t)]), .obj (.box [.pv (.int .i64 b.k), .pv (enc b.t)])] := At.tp (.lit (.ask (.lit (.lit (.lit (.lit (.lit (.lit (.ask (.req (.abs (Coef) (fun YY => AV.pv (PV.rptr (PV.cells ((enc) YY)))) (.lit (.req (.abs (Coef) (fun YY => AV.pv (PV.rptr (PV.cells ((enc) YY)))) (.lit (.lit (.ask (.lit (.lit (.lit (.lit (.lit (.lit (.lit (.lit (.nil))))))))) (.lit (.lit (.lit (.lit (.lit (.lit (.ask (.lit (.lit (.lit (.lit (.lit (.lit (.lit (.lit (.ask (.nil) (.lit (.ask (.nil) (.lit (.nil))))))))))))) (.lit (.lit (.lit (.lit (.lit (.lit (.lit (.lit (.lit (.ask (.nil) (.lit (.nil))))))))))))))))))))))))))) (.lit (.ask (.lit (.lit (.lit (.lit (.lit (.lit (.lit (.lit (.lit (.lit (.nil))))))))))) (.lit (.lit (.lit (.lit (.lit (.lit (.lit (.lit (.ask (.lit (.lit (.lit (.lit (.lit (.lit (.lit (.lit (.ask (.nil) (.lit (.ask (.lit (.lit (.lit (.lit (.lit (.lit (.nil))))))) (.lit (.lit (.lit (.lit (.lit (.lit (.ask (.nil) (.nil))))))))))))))))))) (.lit (.lit (.lit (.lit (.lit (.lit (.lit (.lit (.lit (.ask (.lit (.lit (.lit (.lit (.lit (.lit (.nil))))))) (.lit (.lit (.lit (.lit (.lit (.lit (.ask (.nil) (.nil)))))))))))))))))))))))))))))))))))) (.lit (.lit (.lit (.lit (.lit (.lit (.lit (.ask (.lit (.lit (.lit (.lit (.lit (.lit (.lit (.lit (.lit (.lit (.nil))))))))))) (.lit (.lit (.lit (.lit (.lit (.lit (.lit (.lit (.ask (.lit (.lit (.lit (.lit (.lit (.lit (.lit (.lit (.ask (.nil) (.lit (.ask (.lit (.lit (.lit (.lit (.lit (.lit (.nil))))))) (.lit (.lit (.lit (.lit (.lit (.lit (.ask (.nil) (.nil))))))))))))))))))) (.lit (.lit (.lit (.lit (.lit (.lit (.lit (.lit (.lit (.ask (.lit (.lit (.lit (.lit (.lit (.lit (.nil))))))) (.lit (.lit (.lit (.lit (.lit (.lit (.ask (.nil) (.nil))))))))))))))))))))))))))))))))))))) h (by kernel_rfl)
def ic_req : IC := (.seq (.reg [⟨(some 2), (.box 2 (.t 0)), 0, none⟩, ⟨(some 3), (.box 2 (.t 1)), 1, none⟩, ⟨(some 4), (.mv (.c (.bool false))), 2, none⟩] none) (.seq (.reg [⟨(some 5), (.load true [(.int .i64), (.sl 2)] (.t 2)), 0, none⟩, ⟨(some 6), (.load true [(.int .i64), (.sl 2)] (.t 3)), 0, none⟩, ⟨(some 7), (.call (.c (.fn 40)) [(.t 5), (.t 6)]), 0, none⟩, ⟨(some 8), (.bin .num .eql (.t 7) (.c (.int .i64 0))), 2, none⟩, ⟨(some 4), (.mv (.t 8)), 2, none⟩] none) .ret))
def rs_req : List IRes := [(.tmp 4)]
abbrev nt_req : Nat := 9
def T_req : Tab := tab [(40, .pure (preT (fun x : Lin × Lin × Unit => linOk x.1)) (valT (fun x : Lin × Lin × Unit => cmpL x.1 x.2.1)))]
theorem req_s {G : PV → Prop} (a b : Lin) (h : (Go.Pl.preT (fun (x : Lin × Lin × Unit) => linOk x.1) [(.agg [(.int .i64 a.k), (.sl 2 false (List.map enc a.t))]), (.agg [(.int .i64 b.k), (.sl 2 false (List.map enc b.t))])]) = true ∧ (∃ y0 : Int, AV.pv (valT (fun (x : Lin × Lin × Unit) => cmpL x.1 x.2.1) [(.agg [(.int .i64 a.k), (.sl 2 false (List.map enc a.t))]), (.agg [(.int .i64 b.k), (.sl 2 false (List.map enc b.t))])]) = AV.pv (enc y0) ∧ (G ((.bool (y0 == 0)))))) : Gets T_req 0 (endP' rs_req G) ic_req [] (st0 9 [enc a, enc b]) := Gets.tp (.req (.abs (Int) (fun YY => AV.pv (enc YY)) (.lit (.nil)))) h (by kernel_rfl)
def ic_reval : IC := (.seq (.reg [⟨(some 2), (.box 2 (.t 0)), 0, none⟩, ⟨(some 4), (.mv (.c (.int .i64 0))), 1, none⟩, ⟨(some 5), (.mv (.c (.int .i64 0))), 1, none⟩] none) (.seq (.seq (.reg [⟨(some 10), (.load true [(.int .i64), (.sl 2)] (.t 2)), 0, none⟩, ⟨(some 11), (.call (.c (.fn 36)) [(.t 10)]), 0, none⟩, ⟨(some 12), (.un .not (.t 11)), 2, none⟩] none) (.cond (.t 12) (.seq (.reg [⟨(some 4), (.mv (.c (.int .i64 0))), 0, none⟩, ⟨(some 5), (.mv (.c (.int .i64 1))), 0, none⟩] none) .ret) .skip)) (.seq (.reg [⟨(some 13), (.faddr 0 (.t 2)), 0, none⟩, ⟨(some 14), (.load false [(.int .i64)] (.t 13)), 0, none⟩, ⟨(some 6), (.mv (.t 14)), 0, none⟩] none) (.seq (.seq (.reg [⟨(some 7), (.mv (.c (.int .i64 0))), 0, none⟩] none) (.block 0 (.loop [7, 2, 1, 6] (.seq (.seq (.reg [⟨(some 15), (.mv (.t 7)), 0, none⟩, ⟨(some 16), (.faddr 1 (.t 2)), 0, none⟩, ⟨(some 17), (.load false [(.sl 2)] (.t 16)), 0, none⟩, ⟨(some 18), (.len 1 (.t 17)), 0, none⟩, ⟨(some 19), (.bin .num .lss (.t 15) (.t 18)), 0, none⟩] none) (.cond (.t 19) .skip (.exit 0))) (.seq (.block 1 (.seq (.reg [⟨(some 8), (.mv (.c (.int .i64 0))), 0, none⟩] none) (.seq (.block 2 (.loop [8, 1, 2, 7, 6] (.seq (.seq (.reg [⟨(some 22), (.mv (.t 8)), 0, none⟩, ⟨(some 23), (.mv (.t 1)), 0, none⟩, ⟨(some 24), (.len 1 (.t 23)), 0, none⟩, ⟨(some 25), (.bin .num .lss (.t 22) (.t 24)), 0, none⟩, ⟨(some 26), (.mv (.t 25)), 0, none⟩, ⟨(some 27), (.mv (.t 1)), 0, (some (26, true))⟩, ⟨(some 28), (.mv (.t 8)), 0, (some (26, true))⟩, ⟨(some 29), (.iaddr 2 (.t 27) (.t 28)), 0, (some (26, true))⟩, ⟨(some 30), (.faddr 0 (.t 29)), 0, (some (26, true))⟩, ⟨(some 31), (.load false [.str] (.t 30)), 0, (some (26, true))⟩, ⟨(some 32), (.faddr 1 (.t 2)), 0, (some (26, true))⟩, ⟨(some 33), (.load false [(.sl 2)] (.t 32)), 0, (some (26, true))⟩, ⟨(some 34), (.mv (.t 7)), 0, (some (26, true))⟩, ⟨(some 35), (.iaddr 2 (.t 33) (.t 34)), 0, (some (26, true))⟩, ⟨(some 36), (.faddr 0 (.t 35)), 0, (some (26, true))⟩, ⟨(some 37), (.load false [.str] (.t 36)), 0, (some (26, true))⟩, ⟨(some 38), (.bin .num .neq (.t 31) (.t 37)), 0, (some (26, true))⟩, ⟨(some 39), (.pick (.t 26) (.t 38) (.c (.bool false))), 0, none⟩] (some [[], [], [1], [0, 2, 1], [3, 0, 2, 1], [4, 3, 0, 2, 1], [4, 3, 0, 2, 1], [5, 6, 4, 3, 0, 2, 1], [7, 4, 5, 6, 3, 0, 2, 1], [8, 4, 7, 5, 6, 3, 0, 2, 1], [4, 3, 0, 2, 1], [10, 4, 3, 0, 2, 1], [4, 3, 0, 2, 1], [11, 12, 4, 10, 3, 0, 2, 1], [13, 4, 11, 12, 10, 3, 0, 2, 1], [14, 4, 13, 11, 12, 10, 3, 0, 2, 1], [9, 15, 4, 8, 7, 5, 6, 3, 0, 2, 1, 14, 13, 11, 12, 10], [4, 16, 3, 0, 2, 1, 9, 15, 8, 7, 5, 6, 14, 13, 11, 12, 10]])) (.cond (.t 39) .skip (.exit 2))) (.block 3 (.reg [⟨(some 40), (.mv (.t 8)), 0, none⟩, ⟨(some 41), (.bin .num .add (.t 40) (.c (.int .i64 1))), 0, none⟩, ⟨(some 8), (.mv (.t 41)), 0, none⟩] none))))) (.seq (.seq (.reg [⟨(some 42), (.mv (.t 8)), 0, none⟩, ⟨(some 43), (.mv (.t 1)), 0, none⟩, ⟨(some 44), (.len 1 (.t 43)), 0, none⟩, ⟨(some 45), (.bin .num .eql (.t 42) (.t 44)), 0, none⟩] none) (.cond (.t 45) (.seq (.reg [⟨(some 4), (.mv (.c (.int .i64 0))), 0, none⟩, ⟨(some 5), (.mv (.c (.int .i64 7))), 0, none⟩] none) .ret) .skip)) (.seq (.reg [⟨(some 46), (.mv (.t 1)), 0, none⟩, ⟨(some 47), (.mv (.t 8)), 0, none⟩, ⟨(some 48), (.iaddr 2 (.t 46) (.t 47)), 0, none⟩, ⟨(some 49), (.faddr 1 (.t 48)), 0, none⟩, ⟨(some 50), (.load false [(.int .i64)] (.t 49)), 0, none⟩, ⟨(some 9), (.mv (.t 50)), 0, none⟩] none) (.seq (.seq (.reg [⟨(some 51), (.mv (.t 9)), 0, none⟩, ⟨(some 52), (.bin .num .lss (.t 51) (.c (.int .i64 (-1000000000)))), 0, none⟩, ⟨(some 53), (.mv (.t 52)), 0, none⟩, ⟨(some 54), (.mv (.t 9)), 0, (some (53, false))⟩, ⟨(some 55), (.bin .num .gtr (.t 54) (.c (.int .i64 1000000000))), 0, (some (53, false))⟩, ⟨(some 56), (.pick (.t 53) (.c (.bool true)) (.t 55)), 0, none⟩] none) (.cond (.t 56) (.seq (.reg [⟨(some 4), (.mv (.c (.int .i64 0))), 0, none⟩, ⟨(some 5), (.mv (.c (.int .i64 2))), 0, none⟩] none) .ret) .skip)) (.reg [⟨(some 57), (.mv (.t 6)), 0, none⟩, ⟨(some 58), (.faddr 1 (.t 2)), 0, none⟩, ⟨(some 59), (.load false [(.sl 2)] (.t 58)), 0, none⟩, ⟨(some 60), (.mv (.t 7)), 0, none⟩, ⟨(some 61), (.iaddr 2 (.t 59) (.t 60)), 0, none⟩, ⟨(some 62), (.faddr 1 (.t 61)), 0, none⟩, ⟨(some 63), (.load false [(.int .i64)] (.t 62)), 0, none⟩, ⟨(some 64), (.mv (.t 9)), 0, none⟩, ⟨(some 65), (.bin .num .mul (.t 63) (.t 64)), 0, none⟩, ⟨(some 66), (.bin .num .add (.t 57) (.t 65)), 0, none⟩, ⟨(some 6), (.mv (.t 66)), 0, none⟩] none))))))) (.reg [⟨(some 20), (.mv (.t 7)), 0, none⟩, ⟨(some 21), (.bin .num .add (.t 20) (.c (.int .i64 1))), 0, none⟩, ⟨(some 7), (.mv (.t 21)), 0, none⟩] none)))))) (.seq (.reg [⟨(some 67), (.mv (.t 6)), 0, none⟩, ⟨(some 4), (.mv (.t 67)), 0, none⟩, ⟨(some 5), (.mv (.c (.int .i64 0))), 0, none⟩] none) .ret)))))
def rs_reval : List IRes := [(.tmp 4), (.tmp 5)]
abbrev nt_reval : Nat := 68
def T_reval : Tab := tab [(36, .pure (preT (fun x : Lin × Unit => linOk x.1)) (valT (fun x : Lin × Unit => validL x.1)))]
theorem reval_s {G : PV → Prop} (l : Lin) (v : List Coef) (h : (Go.Pl.preT (fun (x : Lin × Unit) => linOk x.1) [(.agg [(.int .i64 l.k), (.sl 2 false (List.map enc l.t))])]) = true ∧ (∃ y0 : Bool, AV.pv (valT (fun (x : Lin × Unit) => validL x.1) [(.agg [(.int .i64 l.k), (.sl 2 false (List.map enc l.t))])]) = AV.pv (enc y0) ∧ (if (!y0) = true then G ((.tup [(.int .i64 0), (.int .i64 1)])) else (At T_reval 0 (endP' rs_reval G) ic_reval 0 68 [(1, (.pv (.sl 2 false (List.map enc v)))), (2, (.ptr 0 0)), (6, (.pv (.int .i64 l.k))), (7, (.pv (.int .i64 0)))] [(.obj (.box [(.pv (.int .i64 l.k)), (.pv (.sl 2 false (List.map enc l.t)))]))])))) : Gets T_reval 0 (endP' rs_reval G) ic_reval [] (st0 68 [enc l, enc v]) := Gets.tp (.req (.abs (Bool) (fun YY => AV.pv (enc YY)) (.ask (.nil) (.nil)))) h (by kernel_rfl)
theorem reval_h0 {G : PV → Prop} (l : Lin) (v : List Coef) (n i : Int) (h : if (decide (i < (↑(List.length (List.map enc l.t)) : Int))) = true then At T_reval 0 (endP' rs_reval G) ic_reval 1 68 [(1, (.pv (.sl 2 false (List.map enc v)))), (2, (.ptr 0 0)), (6, (.pv (.int .i64 n))), (7, (.pv (.int .i64 i))), (8, (.pv (.int .i64 0)))] [(.obj (.box [(.pv (.int .i64 l.k)), (.pv (.sl 2 false (List.map enc l.t)))]))] else (G ((.tup [(.int .i64 n), (.int .i64 0)])))) : At T_reval 0 (endP' rs_reval G) ic_reval 0 68 [(1, .pv (enc v)), (2, .ptr 0 0), (6, .pv (.int .i64 n)), (7, .pv (.int .i64 i))] [.obj (.box [.pv (.int .i64 l.k), .pv (enc l.t)])] := At.tp (.lit (.ask (.nil) (.nil))) h (by kernel_rfl)
theorem reval_h1 {G : PV → Prop} (l : Lin) (v : List Coef) (n i j : Int) (h : if (decide (j < (↑(List.length (List.map enc v)) : Int))) = true then (decide (0 ≤ j) && decide (Int.toNat j < List.length (List.map enc v)) && Enc.sz Coef == 2) = true ∧ (∃ y0 : Coef, AV.pv (PV.rptr (PV.cells (List.getD (List.map enc v) (Int.toNat j) default))) = AV.pv (PV.rptr (PV.cells ((enc) y0))) ∧ ((decide (0 ≤ i) && decide (Int.toNat i < List.length (List.map enc l.t)) && Enc.sz Coef == 2) = true ∧ (∃ y1 : Coef, AV.pv (PV.rptr (PV.cells (List.getD (List.map enc l.t) (Int.toNat i) default))) = AV.pv (PV.rptr (PV.cells ((enc) y1))) ∧ (if (!PV.asStr (List.getD (List.drop 0 (PV.cells (enc y0))) 0 default) == PV.asStr (List.getD (List.drop 0 (PV.cells (enc y1))) 0 default)) = true then At T_reval 0 (endP' rs_reval G) ic_reval 1 68 [(1, (.pv (.sl 2 false (List.map enc v)))), (2, (.ptr 0 0)), (6, (.pv (.int .i64 n))), (7, (.pv (.int .i64 i))), (8, (.pv (.int .i64 (IntKind.wrap IntKind.i64 (j + 1)))))] [(.obj (.box [(.pv (.int .i64 l.k)), (.pv (.sl 2 false (List.map enc l.t)))]))] else (if (j == (↑(List.length (List.map enc v)) : Int)) = true then G ((.tup [(.int .i64 0), (.int .i64 7)])) else ((decide (0 ≤ j) && decide (Int.toNat j < List.length (List.map enc v)) && Enc.sz Coef == 2) = true ∧ (∃ y2 : Coef, AV.pv (PV.rptr (PV.cells (List.getD (List.map enc v) (Int.toNat j) default))) = AV.pv (PV.rptr (PV.cells ((enc) y2))) ∧ (if (decide (PV.asInt (List.getD (List.drop 1 (PV.cells (enc y2))) 0 default) < (-1000000000 : Int))) = true then G ((.tup [(.int .i64 0), (.int .i64 2)])) else (if (decide (PV.asInt (List.getD (List.drop 1 (PV.cells (enc y2))) 0 default) > 1000000000)) = true then G ((.tup [(.int .i64 0), (.int .i64 2)])) else ((decide (0 ≤ i) && decide (Int.toNat i < List.length (List.map enc l.t)) && Enc.sz Coef == 2) = true ∧ (∃ y3 : Coef, AV.pv (PV.rptr (PV.cells (List.getD (List.map enc l.t) (Int.toNat i) default))) = AV.pv (PV.rptr (PV.cells ((enc) y3))) ∧ (At T_reval 0 (endP' rs_reval G) ic_reval 0 68 [(1, (.pv (.sl 2 false (List.map enc v)))), (2, (.ptr 0 0)), (6, (.pv (.int .i64 (IntKind.wrap IntKind.i64 (n + IntKind.wrap IntKind.i64 (PV.asInt (List.getD (List.drop 1 (PV.cells (enc y3))) 0 default) * PV.asInt (List.getD (List.drop 1 (PV.cells (enc y2))) 0 default))))))), (7, (.pv (.int .i64 (IntKind.wrap IntKind.i64 (i + 1)))))] [(.obj (.box [(.pv (.int .i64 l.k)), (.pv (.sl 2 false (List.map enc l.t)))]))])))))))))))) else (if (j == (↑(List.length (List.map enc v)) : Int)) = true then G ((.tup [(.int .i64 0), (.int .i64 7)])) else ((decide (0 ≤ j) && decide (Int.toNat j < List.length (List.map enc v)) && Enc.sz Coef == 2) = true ∧ (∃ y4 : Coef, AV.pv (PV.rptr (PV.cells (List.getD (List.map enc v) (Int.toNat j) default))) = AV.pv (PV.rptr (PV.cells ((enc) y4))) ∧ (if (decide (PV.asInt (List.getD (List.drop 1 (PV.cells (enc y4))) 0 default) < (-1000000000 : Int))) = true then G ((.tup [(.int .i64 0), (.int .i64 2)])) else (if (decide (PV.asInt (List.getD (List.drop 1 (PV.cells (enc y4))) 0 default) > 1000000000)) = true then G ((.tup [(.int .i64 0), (.int .i64 2)])) else ((decide (0 ≤ i) && decide (Int.toNat i < List.length (List.map enc l.t)) && Enc.sz Coef == 2) = true ∧ (∃ y5 : Coef, AV.pv (PV.rptr (PV.cells (List.getD (List.map enc l.t) (Int.toNat i) default))) = AV.pv (PV.rptr (PV.cells ((enc) y5))) ∧ (At T_reval 0 (endP' rs_reval G) ic_reval 0 68 [(1, (.pv (.sl 2 false (List.map enc v)))), (2, (.ptr 0 0)), (6, (.pv (.int .i64 (IntKind.wrap IntKind.i64 (n + IntKind.wrap IntKind.i64 (PV.asInt (List.getD (List.drop 1 (PV.cells (enc y5))) 0 default) * PV.asInt (List.getD (List.drop 1 (PV.cells (enc y4))) 0 default))))))), (7, (.pv (.int .i64 (IntKind.wrap IntKind.i64 (i + 1)))))] [(.obj (.box [(.pv (.int .i64 l.k)), (.pv (.sl 2 false (List.map enc l.t)))]))]))))))))) : At T_reval 0 (endP' rs_reval G) ic_reval 1 68 [(1, .pv (enc v)), (2, .ptr 0 0), (6, .pv (.int .i64 n)), (7, .pv (.int .i64 i)), (8, .pv (.int .i64 j))] [.obj (.box [.pv (.int .i64 l.k), .pv (enc l.t)])] := At.tp (.lit (.ask (.lit (.lit (.req (.abs (Coef) (fun YY => AV.pv (PV.rptr (PV.cells ((enc) YY)))) (.lit (.lit (.lit (.lit (.lit (.lit (.lit (.req (.abs (Coef) (fun YY => AV.pv (PV.rptr (PV.cells ((enc) YY)))) (.lit (.lit (.lit (.lit (.lit (.lit (.ask (.lit (.nil)) (.lit (.ask (.nil) (.req (.abs (Coef) (fun YY => AV.pv (PV.rptr (PV.cells ((enc) YY)))) (.lit (.lit (.ask (.lit (.lit (.lit (.nil)))) (.lit (.lit (.lit (.ask (.nil) (.req (.abs (Coef) (fun YY => AV.pv (PV.rptr (PV.cells ((enc) YY)))) (.lit (.lit (.lit (.lit (.nil)))))))))))))))))))))))))))))))))))))) (.lit (.lit (.lit (.lit (.lit (.lit (.lit (.lit (.lit (.lit (.lit (.lit (.lit (.lit (.ask (.nil) (.req (.abs (Coef) (fun YY => AV.pv (PV.rptr (PV.cells ((enc) YY)))) (.lit (.lit (.ask (.lit (.lit (.lit (.nil)))) (.lit (.lit (.lit (.ask (.nil) (.req (.abs (Coef) (fun YY => AV.pv (PV.rptr (PV.cells ((enc) YY)))) (.lit (.lit (.lit (.lit (.nil))))))))))))))))))))))))))))))))) h (by kernel_rfl)
end Go.Pl

namespace Go.Pl
open Go.RowKit
open Enc (enc dec is)
open EncL (encL decL isL)
theorem dig_eq (c : UInt8) : digB c = (decide ((c.toNat : Int) ≥ 48) && decide ((c.toNat : Int) ≤ 57)) := by
  simp only [digB, UInt8.le_iff_toNat_le, ge_iff_le]
  have e1 : (48 : UInt8).toNat = 48 := rfl
  have e2 : (57 : UInt8).toNat = 57 := rfl
  rw [e1, e2]
  congr 1 <;> exact decide_eq_decide.2 (by omega)
theorem low_eq (c : UInt8) : lowB c = (decide ((c.toNat : Int) ≥ 97) && decide ((c.toNat : Int) ≤ 122)) := by
  simp only [lowB, UInt8.le_iff_toNat_le, ge_iff_le]
  have e1 : (97 : UInt8).toNat = 97 := rfl
  have e2 : (122 : UInt8).toNat = 122 := rfl
  rw [e1, e2]
  congr 1 <;> exact decide_eq_decide.2 (by omega)
theorem and_if {a b : Bool} {G : PV → Prop} (h : G (.bool (a && b))) : if a = true then G (.bool b) else G (.bool false) := by cases a <;> simpa using h
theorem rdig_run : ∀ a : UInt8 × Unit, true = true → Gets T_rdig 0 (endP' rs_rdig (Fits (digB a.1))) ic_rdig [] (st0 nt_rdig (encL a)) := by
  rintro ⟨c, ⟨⟩⟩ -
  exact rdig_s c (and_if (fitB (dig_eq c).symm))
theorem ldig_run : ∀ a : UInt8 × Unit, true = true → Gets T_ldig 0 (endP' rs_ldig (Fits (digB a.1))) ic_ldig [] (st0 nt_ldig (encL a)) := by
  rintro ⟨c, ⟨⟩⟩ -
  exact ldig_s c (and_if (fitB (dig_eq c).symm))
theorem rlet_run : ∀ a : UInt8 × Unit, true = true → Gets T_rlet 0 (endP' rs_rlet (Fits (lowB a.1))) ic_rlet [] (st0 nt_rlet (encL a)) := by
  rintro ⟨c, ⟨⟩⟩ -
  exact rlet_s c (and_if (fitB (low_eq c).symm))
theorem rsmall_run : ∀ a : Int × Unit, true = true → Gets T_rsmall 0 (endP' rs_rsmall (Fits (coefIn a.1))) ic_rsmall [] (st0 nt_rsmall (encL a)) := by
  rintro ⟨n, ⟨⟩⟩ -
  exact rsmall_s n (and_if (fitB rfl))
theorem lin_run : ∀ a : Int × Unit, true = true → Gets T_lin 0 (endP' rs_lin (Fits (coefIn a.1))) ic_lin [] (st0 nt_lin (encL a)) := by
  rintro ⟨n, ⟨⟩⟩ -
  exact lin_s n (and_if (fitB rfl))
theorem rname_l0 (s : List UInt8) (hs : s.length ≤ 30) : ∀ (j i : Nat), j + i = s.length → At T_rname 0 (endP' rs_rname (Fits ((s.drop i).all digB))) ic_rname 0 62 [(0, .pv (.str s)), (3, .pv (.int .i64 i))] [] := by
  intro j
  induction j with
  | zero =>
    intro i hi
    refine rname_h0 s i ?_
    rw [if_neg (lt_no' (by omega))]
    exact fitB (by rw [List.drop_of_length_le (by omega)]; rfl)
  | succ j ih =>
    intro i hi
    have hlt : i < s.length := by omega
    refine rname_h0 s i ?_
    rw [if_pos (lt_ok' hlt)]
    have eg : List.getD s (Int.toNat (i : Int)) 0 = s[i] := by simp [List.getD, hlt]
    rw [eg, next (by omega)]
    refine ⟨by simp [hlt], pre_enc (s[i], ()) rfl rfl, ex_enc (s[i], ()) rfl ?_⟩
    rw [List.drop_eq_getElem_cons hlt, List.all_cons]
    show if (!digB s[i]) = true then _ else _
    cases hd : digB s[i]
    · exact fitB rfl
    · rw [if_neg (by simp)]
      simpa using ih (i + 1) (by omega)
theorem rname_l1 (s : List UInt8) (hs : s.length ≤ 30) : ∀ (j i : Nat), j + i = s.length → 0 < i → At T_rname 0 (endP' rs_rname (Fits ((s.drop i).all fun c => lowB c || digB c))) ic_rname 1 62 [(0, .pv (.str s)), (4, .pv (.int .i64 i))] [] := by
  intro j
  induction j with
  | zero =>
    intro i hi _
    refine rname_h1 s i ?_
    rw [if_neg (lt_no' (by omega))]
    exact fitB (by rw [List.drop_of_length_le (by omega)]; rfl)
  | succ j ih =>
    intro i hi h0
    have hlt : i < s.length := by omega
    refine rname_h1 s i ?_
    rw [if_pos (lt_ok' hlt)]
    have eg : List.getD s (Int.toNat (i : Int)) 0 = s[i] := by simp [List.getD, hlt]
    rw [eg, next (by omega)]
    refine ⟨by simp [hlt], pre_enc (s[i], ()) rfl rfl, ex_enc (s[i], ()) rfl ?_⟩
    rw [List.drop_eq_getElem_cons hlt, List.all_cons]
    show if (!lowB s[i]) = true then _ else _
    cases hd : lowB s[i]
    · rw [if_nf, if_neg (by simp; omega)]
      refine ⟨by simp [hlt], pre_enc (s[i], ()) rfl rfl, ex_enc (s[i], ()) rfl ?_⟩
      show if (!digB s[i]) = true then _ else _
      cases hd : digB s[i]
      · exact fitB rfl
      · rw [if_neg (by simp)]
        simpa using ih (i + 1) (by omega) (by omega)
    · rw [if_neg (by simp)]
      simpa using ih (i + 1) (by omega) (by omega)
theorem rname_run : ∀ a : Str × Unit, true = true → Gets T_rname 0 (endP' rs_rname (Fits (nameB a.1))) ic_rname [] (st0 nt_rname (encL a)) := by
  rintro ⟨⟨s⟩, ⟨⟩⟩ -
  refine rname_s s ?_
  cases s with
  | nil => exact fitB rfl
  | cons c r =>
    rw [if_neg (by simp; omega)]
    by_cases h30 : ((c :: r).length : Int) > 30
    · rw [if_pos (by simpa using h30)]
      refine fitB ?_
      have : ¬ r.length ≤ 29 := by simp at h30; omega
      have h9 : ¬ r.length ≤ 9 := by omega
      simp [nameB, this, h9]
    · rw [if_neg (by simpa using h30)]
      have hl : (c :: r).length ≤ 30 := by omega
      refine ⟨by simp, ?_⟩
      show if ((c.toNat : Int) == 95) = true then _ else _
      by_cases hc : c = 95
      · subst hc
        rw [if_pos (by rfl)]
        simp only [nameB, if_true]
        cases r with
        | nil => exact fitB rfl
        | cons d r =>
          rw [if_neg (by simp; omega)]
          by_cases h10 : ((95 :: d :: r : List UInt8).length : Int) > 10
          · rw [if_pos (by simpa using h10)]
            refine fitB ?_
            have : decide ((d :: r).length ≤ 9) = false := decide_eq_false (by simp at h10 ⊢; omega)
            rw [this, Bool.and_false]
          · rw [if_neg (by simpa using h10)]
            refine ⟨by simp, ?_⟩
            show if ((d.toNat : Int) == 48) = true then _ else _
            by_cases hd : d = 48
            · subst hd
              rw [if_pos (by rfl)]
              exact fitB (by simp)
            · rw [if_neg (by exact u8_no 48 hd (by omega))]
              have h := rname_l0 (95 :: d :: r) hl (d :: r).length 1 (by simp)
              have e : (d :: r).length ≤ 9 := by simp at h10 ⊢; omega
              have e2 : ((d :: r).all digB && !(d :: r).isEmpty && decide ((d :: r).head? ≠ some 48) && decide ((d :: r).length ≤ 9)) = (d :: r).all digB := by rw [decide_eq_true e, show decide ((d :: r).head? ≠ some (48 : UInt8)) = true by simpa using hd]; simp
              rw [e2]
              exact h
      · rw [if_neg (by exact u8_no 95 hc (by omega))]
        refine rname_h1 (c :: r) 0 ?_
        rw [if_pos (by simp)]
        refine ⟨by simp, pre_enc (c, ()) rfl rfl, ex_enc (c, ()) rfl ?_⟩
        show if (!lowB c) = true then _ else _
        have en : nameB ⟨c :: r⟩ = (lowB c && r.all (fun c => lowB c || digB c)) := by
          have : r.length ≤ 29 := by simp at hl; omega
          simp [nameB, hc, this]
        rw [en]
        cases hlow : lowB c
        · rw [if_nf, if_pos (by rfl)]
          exact fitB rfl
        · rw [if_neg (by simp)]
          exact rname_l1 (c :: r) hl r.length 1 (by simp) (by omega)
end Go.Pl

namespace Go.Pl
open Go.RowKit
open Enc (enc dec is)
open EncL (encL decL isL)
def chkT (prev : Option (List UInt8)) : List Coef → Bool
  | [] => true
  | t :: r => nameB t.v && decide (t.c ≠ 0) && coefIn t.c && (match prev with | none => true | some p => decide (p < t.v.s)) && chkT (some t.v.s) r
theorem chk_cons (p : Option (List UInt8)) (t : Coef) (r : List Coef) : chkT p (t :: r) = (nameB t.v && decide (t.c ≠ 0) && coefIn t.c && (match p with | none => true | some p => decide (p < t.v.s)) && chkT (some t.v.s) r) := by cases p <;> rfl
theorem chk_some : ∀ (l : List Coef) (p : List UInt8), chkT (some p) l = (l.all (fun t => nameB t.v && decide (t.c ≠ 0) && coefIn t.c) && (match l with | [] => true | t :: _ => decide (p < t.v.s)) && ascB l)
  | [], p => by simp [chkT, ascB]
  | t :: r, p => by
    rw [chk_cons, chk_some r]
    cases r with
    | nil => simp [ascB]
    | cons u r =>
      simp only [List.all_cons, ascB]
      ac_rfl
theorem chk_none (l : List Coef) : chkT none l = (l.all (fun t => nameB t.v && decide (t.c ≠ 0) && coefIn t.c) && ascB l) := by
  cases l with
  | nil => simp [chkT, ascB]
  | cons t r =>
    rw [chk_cons, chk_some r]
    cases r with
    | nil => simp [ascB]
    | cons u r =>
      simp only [List.all_cons, ascB, Bool.and_true]
      ac_rfl
theorem valid_eq (l : Lin) : validL l = (coefIn l.k && decide (l.t.length ≤ 12) && chkT none l.t) := by
  rw [chk_none, validL]
  ac_rfl
def pvS (ts : List Coef) : Nat → Option (List UInt8)
  | 0 => none
  | i + 1 => (ts[i]?).map (·.v.s)
theorem pred_ok {k : Nat} (h : k < 9223372036854775807) : IntKind.i64.wrap (((k + 1 : Nat) : Int) - 1) = (k : Int) := by rw [wrap64 (by omega) (by omega)]; omega
theorem rvalid_loop (l : Lin) (hl : l.t.length ≤ 9223372036854775807) : ∀ (j i : Nat), j + i = l.t.length → At T_rvalid 0 (endP' rs_rvalid (Fits (chkT (pvS l.t i) (l.t.drop i)))) ic_rvalid 0 58 [(1, .ptr 0 0), (3, .pv (.int .i64 i))] [.obj (.box [.pv (.int .i64 l.k), .pv (enc l.t)])] := by
  intro j
  induction j with
  | zero =>
    intro i hi
    refine rvalid_h0 l i ?_
    rw [if_neg (lt_no (by omega))]
    exact fitB (by rw [List.drop_of_length_le (by omega)]; rfl)
  | succ j ih =>
    intro i hi
    have hlt : i < l.t.length := by omega
    have h := ih (i + 1) (by omega)
    refine rvalid_h0 l i ?_
    simp only [co1, co2, co3, co4]
    refine iteT (lt_ok hlt) ⟨idx_ok hlt rfl, el_ex hlt (ex_enc (l.t[i].v, ()) rfl (iteN (fun hn => ?_) fun hn => iteE (fun hc => ?_) fun hc => ex_enc (l.t[i].c, ()) rfl (iteN (fun hk => ?_) fun hk => ?_)))⟩
    all_goals rw [List.drop_eq_getElem_cons hlt, chk_cons]
    · have hn : nameB l.t[i].v = false := hn
      exact fitB (by simp [hn])
    · exact fitB (by simp [hc])
    · have hk : coefIn l.t[i].c = false := hk
      exact fitB (by simp [hk])
    have hn : nameB l.t[i].v = true := hn
    have hk : coefIn l.t[i].c = true := hk
    rw [next (by omega), hn, hk, decide_eq_true hc]
    have ep : pvS l.t (i + 1) = some l.t[i].v.s := by simp [pvS, hlt]
    rw [ep] at h
    cases i with
    | zero => exact iteF (by simp) h
    | succ i =>
      refine iteT (by simp) ?_
      rw [pred_ok (by omega)]
      refine ⟨idx_ok (by omega) rfl, el_ex (by omega) ?_⟩
      have e2 : pvS l.t (i + 1) = some l.t[i].v.s := by simp [pvS, show i < l.t.length by omega]
      rw [e2]
      refine iteN (fun hb => ?_) fun hb => ?_
      all_goals
        have hb' := (bytesLess_eq l.t[i].v.s l.t[i + 1].v.s).symm.trans hb
        simp only [hb', Bool.and_true, Bool.true_and, Bool.and_false, Bool.false_and]
      · exact fitB rfl
      · exact h
theorem rvalid_run : ∀ a : Lin × Unit, linOk a.1 = true → Gets T_rvalid 0 (endP' rs_rvalid (Fits (validL a.1))) ic_rvalid [] (st0 nt_rvalid (encL a)) := by
  rintro ⟨l, ⟨⟩⟩ hl
  have hl : l.t.length ≤ 9223372036854775807 := by simpa [linOk] using hl
  refine rvalid_s l (ex_enc (l.k, ()) rfl ?_)
  show if (!coefIn l.k) = true then _ else _
  show if (!coefIn l.k) = true then Fits (validL l) _ else if _ then Fits (validL l) _ else At T_rvalid 0 (endP' rs_rvalid (Fits (validL l))) ic_rvalid 0 58 _ _
  rw [valid_eq]
  cases hk : coefIn l.k
  · exact fitB rfl
  rw [if_nt]
  by_cases h12 : l.t.length ≤ 12
  · rw [if_neg (by simp; omega)]
    have h := rvalid_loop l hl l.t.length 0 (by omega)
    simp only [h12, decide_true, Bool.true_and]
    exact h
  · rw [if_pos (by simp; omega)]
    exact fitB (by simp [h12])
theorem rfew_loop (l : Lin) (n : Int) (hl : l.t.length ≤ 9223372036854775807) : ∀ (j i : Nat), j + i = l.t.length → At T_rfew 0 (endP' rs_rfew (Fits ((l.t.drop i).all (fun t => decide (t.v.s.length ≤ 40)) && decide ((l.t.length : Int) ≤ n)))) ic_rfew 0 26 [(1, .pv (.int .i64 n)), (2, .ptr 0 0), (5, .pv (.int .i64 i))] [.obj (.box [.pv (.int .i64 l.k), .pv (enc l.t)])] := by
  intro j
  induction j with
  | zero =>
    intro i hi
    exact rfew_h0 l n i (iteF (lt_no (by omega)) (fitB (by rw [List.drop_of_length_le (by omega), List.length_map]; rfl)))
  | succ j ih =>
    intro i hi
    have hlt : i < l.t.length := by omega
    have h := ih (i + 1) (by omega)
    refine rfew_h0 l n i (iteT (lt_ok hlt) ⟨idx_ok hlt rfl, el_ex hlt ?_⟩)
    rw [List.drop_eq_getElem_cons hlt, List.all_cons, next (by omega)]
    refine iteD (fun h40 => ?_) fun h40 => ?_
    · have h40 : (l.t[i].v.s.length : Int) > 40 := h40
      exact fitB (by rw [decide_eq_false (show ¬ l.t[i].v.s.length ≤ 40 by omega)]; rfl)
    · have h40 : ¬ (l.t[i].v.s.length : Int) > 40 := h40
      rw [decide_eq_true (show l.t[i].v.s.length ≤ 40 by omega), Bool.true_and]
      exact h
theorem rfew_run : ∀ a : Lin × Int × Unit, linOk a.1 = true → Gets T_rfew 0 (endP' rs_rfew (Fits (few4 a.1 a.2.1))) ic_rfew [] (st0 nt_rfew (encL a)) := by
  rintro ⟨l, n, ⟨⟩⟩ hl
  exact rfew_s l n (rfew_loop l n (by simpa [linOk] using hl) l.t.length 0 (by omega))
end Go.Pl

namespace Go.Pl
open Go.RowKit
open Enc (enc dec is)
open EncL (encL decL isL)
end Go.Pl

namespace Go.Pl
open Go.RowKit
open Enc (enc dec is)
open EncL (encL decL isL)
def nS : Str := ⟨[110]⟩
theorem sortS_one (x : List UInt8) : sortS [x] = [x] := by simp [sortS]
end Go.Pl

namespace Go.Pl
open Go.RowKit
open Enc (enc dec is)
open EncL (encL decL isL)
def cmpR (x y : List Coef) (a b : Int) : Int := if cmpT x y ≠ 0 then cmpT x y else cmpK a b
theorem rcmp_loop (a b : Lin) (hl : a.t.length ≤ 9223372036854775807) : ∀ (m i : Nat), m + i = a.t.length → i ≤ b.t.length → At T_rcmp 0 (endP' rs_rcmp (Fits (cmpR (a.t.drop i) (b.t.drop i) a.k b.k))) ic_rcmp 0 95 [(2, .ptr 0 0), (3, .ptr 1 0), (5, .pv (.int .i64 i))] [.obj (.box [.pv (.int .i64 a.k), .pv (enc a.t)]), .obj (.box [.pv (.int .i64 b.k), .pv (enc b.t)])] := by
  intro m
  induction m with
  | zero =>
    intro i hi hb
    refine rcmp_h0 a b i (iteF (lt_no (by omega)) ?_)
    rw [List.drop_of_length_le (show a.t.length ≤ i by omega)]
    refine iteD (fun h1 => ?_) fun h1 => ?_
    · simp only [List.length_map] at h1
      refine fitI ?_
      obtain ⟨t, r, e⟩ : ∃ t r, b.t.drop i = t :: r := by
        cases e : b.t.drop i with
        | nil => have := List.length_drop (l := b.t) (i := i); rw [e] at this; simp at this; omega
        | cons t r => exact ⟨t, r, rfl⟩
      rw [e]; rfl
    · simp only [List.length_map] at h1
      have e : b.t.drop i = [] := List.drop_of_length_le (by omega)
      rw [e]
      have hlen : (List.length (List.map (enc : Coef → PV) a.t) : Int) = (List.length (List.map (enc : Coef → PV) b.t) : Int) := by simp; omega
      refine iteE (fun _ => ?_) fun h => absurd hlen h
      have ec : cmpR [] [] a.k b.k = cmpK a.k b.k := by simp [cmpR, cmpT]
      rw [ec]
      unfold cmpK
      refine iteD (fun h2 => fitI (by rw [if_pos h2])) fun h2 => iteD (fun h3 => by simp only [List.length_map] at h3; omega) fun h3 => iteD (fun h4 => fitI (by rw [if_neg h2, if_pos h4])) fun h4 => fitI (by rw [if_neg h2, if_neg h4])
  | succ m ih =>
    intro i hi hb
    have hlt : i < a.t.length := by omega
    refine rcmp_h0 a b i (iteT (lt_ok hlt) ?_)
    by_cases hlb : i < b.t.length
    · have h := ih (i + 1) (by omega) (by omega)
      refine iteT (lt_ok hlb) ⟨idx_ok hlt rfl, el_ex hlt ⟨idx_ok hlb rfl, el_ex hlb ?_⟩⟩
      rw [List.drop_eq_getElem_cons hlt, List.drop_eq_getElem_cons hlb, next (by omega)]
      generalize a.t[i] = x at h ⊢
      generalize b.t[i] = y at h ⊢
      obtain ⟨⟨xv⟩, xc⟩ := x
      obtain ⟨⟨yv⟩, yc⟩ := y
      refine iteB (fun h1 => ?_) fun h1 => ?_
      · have h1 : xv < yv := by have := (bytesLess_eq xv yv).symm.trans h1; simpa using this
        exact fitI (by simp [cmpR, cmpT, h1])
      have h1 : ¬ xv < yv := by have := (bytesLess_eq xv yv).symm.trans h1; simpa using this
      refine iteE (fun h2 => ?_) fun h2 => ?_
      · have h2 : xv = yv := h2
        subst h2
        refine iteD (fun h3 => ?_) fun h3 => ?_
        · have h3 : xc < yc := h3
          exact fitI (by simp [cmpR, cmpT, h1, h3])
        have h3 : ¬ xc < yc := h3
        refine iteN (fun h4 => ?_) fun h4 => ?_
        · have h4 : (xv == xv && (xc == yc && true)) = false := h4
          have h4 : xc ≠ yc := by simpa using h4
          exact fitI (by simp [cmpR, cmpT, h1, h3, h4])
        · have h4 : (xv == xv && (xc == yc && true)) = true := h4
          have h4 : xc = yc := by simpa using h4
          subst h4
          have e : cmpR (⟨⟨xv⟩, xc⟩ :: a.t.drop (i + 1)) (⟨⟨xv⟩, xc⟩ :: b.t.drop (i + 1)) a.k b.k = cmpR (a.t.drop (i + 1)) (b.t.drop (i + 1)) a.k b.k := by simp [cmpR, cmpT, List.lt_irrefl xv]
          rw [e]
          exact h
      · have h2 : ¬ xv = yv := h2
        refine iteN (fun h4 => fitI (by simp [cmpR, cmpT, h1, h2])) fun h4 => ?_
        have h4 : (xv == yv && (xc == yc && true)) = true := h4
        simp [h2] at h4
    · refine iteF (lt_no hlb) ?_
      obtain ⟨t, r, e⟩ : ∃ t r, a.t.drop i = t :: r := ⟨_, _, List.drop_eq_getElem_cons hlt⟩
      rw [e, List.drop_of_length_le (show b.t.length ≤ i by omega)]
      refine iteD (fun h1 => by simp only [List.length_map] at h1; omega) fun h1 => iteE (fun h2 => by simp only [List.length_map] at h2; omega) fun h2 => iteD (fun h3 => fitI (by simp [cmpR, cmpT])) fun h3 => by simp only [List.length_map] at h3; omega
theorem rcmp_run : ∀ a : Lin × Lin × Unit, linOk a.1 = true → Gets T_rcmp 0 (endP' rs_rcmp (Fits (cmpL a.1 a.2.1))) ic_rcmp [] (st0 nt_rcmp (encL a)) := by
  rintro ⟨a, b, ⟨⟩⟩ hl
  exact rcmp_s a b (rcmp_loop a b (by simpa [linOk] using hl) a.t.length 0 (by omega) (by omega))
def eqL' (a b : Lin) : Bool := cmpL a b == 0
theorem req_run : ∀ a : Lin × Lin × Unit, linOk a.1 = true → Gets T_req 0 (endP' rs_req (Fits (eqL' a.1 a.2.1))) ic_req [] (st0 nt_req (encL a)) := by
  rintro ⟨a, b, ⟨⟩⟩ hl
  exact req_s a b ⟨pre_enc (a, b, ()) rfl hl, ex_enc (a, b, ()) rfl (fitB rfl)⟩
theorem reval_in (l : Lin) (v : List Coef) (hv : v.length ≤ 9223372036854775807) (hl : l.t.length ≤ 9223372036854775807) (i : Nat) (hi : i < l.t.length) (n : Int)
    (hK : ∀ n, At T_reval 0 (endP' rs_reval (Fits (evalT v n (l.t.drop (i + 1))))) ic_reval 0 68 [(1, .pv (enc v)), (2, .ptr 0 0), (6, .pv (.int .i64 n)), (7, .pv (.int .i64 ((i + 1 : Nat) : Int)))] [.obj (.box [.pv (.int .i64 l.k), .pv (enc l.t)])]) :
    ∀ (m j : Nat), m + j = v.length → lookV (v.drop j) l.t[i].v = lookV v l.t[i].v →
    At T_reval 0 (endP' rs_reval (Fits (evalT v n (l.t.drop i)))) ic_reval 1 68 [(1, .pv (enc v)), (2, .ptr 0 0), (6, .pv (.int .i64 n)), (7, .pv (.int .i64 i)), (8, .pv (.int .i64 j))] [.obj (.box [.pv (.int .i64 l.k), .pv (enc l.t)])] := by
  have ed : l.t.drop i = l.t[i] :: l.t.drop (i + 1) := List.drop_eq_getElem_cons hi
  intro m
  induction m with
  | zero =>
    intro j hj hlook
    refine reval_h1 l v n i j (iteF (lt_no (by omega)) (iteT (by simp; omega) ?_))
    rw [List.drop_of_length_le (by omega)] at hlook
    rw [ed, evalT, ← hlook]
    exact ⟨rfl, rfl⟩
  | succ m ih =>
    intro j hj hlook
    have hlt : j < v.length := by omega
    refine reval_h1 l v n i j (iteT (lt_ok hlt) ⟨idx_ok hlt rfl, el_ex hlt ⟨idx_ok hi rfl, el_ex hi ?_⟩⟩)
    refine iteN (fun h1 => ?_) fun h1 => ?_
    · have h1 : (v[j].v.s == l.t[i].v.s) = false := h1
      have hne : ¬ v[j].v = l.t[i].v := by intro e; rw [e] at h1; simp at h1
      rw [next (by omega)]
      refine ih (j + 1) (by omega) ?_
      rw [← hlook, List.drop_eq_getElem_cons hlt]
      rw [lookV, lookV, List.find?_cons_of_neg (by simpa using hne)]
    · have h1 : (v[j].v.s == l.t[i].v.s) = true := h1
      have heq : v[j].v = l.t[i].v := by
        have h1 : v[j].v.s = l.t[i].v.s := by simpa using h1
        generalize v[j].v = a at h1 ⊢
        generalize l.t[i].v = b at h1 ⊢
        cases a; cases b; cases h1; rfl
      have hlk : lookV v l.t[i].v = some v[j].c := by rw [← hlook, List.drop_eq_getElem_cons hlt, lookV, List.find?_cons_of_pos (by simpa using heq)]; rfl
      refine iteE (fun h2 => by simp only [List.length_map] at h2; omega) fun _ => ⟨idx_ok hlt rfl, el_ex hlt ?_⟩
      rw [ed, evalT, hlk]
      refine iteD (fun h3 => ?_) fun h3 => ?_
      · have h3 : v[j].c < -1000000000 := h3
        simp only [if_pos h3]
        exact ⟨rfl, rfl⟩
      have h3 : ¬ v[j].c < -1000000000 := h3
      refine iteD (fun h4 => ?_) fun h4 => ?_
      · have h4 : v[j].c > 1000000000 := h4
        simp only [if_neg h3, if_pos h4]
        exact ⟨rfl, rfl⟩
      have h4 : ¬ v[j].c > 1000000000 := h4
      refine ⟨idx_ok hi rfl, el_ex hi ?_⟩
      rw [next (by omega)]
      simp only [if_neg h3, if_neg h4]
      exact hK _
theorem reval_loop (l : Lin) (v : List Coef) (hv : v.length ≤ 9223372036854775807) (hl : l.t.length ≤ 9223372036854775807) : ∀ (m i : Nat) (n : Int), m + i = l.t.length →
    At T_reval 0 (endP' rs_reval (Fits (evalT v n (l.t.drop i)))) ic_reval 0 68 [(1, .pv (enc v)), (2, .ptr 0 0), (6, .pv (.int .i64 n)), (7, .pv (.int .i64 i))] [.obj (.box [.pv (.int .i64 l.k), .pv (enc l.t)])] := by
  intro m
  induction m with
  | zero =>
    intro i n hi
    refine reval_h0 l v n i (iteF (lt_no (by omega)) ?_)
    rw [List.drop_of_length_le (by omega)]
    exact ⟨rfl, rfl⟩
  | succ m ih =>
    intro i n hi
    have hlt : i < l.t.length := by omega
    exact reval_h0 l v n i (iteT (lt_ok hlt) (reval_in l v hv hl i hlt n (fun n => ih (i + 1) n (by omega)) v.length 0 (by omega) rfl))
theorem reval_run : ∀ a : Lin × List Coef × Unit, (linOk a.1 && decide (a.2.1.length ≤ 9223372036854775807)) = true → Gets T_reval 0 (endP' rs_reval (Fits (evalL a.1 a.2.1))) ic_reval [] (st0 nt_reval (encL a)) := by
  rintro ⟨l, v, ⟨⟩⟩ h
  simp only [Bool.and_eq_true, decide_eq_true_eq] at h
  refine reval_s l v ⟨pre_enc (l, ()) rfl h.1, ex_enc (l, ()) rfl ?_⟩
  show if (!validL l) = true then Fits (evalL l v) _ else At T_reval 0 (endP' rs_reval (Fits (evalL l v))) ic_reval 0 68 _ _
  unfold evalL
  refine iteN (fun hv => ?_) fun hv => ?_
  · rw [if_neg (by rw [hv]; simp)]
    exact ⟨rfl, rfl⟩
  · rw [if_pos hv]
    exact reval_loop l v h.2 (by simpa [linOk] using h.1) l.t.length 0 l.k (by omega)
end Go.Pl

namespace Go.Pl
open Go.RowKit
open Enc (enc dec is)
open EncL (encL decL isL)
theorem set_cell (ts : List Coef) (j : Nat) (x y : Coef) : List.set (List.map enc ts) j (PV.withCells (enc y) (splice (PV.cells (enc y)) 0 (PV.cells (PV.agg (shAll (PV.cells (enc x)) 0 [Sh.str, Sh.int .i64]))))) = List.map enc (ts.set j x) := by
  rw [List.map_set]
  rfl
theorem getD_z {α : Type} (f : α → PV) {l : List α} {k : Nat} (h : k < l.length) : (l.map f).getD (0 + (k : Int).toNat) default = f l[k] := by rw [Nat.zero_add]; exact getD_map f h
theorem tri {x y : List UInt8} (h1 : ¬ x < y) (h2 : x ≠ y) : y < x := Decidable.byContradiction fun h => h2 (List.le_antisymm (List.not_lt.1 h) (List.not_lt.1 h1))
theorem ins_t (s : Str) (c : Int) (t : Coef) (r : List Coef) : insT s c true (t :: r) = (if t.v = s then ⟨t.v, w64 (t.c + c)⟩ else t) :: insT s c true r := by
  rw [insT]; simp only [Bool.not_true, Bool.false_and, Bool.false_eq_true, if_false, Bool.true_or, List.nil_append]; split <;> rfl
theorem ins_f (s : Str) (c : Int) (t : Coef) (r : List Coef) : insT s c false (t :: r) = if s.s < t.v.s then ⟨s, c⟩ :: t :: insT s c true r else if t.v = s then ⟨t.v, w64 (t.c + c)⟩ :: insT s c true r else t :: insT s c false r := by
  rw [insT]
  by_cases h : s.s < t.v.s
  · have : ¬ t.v = s := fun e => by rw [e] at h; exact List.lt_irrefl _ h
    simp [h, this]
  · simp [h]
theorem ins_len_t (s : Str) (c : Int) : ∀ (l : List Coef), (insT s c true l).length = l.length
  | [] => by simp [insT]
  | t :: l => by rw [ins_t]; simp [ins_len_t s c l]
theorem ins_len_f (s : Str) (c : Int) : ∀ (l : List Coef), (insT s c false l).length ≤ l.length + 1
  | [] => by simp [insT]
  | t :: l => by
    have h1 := ins_len_t s c l
    have h2 := ins_len_f s c l
    rw [ins_f]
    split
    · simp [h1]
    · split <;> simp [h1] <;> omega
theorem plus_len (l : Lin) (s : Str) (c : Int) : (plusL l s c).t.length ≤ l.t.length + 1 := Nat.le_trans (List.length_filter_le _ _) (ins_len_f s c l.t)
theorem str_ext {a b : Str} : a = b ↔ a.s = b.s := ⟨fun h => by rw [h], fun h => by cases a; cases b; cases h; rfl⟩
end Go.Pl

namespace Go.Pl
open Go.RowKit
open Enc (enc dec is)
open EncL (encL decL isL)
set_option maxRecDepth 100000
end Go.Pl

namespace Go.Pl
open Go.RowKit
open Enc (enc dec is)
open EncL (encL decL isL)
end Go.Pl

namespace Go.Pl
open Go.RowKit
open Enc (enc dec is)
open EncL (encL decL isL)
set_option maxRecDepth 100000
def ic_lname : IC := (.seq (.reg [⟨(some 2), (.mv (.c (.bool false))), 0, none⟩] none) (.seq (.seq (.reg [⟨(some 7), (.mv (.t 0)), 0, none⟩, ⟨(some 8), (.call (.c (.fn 133)) [(.t 7), (.c (.str [95]))]), 0, none⟩] none) (.cond (.t 8) (.seq (.reg [⟨(some 10), (.mv (.t 0)), 0, none⟩, ⟨(some 11), (.strslc (.t 10) (some (.c (.int .i64 1))) none), 0, none⟩, ⟨(some 12), (.call (.c (.fn 151)) [(.t 11)]), 0, none⟩, ⟨(some 9), (.mv (.t 12)), 2, none⟩, ⟨(some 13), (.extract (.t 9) 0), 2, none⟩, ⟨(some 14), (.extract (.t 9) 1), 2, none⟩, ⟨(some 3), (.mv (.t 13)), 2, none⟩, ⟨(some 4), (.mv (.t 14)), 2, none⟩] none) (.seq (.reg [⟨(some 15), (.mv (.t 4)), 0, none⟩, ⟨(some 16), (.bin .ifc .eql (.t 15) (.c .nili)), 0, none⟩, ⟨(some 17), (.mv (.t 16)), 0, none⟩, ⟨(some 18), (.mv (.t 3)), 0, (some (17, true))⟩, ⟨(some 19), (.bin .num .gtr (.t 18) (.c (.int .i64 0))), 0, (some (17, true))⟩, ⟨(some 20), (.pick (.t 17) (.t 19) (.c (.bool false))), 0, none⟩, ⟨(some 21), (.mv (.t 20)), 0, none⟩, ⟨(some 22), (.mv (.t 0)), 0, (some (21, true))⟩, ⟨(some 23), (.len 0 (.t 22)), 0, (some (21, true))⟩, ⟨(some 24), (.bin .num .leq (.t 23) (.c (.int .i64 10))), 0, (some (21, true))⟩, ⟨(some 25), (.pick (.t 21) (.t 24) (.c (.bool false))), 0, none⟩, ⟨(some 26), (.mv (.t 25)), 0, none⟩, ⟨(some 27), (.mv (.t 3)), 0, (some (26, true))⟩, ⟨(some 28), (.call (.c (.fn 79)) [(.t 27)]), 0, (some (26, true))⟩, ⟨(some 29), (.mv (.t 0)), 2, (some (26, true))⟩, ⟨(some 30), (.strslc (.t 29) (some (.c (.int .i64 1))) none), 2, (some (26, true))⟩, ⟨(some 31), (.bin .num .eql (.t 28) (.t 30)), 2, (some (26, true))⟩, ⟨(some 32), (.pick (.t 26) (.t 31) (.c (.bool false))), 2, none⟩, ⟨(some 2), (.mv (.t 32)), 2, none⟩] (some [[], [0], [1, 0], [2, 1, 0], [3, 2, 1, 0], [2, 4, 1, 0, 3], [5, 2, 4, 1, 0, 3], [6, 5, 2, 4, 1, 0, 3], [7, 6, 5, 2, 4, 1, 0, 3], [8, 6, 7, 5, 2, 4, 1, 0, 3], [6, 9, 5, 2, 4, 1, 0, 3, 8, 7], [10, 6, 9, 5, 2, 4, 1, 0, 3, 8, 7], [11, 10, 6, 9, 5, 2, 4, 1, 0, 3, 8, 7], [12, 11, 10, 6, 9, 5, 2, 4, 1, 0, 3, 8, 7], [11, 10, 6, 9, 5, 2, 4, 1, 0, 3, 8, 7], [14, 11, 10, 6, 9, 5, 2, 4, 1, 0, 3, 8, 7], [13, 15, 11, 12, 10, 6, 9, 5, 2, 4, 1, 0, 3, 8, 7, 14], [11, 16, 10, 6, 9, 5, 2, 4, 1, 0, 3, 8, 7, 13, 15, 12, 14], [17, 13, 0, 1, 2, 3, 4, 5, 6, 7, 8, 9, 10, 11, 12, 14, 15, 16]])) .ret)) .skip)) (.seq (.seq (.reg [⟨(some 33), (.mv (.t 0)), 0, none⟩, ⟨(some 34), (.sbytes (.t 33)), 0, none⟩, ⟨(some 35), (.len 1 (.t 34)), 0, none⟩, ⟨(some 36), (.mv (.c (.int .i64 0))), 0, none⟩] none) (.block 0 (.loop [36, 35, 34, 0] (.seq (.reg [⟨(some 37), (.bin .num .lss (.t 36) (.t 35)), 0, none⟩] none) (.seq (.cond (.t 37) .skip (.exit 0)) (.seq (.block 1 (.seq (.reg [⟨(some 38), (.mv (.t 36)), 0, none⟩, ⟨(some 39), (.iaddr 1 (.t 34) (.t 36)), 0, none⟩, ⟨(some 40), (.load false [(.int .u8)] (.t 39)), 0, none⟩, ⟨(some 5), (.mv (.t 38)), 0, none⟩, ⟨(some 6), (.mv (.t 40)), 0, none⟩] none) (.seq (.reg [⟨(some 41), (.mv (.t 6)), 0, none⟩, ⟨(some 42), (.bin .num .lss (.t 41) (.c (.int .u8 97))), 0, none⟩, ⟨(some 43), (.mv (.t 42)), 0, none⟩, ⟨(some 44), (.mv (.t 6)), 0, (some (43, false))⟩, ⟨(some 45), (.bin .num .gtr (.t 44) (.c (.int .u8 122))), 0, (some (43, false))⟩, ⟨(some 46), (.pick (.t 43) (.c (.bool true)) (.t 45)), 0, none⟩, ⟨(some 47), (.mv (.t 46)), 0, none⟩, ⟨(some 48), (.mv (.t 5)), 0, (some (47, true))⟩, ⟨(some 49), (.bin .num .eql (.t 48) (.c (.int .i64 0))), 0, (some (47, true))⟩, ⟨(some 50), (.mv (.t 49)), 0, (some (47, true))⟩, ⟨(some 51), (.mv (.t 6)), 0, (some (50, false))⟩, ⟨(some 52), (.bin .num .lss (.t 51) (.c (.int .u8 48))), 0, (some (50, false))⟩, ⟨(some 53), (.pick (.t 50) (.c (.bool true)) (.t 52)), 0, (some (47, true))⟩, ⟨(some 54), (.mv (.t 53)), 0, (some (47, true))⟩, ⟨(some 55), (.mv (.t 6)), 0, (some (54, false))⟩, ⟨(some 56), (.bin .num .gtr (.t 55) (.c (.int .u8 57))), 0, (some (54, false))⟩, ⟨(some 57), (.pick (.t 54) (.c (.bool true)) (.t 56)), 0, (some (47, true))⟩, ⟨(some 58), (.pick (.t 47) (.t 57) (.c (.bool false))), 0, none⟩] none) (.cond (.t 58) (.seq (.reg [⟨(some 2), (.mv (.c (.bool false))), 0, none⟩] none) .ret) .skip)))) (.reg [⟨(some 59), (.bin .num .add (.t 36) (.c (.int .i64 1))), 0, none⟩, ⟨(some 36), (.mv (.t 59)), 0, none⟩] none))))))) (.seq (.reg [⟨(some 60), (.mv (.t 0)), 0, none⟩, ⟨(some 61), (.bin .num .neq (.t 60) (.c (.str []))), 0, none⟩, ⟨(some 62), (.mv (.t 61)), 0, none⟩, ⟨(some 63), (.mv (.t 0)), 0, (some (62, true))⟩, ⟨(some 64), (.len 0 (.t 63)), 0, (some (62, true))⟩, ⟨(some 65), (.bin .num .leq (.t 64) (.c (.int .i64 30))), 0, (some (62, true))⟩, ⟨(some 66), (.pick (.t 62) (.t 65) (.c (.bool false))), 0, none⟩, ⟨(some 2), (.mv (.t 66)), 0, none⟩] none) .ret))))
def rs_lname : List IRes := [(.tmp 2)]
abbrev nt_lname : Nat := 67
def T_lname : Tab := tab [(133, .pure (preT (fun _ : Str × Str × Unit => true)) (valT (fun x : Str × Str × Unit => x.2.1.s.isPrefixOf x.1.s))), (151, .pure (preT (fun x : Str × Unit => decide (x.1.s.length ≤ 1000000))) (valT (fun x : Str × Unit => atoiE x.1))), (79, .pure (preT (fun x : Int × Unit => decide (-9223372036854775808 ≤ x.1) && decide (x.1 ≤ 9223372036854775807))) (valT (fun x : Int × Unit => itoaS x.1)))]
theorem lname_s {G : PV → Prop} (s : List UInt8) (h : ∃ y0 : Bool, AV.pv (valT (fun (x : Str × Str × Unit) => List.isPrefixOf (Str.s x.2.1) (Str.s x.1)) [(.str s), (.str [(95 : UInt8)])]) = AV.pv (enc y0) ∧ (if (y0) = true then (decide (0 ≤ 1) && true && decide (Int.toNat 1 ≤ List.length s) && decide (List.length s ≤ List.length s)) = true ∧ ((Go.Pl.preT (fun (x : Str × Unit) => decide (List.length (Str.s x.1) ≤ 1000000)) [(.str (List.drop (Int.toNat 1) (List.take (List.length s) s)))]) = true ∧ (∃ y1 : Int × Er, AV.pv (valT (fun (x : Str × Unit) => atoiE x.1) [(.str (List.drop (Int.toNat 1) (List.take (List.length s) s)))]) = AV.pv (enc y1) ∧ ((isIfP (enc y1.2) && Prod.fst (true, PV.bool (isNilI (enc y1.2)))) = true ∧ (if (isNilI (enc y1.2)) = true then if (decide (y1.1 > 0)) = true then if (decide ((↑(List.length s) : Int) ≤ 10)) = true then (Go.Pl.preT (fun (x : Int × Unit) => decide ((-9223372036854775808 : Int) ≤ x.1) && decide (x.1 ≤ 9223372036854775807)) [(.int .i64 y1.1)]) = true ∧ (∃ y2 : Str, AV.pv (valT (fun (x : Int × Unit) => itoaS x.1) [(.int .i64 y1.1)]) = AV.pv (enc y2) ∧ ((decide (0 ≤ 1) && true && decide (Int.toNat 1 ≤ List.length s) && decide (List.length s ≤ List.length s)) = true ∧ (G ((.bool (Str.s y2 == List.drop (Int.toNat 1) (List.take (List.length s) s))))))) else (G ((.bool false))) else (G ((.bool false))) else (G ((.bool false))))))) else (At T_lname 0 (endP' rs_lname G) ic_lname 0 67 [(0, (.pv (.str s))), (34, (.pv (.sl 1 false (bytesP s)))), (35, (.pv (.int .i64 (↑(List.length (bytesP s)) : Int)))), (36, (.pv (.int .i64 0)))] []))) : Gets T_lname 0 (endP' rs_lname G) ic_lname [] (st0 67 [.str s]) := Gets.tp (.lit (.abs (Bool) (fun YY => AV.pv (enc YY)) (.ask (.req (.req (.abs (Int × Er) (fun YY => AV.pv (enc YY)) (.req (.ask (.lit (.lit (.lit (.ask (.lit (.lit (.lit (.lit (.ask (.lit (.req (.abs (Str) (fun YY => AV.pv (enc YY)) (.lit (.lit (.req (.lit (.lit (.lit (.nil)))))))))) (.lit (.lit (.lit (.lit (.lit (.nil))))))))))) (.lit (.lit (.lit (.lit (.lit (.lit (.lit (.lit (.lit (.nil)))))))))))))) (.lit (.lit (.lit (.lit (.lit (.lit (.lit (.lit (.lit (.lit (.lit (.lit (.nil)))))))))))))))))) (.nil)))) h (by kernel_rfl)
theorem lname_h0 {G : PV → Prop} (s : List UInt8) (i : Int) (h : if (decide (i < (↑(List.length (bytesP s)) : Int))) = true then (decide (0 ≤ i) && decide (Int.toNat i < List.length (bytesP s)) && 1 == 1) = true ∧ ((decide (0 + List.length [Sh.int IntKind.u8] ≤ List.length (PV.cells (List.getD (bytesP s) (Int.toNat i) default))) && shFit (PV.cells (List.getD (bytesP s) (Int.toNat i) default)) 0 [Sh.int IntKind.u8]) = true ∧ (if (decide (PV.asInt (List.getD (PV.cells (List.getD (bytesP s) (Int.toNat i) default)) 0 default) < 97)) = true then if (i == 0) = true then G ((.bool false)) else (if (decide (PV.asInt (List.getD (PV.cells (List.getD (bytesP s) (Int.toNat i) default)) 0 default) < 48)) = true then G ((.bool false)) else (if (decide (PV.asInt (List.getD (PV.cells (List.getD (bytesP s) (Int.toNat i) default)) 0 default) > 57)) = true then G ((.bool false)) else (At T_lname 0 (endP' rs_lname G) ic_lname 0 67 [(0, (.pv (.str s))), (34, (.pv (.sl 1 false (bytesP s)))), (35, (.pv (.int .i64 (↑(List.length (bytesP s)) : Int)))), (36, (.pv (.int .i64 (IntKind.wrap IntKind.i64 (i + 1)))))] []))) else (if (decide (PV.asInt (List.getD (PV.cells (List.getD (bytesP s) (Int.toNat i) default)) 0 default) > 122)) = true then if (i == 0) = true then G ((.bool false)) else (if (decide (PV.asInt (List.getD (PV.cells (List.getD (bytesP s) (Int.toNat i) default)) 0 default) < 48)) = true then G ((.bool false)) else (if (decide (PV.asInt (List.getD (PV.cells (List.getD (bytesP s) (Int.toNat i) default)) 0 default) > 57)) = true then G ((.bool false)) else (At T_lname 0 (endP' rs_lname G) ic_lname 0 67 [(0, (.pv (.str s))), (34, (.pv (.sl 1 false (bytesP s)))), (35, (.pv (.int .i64 (↑(List.length (bytesP s)) : Int)))), (36, (.pv (.int .i64 (IntKind.wrap IntKind.i64 (i + 1)))))] []))) else (At T_lname 0 (endP' rs_lname G) ic_lname 0 67 [(0, (.pv (.str s))), (34, (.pv (.sl 1 false (bytesP s)))), (35, (.pv (.int .i64 (↑(List.length (bytesP s)) : Int)))), (36, (.pv (.int .i64 (IntKind.wrap IntKind.i64 (i + 1)))))] [])))) else (if (!s == []) = true then G ((.bool (decide ((↑(List.length s) : Int) ≤ 30)))) else (G ((.bool false))))) : At T_lname 0 (endP' rs_lname G) ic_lname 0 67 [(0, .pv (.str s)), (34, .pv (.sl 1 false (bytesP s))), (35, .pv (.int .i64 (bytesP s).length)), (36, .pv (.int .i64 i))] [] := At.tp (.lit (.ask (.req (.keep (.req (.lit (.ask (.lit (.lit (.lit (.lit (.lit (.lit (.ask (.lit (.lit (.lit (.lit (.lit (.lit (.lit (.lit (.lit (.lit (.nil))))))))))) (.lit (.lit (.lit (.lit (.lit (.ask (.lit (.lit (.lit (.lit (.lit (.nil)))))) (.lit (.lit (.lit (.lit (.lit (.ask (.nil) (.lit (.nil))))))))))))))))))))) (.lit (.lit (.lit (.ask (.lit (.lit (.lit (.ask (.lit (.lit (.lit (.lit (.lit (.lit (.lit (.lit (.lit (.lit (.nil))))))))))) (.lit (.lit (.lit (.lit (.lit (.ask (.lit (.lit (.lit (.lit (.lit (.nil)))))) (.lit (.lit (.lit (.lit (.lit (.ask (.nil) (.lit (.nil)))))))))))))))))) (.lit (.lit (.lit (.lit (.lit (.lit (.lit (.lit (.nil)))))))))))))))))) (.lit (.ask (.lit (.lit (.lit (.lit (.nil))))) (.lit (.lit (.lit (.nil)))))))) h (by kernel_rfl)
def ic_lvalid : IC := (.seq (.reg [⟨(some 1), (.box 2 (.t 0)), 0, none⟩, ⟨(some 2), (.mv (.c (.bool false))), 1, none⟩] none) (.seq (.seq (.reg [⟨(some 5), (.faddr 1 (.t 1)), 0, none⟩, ⟨(some 6), (.load false [(.sl 2)] (.t 5)), 0, none⟩, ⟨(some 7), (.len 1 (.t 6)), 0, none⟩, ⟨(some 8), (.mv (.c (.int .i64 0))), 0, none⟩] none) (.block 0 (.loop [8, 7, 6, 1] (.seq (.reg [⟨(some 9), (.bin .num .lss (.t 8) (.t 7)), 0, none⟩] none) (.seq (.cond (.t 9) .skip (.exit 0)) (.seq (.block 1 (.seq (.reg [⟨(some 10), (.mv (.t 8)), 0, none⟩, ⟨(some 11), (.iaddr 2 (.t 6) (.t 8)), 0, none⟩, ⟨(some 12), (.load true [.str, (.int .i64)] (.t 11)), 0, none⟩, ⟨(some 4), (.alloc (.agg [(.str []), (.int .i64 0)])), 0, none⟩, ⟨(some 3), (.mv (.t 10)), 1, none⟩, ⟨none, (.store 2 (.t 4) (.t 12)), 1, none⟩] none) (.seq (.reg [⟨(some 13), (.faddr 0 (.t 4)), 0, none⟩, ⟨(some 14), (.load false [.str] (.t 13)), 0, none⟩, ⟨(some 15), (.call (.c (.fn 116)) [(.t 14)]), 0, none⟩, ⟨(some 16), (.un .not (.t 15)), 2, none⟩, ⟨(some 17), (.mv (.t 16)), 2, none⟩, ⟨(some 18), (.faddr 1 (.t 4)), 2, (some (17, false))⟩, ⟨(some 19), (.load false [(.int .i64)] (.t 18)), 2, (some (17, false))⟩, ⟨(some 20), (.bin .num .eql (.t 19) (.c (.int .i64 0))), 2, (some (17, false))⟩, ⟨(some 21), (.pick (.t 17) (.c (.bool true)) (.t 20)), 2, none⟩, ⟨(some 22), (.mv (.t 21)), 2, none⟩, ⟨(some 23), (.faddr 1 (.t 4)), 2, (some (22, false))⟩, ⟨(some 24), (.load false [(.int .i64)] (.t 23)), 2, (some (22, false))⟩, ⟨(some 25), (.call (.c (.fn 117)) [(.t 24)]), 2, (some (22, false))⟩, ⟨(some 26), (.un .not (.t 25)), 4, (some (22, false))⟩, ⟨(some 27), (.pick (.t 22) (.c (.bool true)) (.t 26)), 4, none⟩, ⟨(some 28), (.mv (.t 27)), 4, none⟩, ⟨(some 29), (.mv (.t 3)), 4, (some (28, false))⟩, ⟨(some 30), (.bin .num .gtr (.t 29) (.c (.int .i64 0))), 4, (some (28, false))⟩, ⟨(some 31), (.mv (.t 30)), 4, (some (28, false))⟩, ⟨(some 32), (.faddr 1 (.t 1)), 4, (some (31, true))⟩, ⟨(some 33), (.load false [(.sl 2)] (.t 32)), 4, (some (31, true))⟩, ⟨(some 34), (.mv (.t 3)), 4, (some (31, true))⟩, ⟨(some 35), (.bin .num .sub (.t 34) (.c (.int .i64 1))), 4, (some (31, true))⟩, ⟨(some 36), (.iaddr 2 (.t 33) (.t 35)), 4, (some (31, true))⟩, ⟨(some 37), (.faddr 0 (.t 36)), 4, (some (31, true))⟩, ⟨(some 38), (.load false [.str] (.t 37)), 4, (some (31, true))⟩, ⟨(some 39), (.faddr 0 (.t 4)), 4, (some (31, true))⟩, ⟨(some 40), (.load false [.str] (.t 39)), 4, (some (31, true))⟩, ⟨(some 41), (.bin .num .geq (.t 38) (.t 40)), 4, (some (31, true))⟩, ⟨(some 42), (.pick (.t 31) (.t 41) (.c (.bool false))), 4, (some (28, false))⟩, ⟨(some 43), (.pick (.t 28) (.c (.bool true)) (.t 42)), 4, none⟩] (some [[], [0], [1, 0], [2, 1, 0], [3, 2, 1, 0], [4, 3, 2, 1, 0], [5, 4, 3, 2, 1, 0], [6, 4, 5, 3, 2, 1, 0], [4, 7, 3, 2, 1, 0, 6, 5], [8, 4, 7, 3, 2, 1, 0, 6, 5], [9, 8, 4, 7, 3, 2, 1, 0, 6, 5], [10, 9, 8, 4, 7, 3, 2, 1, 0, 6, 5], [11, 9, 10, 8, 4, 7, 3, 2, 1, 0, 6, 5], [12, 9, 11, 10, 8, 4, 7, 3, 2, 1, 0, 6, 5], [9, 13, 8, 4, 7, 3, 2, 1, 0, 6, 5, 12, 11, 10], [14, 12, 9, 13, 8, 4, 7, 3, 2, 1, 0, 6, 5, 11, 10], [15, 14, 12, 9, 13, 8, 4, 7, 3, 2, 1, 0, 6, 5, 11, 10], [16, 15, 14, 12, 9, 13, 8, 4, 7, 3, 2, 1, 0, 6, 5, 11, 10], [17, 15, 16, 14, 12, 9, 13, 8, 4, 7, 3, 2, 1, 0, 6, 5, 11, 10], [18, 17, 15, 16, 14, 12, 9, 13, 8, 4, 7, 3, 2, 1, 0, 6, 5, 11, 10], [19, 18, 17, 15, 16, 14, 12, 9, 13, 8, 4, 7, 3, 2, 1, 0, 6, 5, 11, 10], [18, 17, 15, 16, 14, 12, 9, 13, 8, 4, 7, 3, 2, 1, 0, 6, 5, 11, 10], [21, 18, 17, 15, 16, 14, 12, 9, 13, 8, 4, 7, 3, 2, 1, 0, 6, 5, 11, 10], [20, 22, 18, 19, 17, 15, 16, 14, 12, 9, 13, 8, 4, 7, 3, 2, 1, 0, 6, 5, 11, 10, 21], [23, 18, 20, 22, 19, 17, 15, 16, 14, 12, 9, 13, 8, 4, 7, 3, 2, 1, 0, 6, 5, 11, 10, 21], [24, 18, 23, 20, 22, 19, 17, 15, 16, 14, 12, 9, 13, 8, 4, 7, 3, 2, 1, 0, 6, 5, 11, 10, 21], [18, 17, 15, 16, 14, 12, 9, 13, 8, 4, 7, 3, 2, 1, 0, 6, 5, 11, 10], [26, 18, 17, 15, 16, 14, 12, 9, 13, 8, 4, 7, 3, 2, 1, 0, 6, 5, 11, 10], [25, 27, 18, 24, 23, 20, 22, 19, 17, 15, 16, 14, 12, 9, 13, 8, 4, 7, 3, 2, 1, 0, 6, 5, 11, 10, 21, 26], [18, 28, 15, 17, 16, 14, 12, 9, 13, 8, 4, 7, 3, 2, 1, 0, 6, 5, 11, 10, 25, 27, 24, 23, 20, 22, 19, 21, 26], [15, 29, 14, 12, 9, 13, 8, 4, 7, 3, 2, 1, 0, 6, 5, 11, 10, 18, 28, 17, 16, 25, 27, 24, 23, 20, 22, 19, 21, 26]])) (.cond (.t 43) (.seq (.reg [⟨(some 2), (.mv (.c (.bool false))), 0, none⟩] none) .ret) .skip)))) (.reg [⟨(some 44), (.bin .num .add (.t 8) (.c (.int .i64 1))), 0, none⟩, ⟨(some 8), (.mv (.t 44)), 0, none⟩] none))))))) (.seq (.reg [⟨(some 45), (.faddr 0 (.t 1)), 0, none⟩, ⟨(some 46), (.load false [(.int .i64)] (.t 45)), 0, none⟩, ⟨(some 47), (.call (.c (.fn 117)) [(.t 46)]), 0, none⟩, ⟨(some 48), (.mv (.t 47)), 2, none⟩, ⟨(some 49), (.faddr 1 (.t 1)), 2, (some (48, true))⟩, ⟨(some 50), (.load false [(.sl 2)] (.t 49)), 2, (some (48, true))⟩, ⟨(some 51), (.len 1 (.t 50)), 2, (some (48, true))⟩, ⟨(some 52), (.bin .num .leq (.t 51) (.c (.int .i64 12))), 2, (some (48, true))⟩, ⟨(some 53), (.pick (.t 48) (.t 52) (.c (.bool false))), 2, none⟩, ⟨(some 2), (.mv (.t 53)), 2, none⟩] none) .ret)))
def rs_lvalid : List IRes := [(.tmp 2)]
abbrev nt_lvalid : Nat := 54
def T_lvalid : Tab := tab [(117, .pure (preT (fun _ : Int × Unit => true)) (valT (fun x : Int × Unit => coefIn x.1))), (116, .pure (preT (fun x : Str × Unit => decide (x.1.s.length ≤ 1000000))) (valT (fun x : Str × Unit => nameB x.1)))]
theorem lvalid_s {G : PV → Prop} (l : Lin) (h : At T_lvalid 0 (endP' rs_lvalid G) ic_lvalid 0 54 [(1, (.ptr 0 0)), (6, (.pv (.sl 2 false (List.map enc l.t)))), (7, (.pv (.int .i64 (↑(List.length (List.map enc l.t)) : Int)))), (8, (.pv (.int .i64 0)))] [(.obj (.box [(.pv (.int .i64 l.k)), (.pv (.sl 2 false (List.map enc l.t)))]))]) : Gets T_lvalid 0 (endP' rs_lvalid G) ic_lvalid [] (st0 54 [enc l]) := Gets.tp (.nil) h (by kernel_rfl)
theorem lvalid_h0 {G : PV → Prop} (l : Lin) (i : Int) (h : if (decide (i < (↑(List.length l.t) : Int))) = true then (decide (0 ≤ i) && decide (Int.toNat i < List.length (List.map enc l.t)) && Enc.sz Coef == 2) = true ∧ (∃ y0 : Coef, AV.pv (PV.rptr (PV.cells (List.getD (List.map enc l.t) (Int.toNat i) default))) = AV.pv (PV.rptr (PV.cells ((enc) y0))) ∧ ((Go.Pl.preT (fun (x : Str × Unit) => decide (List.length (Str.s x.1) ≤ 1000000)) [(.str (PV.asStr (List.getD (PV.cells (enc y0)) 0 default)))]) = true ∧ (∃ y1 : Bool, AV.pv (valT (fun (x : Str × Unit) => nameB x.1) [(.str (PV.asStr (List.getD (PV.cells (enc y0)) 0 default)))]) = AV.pv (enc y1) ∧ (if (!y1) = true then G ((.bool false)) else (if (PV.asInt (List.getD (PV.cells (enc y0)) (0 + 1) default) == 0) = true then G ((.bool false)) else (∃ y2 : Bool, AV.pv (valT (fun (x : Int × Unit) => coefIn x.1) [(.int .i64 (PV.asInt (List.getD (PV.cells (enc y0)) (0 + 1) default)))]) = AV.pv (enc y2) ∧ (if (!y2) = true then G ((.bool false)) else (if (decide (i > 0)) = true then (decide (0 ≤ IntKind.wrap IntKind.i64 (i - 1)) && decide (Int.toNat (IntKind.wrap IntKind.i64 (i - 1)) < List.length (List.map enc l.t)) && Enc.sz Coef == 2) = true ∧ (∃ y3 : Coef, AV.pv (PV.rptr (PV.cells (List.getD (List.map enc l.t) (Int.toNat (IntKind.wrap IntKind.i64 (i - 1))) default))) = AV.pv (PV.rptr (PV.cells ((enc) y3))) ∧ (if (!Op.bytesLess (PV.asStr (List.getD (List.drop 0 (PV.cells (enc y3))) 0 default)) (PV.asStr (List.getD (PV.cells (enc y0)) 0 default))) = true then G ((.bool false)) else (At T_lvalid 0 (endP' rs_lvalid G) ic_lvalid 0 54 [(1, (.ptr 0 0)), (6, (.pv (.sl 2 false (List.map enc l.t)))), (7, (.pv (.int .i64 (↑(List.length l.t) : Int)))), (8, (.pv (.int .i64 (IntKind.wrap IntKind.i64 (i + 1)))))] [(.obj (.box [(.pv (.int .i64 l.k)), (.pv (.sl 2 false (List.map enc l.t)))]))]))) else (At T_lvalid 0 (endP' rs_lvalid G) ic_lvalid 0 54 [(1, (.ptr 0 0)), (6, (.pv (.sl 2 false (List.map enc l.t)))), (7, (.pv (.int .i64 (↑(List.length l.t) : Int)))), (8, (.pv (.int .i64 (IntKind.wrap IntKind.i64 (i + 1)))))] [(.obj (.box [(.pv (.int .i64 l.k)), (.pv (.sl 2 false (List.map enc l.t)))]))]))))))))) else (∃ y4 : Bool, AV.pv (valT (fun (x : Int × Unit) => coefIn x.1) [(.int .i64 l.k)]) = AV.pv (enc y4) ∧ (if (y4) = true then G ((.bool (decide ((↑(List.length (List.map enc l.t)) : Int) ≤ 12)))) else (G ((.bool false)))))) : At T_lvalid 0 (endP' rs_lvalid G) ic_lvalid 0 54 [(1, .ptr 0 0), (6, .pv (enc l.t)), (7, .pv (.int .i64 l.t.length)), (8, .pv (.int .i64 i))] [.obj (.box [.pv (.int .i64 l.k), .pv (enc l.t)])] := At.tp (.lit (.ask (.req (.abs (Coef) (fun YY => AV.pv (PV.rptr (PV.cells ((enc) YY)))) (.lit (.req (.abs (Bool) (fun YY => AV.pv (enc YY)) (.ask (.lit (.lit (.lit (.lit (.lit (.lit (.lit (.lit (.lit (.lit (.lit (.lit (.lit (.lit (.nil))))))))))))))) (.lit (.lit (.lit (.lit (.ask (.lit (.lit (.lit (.lit (.lit (.lit (.lit (.lit (.lit (.lit (.nil))))))))))) (.lit (.lit (.lit (.abs (Bool) (fun YY => AV.pv (enc YY)) (.lit (.lit (.ask (.lit (.lit (.lit (.lit (.lit (.nil)))))) (.lit (.lit (.lit (.ask (.lit (.lit (.lit (.lit (.lit (.req (.abs (Coef) (fun YY => AV.pv (PV.rptr (PV.cells ((enc) YY)))) (.lit (.lit (.lit (.lit (.lit (.lit (.lit (.lit (.lit (.lit (.ask (.nil) (.lit (.nil)))))))))))))))))))) (.lit (.lit (.lit (.lit (.lit (.lit (.lit (.lit (.lit (.lit (.lit (.lit (.lit (.lit (.nil))))))))))))))))))))))))))))))))))))) (.lit (.abs (Bool) (fun YY => AV.pv (enc YY)) (.ask (.lit (.lit (.lit (.lit (.lit (.nil)))))) (.lit (.lit (.lit (.lit (.nil)))))))))) h (by kernel_rfl)
end Go.Pl

namespace Go.Pl
open Go.RowKit
open Enc (enc dec is)
open EncL (encL decL isL)
theorem bytes_at {s : List UInt8} {i : Nat} (h : i < s.length) : List.getD (bytesP s) (Int.toNat (i : Int)) default = .int .u8 (s[i].toNat : Int) := by
  simp [bytesP, List.getD, h]
theorem bytes_len (s : List UInt8) : (bytesP s).length = s.length := by simp [bytesP]
def low1 (c : UInt8) : Bool := lowB c || digB c
theorem low_iff {c : UInt8} : lowB c = true ↔ 97 ≤ c.toNat ∧ c.toNat ≤ 122 := by
  simp only [lowB, Bool.and_eq_true, decide_eq_true_eq, UInt8.le_iff_toNat_le]
  have e1 : (97 : UInt8).toNat = 97 := rfl
  have e2 : (122 : UInt8).toNat = 122 := rfl
  rw [e1, e2]
theorem low_false {c : UInt8} (h : ¬ (97 ≤ c.toNat ∧ c.toNat ≤ 122)) : lowB c = false := by
  cases e : lowB c
  · rfl
  · exact absurd (low_iff.1 e) h
theorem dig_false {c : UInt8} (h : ¬ (48 ≤ c.toNat ∧ c.toNat ≤ 57)) : digB c = false := by
  cases e : digB c
  · rfl
  · exact absurd (digB_iff.1 e) h
def bodyB (s : List UInt8) (i : Nat) : Bool := (match i with | 0 => (match s with | [] => true | c :: r => lowB c && r.all low1) | i + 1 => (s.drop (i + 1)).all low1) && (!(s == [])) && decide (s.length ≤ 30)
theorem body_step {s : List UInt8} {i : Nat} (h : i < s.length) (hb : lowB s[i] = true ∨ (i ≠ 0 ∧ digB s[i] = true)) : bodyB s i = bodyB s (i + 1) := by
  cases i with
  | zero =>
    cases s with
    | nil => simp at h
    | cons c r =>
      rcases hb with hb | hb
      · have hb : lowB c = true := hb
        simp [bodyB, hb]
      · exact absurd rfl hb.1
  | succ i =>
    unfold bodyB
    simp only
    rw [List.drop_eq_getElem_cons h, List.all_cons]
    have : low1 s[i + 1] = true := by
      rcases hb with hb | hb
      · simp [low1, hb]
      · simp [low1, hb.2]
    rw [this, Bool.true_and]
theorem body_stop {s : List UInt8} {i : Nat} (h : i < s.length) (hb : lowB s[i] = false ∧ (i = 0 ∨ digB s[i] = false)) : bodyB s i = false := by
  cases i with
  | zero =>
    cases s with
    | nil => simp at h
    | cons c r =>
      have hb : lowB c = false := hb.1
      simp [bodyB, hb]
  | succ i =>
    unfold bodyB
    simp only
    rw [List.drop_eq_getElem_cons h, List.all_cons]
    have : low1 s[i + 1] = false := by
      rcases hb.2 with h0 | h0
      · cases h0
      · simp [low1, hb.1, h0]
    rw [this]; simp
theorem lname_loop (s : List UInt8) (hs : s.length ≤ 1000000) : ∀ (m i : Nat), m + i = s.length → At T_lname 0 (endP' rs_lname (Fits (bodyB s i))) ic_lname 0 67 [(0, .pv (.str s)), (34, .pv (.sl 1 false (bytesP s))), (35, .pv (.int .i64 (bytesP s).length)), (36, .pv (.int .i64 i))] [] := by
  intro m
  induction m with
  | zero =>
    intro i hi
    have e : bodyB s i = (!(s == []) && decide (s.length ≤ 30)) := by
      unfold bodyB
      cases i with
      | zero => cases s with
        | nil => rfl
        | cons c r => simp at hi
      | succ i => simp only; rw [List.drop_of_length_le (show s.length ≤ i + 1 by omega)]; simp
    rw [e]
    refine lname_h0 s i (iteF (lt_no' (by rw [bytes_len]; omega)) (iteB (fun h => fitB ?_) fun h => fitB ?_))
    · rw [h, Bool.true_and]; exact decide_eq_decide.2 (by omega)
    · rw [h, Bool.false_and]
  | succ m ih =>
    intro i hi
    have hlt : i < s.length := by omega
    have h := ih (i + 1) (by omega)
    refine lname_h0 s i ?_
    rw [bytes_at hlt, next (by omega)]
    have stop : (lowB s[i] = false ∧ (i = 0 ∨ digB s[i] = false)) → Fits (bodyB s i) (.bool false) := fun hb => fitB (body_stop hlt hb).symm
    have go : (lowB s[i] = true ∨ (i ≠ 0 ∧ digB s[i] = true)) → At T_lname 0 (endP' rs_lname (Fits (bodyB s i))) ic_lname 0 67 [(0, .pv (.str s)), (34, .pv (.sl 1 false (bytesP s))), (35, .pv (.int .i64 (bytesP s).length)), (36, .pv (.int .i64 ((i + 1 : Nat) : Int)))] [] := fun hb => by rw [body_step hlt hb]; exact h
    have rest : lowB s[i] = false → (if ((i : Int) == 0) = true then Fits (bodyB s i) (.bool false) else if decide ((s[i].toNat : Int) < 48) = true then Fits (bodyB s i) (.bool false) else if decide ((s[i].toNat : Int) > 57) = true then Fits (bodyB s i) (.bool false) else At T_lname 0 (endP' rs_lname (Fits (bodyB s i))) ic_lname 0 67 [(0, .pv (.str s)), (34, .pv (.sl 1 false (bytesP s))), (35, .pv (.int .i64 (bytesP s).length)), (36, .pv (.int .i64 ((i + 1 : Nat) : Int)))] []) := by
      intro hl
      refine iteE (fun h0 => stop ⟨hl, .inl (by omega)⟩) fun h0 => iteD (fun h1 => stop ⟨hl, .inr (dig_false (by omega))⟩) fun h1 => iteD (fun h2 => stop ⟨hl, .inr (dig_false (by omega))⟩) fun h2 => go (.inr ⟨by omega, digB_iff.2 (by omega)⟩)
    refine iteT (lt_ok' (by rw [bytes_len]; exact hlt)) ⟨by rw [bytes_len]; simp [hlt], by rfl, ?_⟩
    refine iteD (fun h1 => rest (low_false ?_)) fun h1 => iteD (fun h2 => rest (low_false ?_)) fun h2 => go (.inl (low_iff.2 ?_))
    · have h1 : (s[i].toNat : Int) < 97 := h1
      omega
    · have h2 : (s[i].toNat : Int) > 122 := h2
      omega
    · have h1 : ¬ (s[i].toNat : Int) < 97 := h1
      have h2 : ¬ (s[i].toNat : Int) > 122 := h2
      omega
theorem name_body {s : List UInt8} (h : [95].isPrefixOf s = false) : nameB ⟨s⟩ = bodyB s 0 := by
  cases s with
  | nil => rfl
  | cons c r =>
    have hc : ¬ c = 95 := by intro e; subst e; simp at h
    have e : decide ((c :: r).length ≤ 30) = decide (r.length ≤ 29) := decide_eq_decide.2 (by simp)
    unfold bodyB
    rw [e]
    simp only [nameB, if_neg hc]
    show _ = (lowB c && r.all low1 && !((c :: r) == []) && _)
    have e2 : ((c :: r) == []) = false := rfl
    rw [e2]
    simp only [Bool.not_false, Bool.and_true]
    rfl
theorem atoi_range (s : Str) : -9223372036854775808 ≤ (atoiE s).1 ∧ ((atoiE s).1 ≤ 9223372036854775807) := by
  unfold atoiE
  split
  · rename_i v hv; exact Lib.atoiAll_bounds hv
  · have := Lib.atoiSat_bounds s.s
    exact ⟨by show _ ≤ Lib.atoiSat s.s; omega, by show Lib.atoiSat s.s ≤ _; omega⟩
  · exact ⟨by show (-9223372036854775808 : Int) ≤ 0; omega, by show (0 : Int) ≤ _; omega⟩
theorem lname_run : ∀ a : Str × Unit, decide (a.1.s.length ≤ 1000000) = true → Gets T_lname 0 (endP' rs_lname (Fits (nameB a.1))) ic_lname [] (st0 nt_lname (encL a)) := by
  rintro ⟨⟨s⟩, ⟨⟩⟩ hl
  have hl : s.length ≤ 1000000 := by simpa using hl
  refine lname_s s (ex_enc (⟨s⟩, ⟨[95]⟩, ()) rfl (iteB (fun h => ?_) fun h => ?_))
  · have h : [95].isPrefixOf s = true := h
    obtain ⟨r, rfl⟩ : ∃ r, s = 95 :: r := by
      cases s with
      | nil => simp at h
      | cons c r =>
        have : 95 = c := by simpa using h
        exact ⟨r, by rw [this]⟩
    have e1 : List.drop (Int.toNat 1) (List.take (List.length (95 :: r)) (95 :: r)) = r := by rw [List.take_of_length_le (Nat.le_refl _)]; rfl
    simp only [e1]
    refine ⟨by simp, pre_enc (⟨r⟩, ()) rfl (by simp at hl ⊢; omega), ex_enc (⟨r⟩, ()) rfl ⟨by show (isIfP (enc (atoiE ⟨r⟩).2) && true) = true; rw [if_ok]; rfl, ?_⟩⟩
    show if isNilI (enc (atoiE ⟨r⟩).2) = true then (if decide ((atoiE ⟨r⟩).1 > 0) = true then (if _ then _ else Fits (nameB ⟨95 :: r⟩) _) else Fits (nameB ⟨95 :: r⟩) _) else Fits (nameB ⟨95 :: r⟩) _
    rw [nameB_us]
    by_cases h9 : r.length ≤ 9
    · rw [← numeral r h9, decide_eq_true h9, Bool.and_true]
      refine iteB (fun h1 => iteB (fun h2 => iteT (by simp; omega) ⟨pre_enc ((atoiE ⟨r⟩).1, ()) rfl (by have := atoi_range ⟨r⟩; simp; omega), ex_enc ((atoiE ⟨r⟩).1, ()) rfl ⟨by simp, fitB ?_⟩⟩) fun h2 => fitB ?_) fun h1 => fitB ?_
      · rw [h1, h2]; simp only [Bool.true_and, Bool.and_true]; rfl
      · rw [h2]; simp
      · rw [h1]; simp
    · rw [decide_eq_false h9, Bool.and_false]
      refine iteB (fun h1 => iteB (fun h2 => iteF (by simp; omega) (fitB rfl)) fun h2 => fitB rfl) fun h1 => fitB rfl
  · have h : [95].isPrefixOf s = false := h
    show At T_lname 0 (endP' rs_lname (Fits (nameB ⟨s⟩))) ic_lname 0 67 _ _
    rw [name_body h]
    exact lname_loop s hl s.length 0 (by omega)
theorem lvalid_loop (l : Lin) (hl : l.t.length ≤ 9223372036854775807) (hs : l.t.all (fun t => decide (t.v.s.length ≤ 1000000)) = true) : ∀ (j i : Nat), j + i = l.t.length → At T_lvalid 0 (endP' rs_lvalid (Fits (chkT (pvS l.t i) (l.t.drop i) && (coefIn l.k && decide (l.t.length ≤ 12))))) ic_lvalid 0 54 [(1, .ptr 0 0), (6, .pv (enc l.t)), (7, .pv (.int .i64 l.t.length)), (8, .pv (.int .i64 i))] [.obj (.box [.pv (.int .i64 l.k), .pv (enc l.t)])] := by
  intro j
  induction j with
  | zero =>
    intro i hi
    refine lvalid_h0 l i (iteF (lt_no' (by omega)) (ex_enc (l.k, ()) rfl ?_))
    rw [List.drop_of_length_le (show l.t.length ≤ i by omega)]
    refine iteB (fun h => fitB ?_) fun h => fitB ?_
    · have h : coefIn l.k = true := h
      rw [h]
      show _ = (true && (true && _))
      rw [Bool.true_and, Bool.true_and]
      exact decide_eq_decide.2 (by simp; omega)
    · have h : coefIn l.k = false := h
      rw [h]; simp
  | succ j ih =>
    intro i hi
    have hlt : i < l.t.length := by omega
    have h := ih (i + 1) (by omega)
    have hsi : l.t[i].v.s.length ≤ 1000000 := by rw [List.all_eq_true] at hs; simpa using hs _ (List.getElem_mem hlt)
    refine lvalid_h0 l i ?_
    refine iteT (lt_ok' hlt) ⟨idx_ok hlt rfl, el_ex hlt ⟨pre_enc (l.t[i].v, ()) rfl (by simpa using hsi), ex_enc (l.t[i].v, ()) rfl (iteN (fun hn => ?_) fun hn => iteE (fun hc => ?_) fun hc => ex_enc (l.t[i].c, ()) rfl (iteN (fun hk => ?_) fun hk => ?_))⟩⟩
    all_goals rw [List.drop_eq_getElem_cons hlt, chk_cons]
    · have hn : nameB l.t[i].v = false := hn
      exact fitB (by simp [hn])
    · have hc : l.t[i].c = 0 := hc
      exact fitB (by simp [hc])
    · have hk : coefIn l.t[i].c = false := hk
      exact fitB (by simp [hk])
    have hn : nameB l.t[i].v = true := hn
    have hk : coefIn l.t[i].c = true := hk
    have hc : l.t[i].c ≠ 0 := hc
    rw [next (by omega), hn, hk, decide_eq_true hc]
    have ep : pvS l.t (i + 1) = some l.t[i].v.s := by simp [pvS, hlt]
    rw [ep] at h
    cases i with
    | zero => exact iteF (by simp) h
    | succ i =>
      refine iteT (by simp) ?_
      rw [pred_ok (by omega)]
      refine ⟨idx_ok (by omega) rfl, el_ex (by omega) ?_⟩
      have e2 : pvS l.t (i + 1) = some l.t[i].v.s := by simp [pvS, show i < l.t.length by omega]
      rw [e2]
      refine iteN (fun hb => ?_) fun hb => ?_
      all_goals
        have hb' := (bytesLess_eq l.t[i].v.s l.t[i + 1].v.s).symm.trans hb
        simp only [hb', Bool.and_true, Bool.true_and, Bool.and_false, Bool.false_and]
      · exact fitB rfl
      · exact h
theorem lvalid_run : ∀ a : Lin × Unit, linSm a.1 = true → Gets T_lvalid 0 (endP' rs_lvalid (Fits (validL a.1))) ic_lvalid [] (st0 nt_lvalid (encL a)) := by
  rintro ⟨l, ⟨⟩⟩ hl
  simp only [linSm, linOk, Bool.and_eq_true, decide_eq_true_eq] at hl
  refine lvalid_s l ?_
  show At T_lvalid 0 (endP' rs_lvalid (Fits (validL l))) ic_lvalid 0 54 _ _
  have e : validL l = (chkT (pvS l.t 0) (l.t.drop 0) && (coefIn l.k && decide (l.t.length ≤ 12))) := by rw [valid_eq, Bool.and_comm]; rfl
  rw [e, List.length_map]
  exact lvalid_loop l hl.1 hl.2 l.t.length 0 (by omega)
end Go.Pl

namespace Go.Pl
open Go.RowKit
open Enc (enc dec is)
open EncL (encL decL isL)
structure LR where
  k : Int
  w : Nat
  ts : List Coef
def LR.view (r : LR) : Lin := ⟨r.k, r.ts.take r.w⟩
def LR.av (r : LR) (l : Nat) : AV := .agg [.pv (.int .i64 r.k), .row l r.ts.length 0 r.w]
def LR.ob (r : LR) : AObj := .row false 87 2 (r.ts.map enc)
def compL : Nat → Nat → Nat → List Coef → List Coef × Nat
  | 0, _, j, ts => (ts, j)
  | m + 1, i, j, ts => if (ts.getD i ⟨⟨[]⟩, 0⟩).c = 0 then compL m (i + 1) j ts else compL m (i + 1) (j + 1) (ts.set j (ts.getD i ⟨⟨[]⟩, 0⟩))
def packR (k : Int) (o : List Coef) : LR := ⟨k, (compL o.length 0 0 o).2, (compL o.length 0 0 o).1⟩
def plusR (l : Lin) (s : Str) (c : Int) : LR := packR l.k (insT s c false l.t)
def timesR (l x : Lin) (k : Int) : LR := x.t.foldl (fun o t => plusR o.view t.v (w64 (k * t.c))) ⟨w64 (l.k + w64 (k * x.k)), l.t.length, l.t⟩
theorem comp_len : ∀ (m i j : Nat) (ts : List Coef), (compL m i j ts).1.length = ts.length
  | 0, _, _, _ => rfl
  | m + 1, i, j, ts => by
    rw [compL]
    split
    · exact comp_len m _ _ _
    · rw [comp_len m]; simp
theorem comp_w : ∀ (m i j : Nat) (ts : List Coef), m + i = ts.length → j ≤ i → (compL m i j ts).2 ≤ ts.length
  | 0, i, j, ts, h, hj => by rw [compL]; show j ≤ _; omega
  | m + 1, i, j, ts, h, hj => by
    rw [compL]
    split
    · exact comp_w m _ _ _ (by omega) (by omega)
    · have := comp_w m (i + 1) (j + 1) (ts.set j (ts.getD i ⟨⟨[]⟩, 0⟩)) (by simp; omega) (by omega)
      simpa using this
theorem pack_len (k : Int) (o : List Coef) : (packR k o).ts.length = o.length := comp_len _ _ _ _
theorem pack_w (k : Int) (o : List Coef) : (packR k o).w ≤ o.length := comp_w _ _ _ _ (by omega) (by omega)
theorem comp_take (o : List Coef) : ∀ (m i j : Nat) (ts : List Coef), m + i = o.length → ts.length = o.length → j ≤ i → ts.take j = (o.take i).filter (fun t => decide (t.c ≠ 0)) → ts.drop i = o.drop i → (compL m i j ts).1.take (compL m i j ts).2 = o.filter fun t => decide (t.c ≠ 0)
  | 0, i, j, ts, hm, hts, hji, h1, h2 => by
    rw [compL]
    show ts.take j = _
    rw [h1, List.take_of_length_le (by omega)]
  | m + 1, i, j, ts, hm, hts, hji, h1, h2 => by
    have hlt : i < o.length := by omega
    have hi' : i < ts.length := by omega
    have hj' : j < ts.length := by omega
    have ei : ts[i] = o[i] := by
      have : (ts.drop i)[0]? = (o.drop i)[0]? := by rw [h2]
      simpa [hi', hlt] using this
    have htk : (o.take (i + 1)) = o.take i ++ [o[i]] := by rw [List.take_add_one, List.getElem?_eq_getElem hlt]; rfl
    have eg : ts.getD i ⟨⟨[]⟩, 0⟩ = ts[i] := by simp [List.getD, hi']
    rw [compL, eg]
    split
    · rename_i hz
      refine comp_take o m (i + 1) j ts (by omega) hts (by omega) ?_ ?_
      · rw [h1, htk, List.filter_append]
        have : o[i].c = 0 := by rw [← ei]; exact hz
        simp [this]
      · have := congrArg (List.drop 1) h2
        simpa [List.drop_drop, Nat.add_comm] using this
    · rename_i hz
      refine comp_take o m (i + 1) (j + 1) (ts.set j ts[i]) (by omega) (by simp [hts]) (by omega) ?_ ?_
      · rw [htk, List.filter_append, ← h1]
        have : decide (o[i].c ≠ 0) = true := by rw [← ei]; exact decide_eq_true hz
        simp only [List.filter_cons, this, if_true, List.filter_nil]
        rw [List.take_add_one, List.getElem?_set_self hj', List.take_set_of_le (Nat.le_refl j), ei]
        rfl
      · rw [List.drop_set_of_lt (by omega)]
        have := congrArg (List.drop 1) h2
        simpa [List.drop_drop, Nat.add_comm] using this
theorem plusR_view (l : Lin) (s : Str) (c : Int) : (plusR l s c).view = plusL l s c := by
  show (⟨_, _⟩ : Lin) = ⟨_, _⟩
  congr 1
  exact comp_take _ _ 0 0 _ (by omega) rfl (by omega) (by simp) rfl
theorem foldR_view (k : Int) : ∀ (x : List Coef) (r : LR), (x.foldl (fun o t => plusR o.view t.v (w64 (k * t.c))) r).view = x.foldl (fun o t => plusL o t.v (w64 (k * t.c))) r.view
  | [], r => rfl
  | t :: x, r => by rw [List.foldl_cons, List.foldl_cons, foldR_view k x, plusR_view]
theorem timesR_view (l x : Lin) (k : Int) : (timesR l x k).view = timesL l x k := by
  have := foldR_view k x.t ⟨w64 (l.k + w64 (k * x.k)), l.t.length, l.t⟩
  have e : LR.view ⟨w64 (l.k + w64 (k * x.k)), l.t.length, l.t⟩ = ⟨w64 (l.k + w64 (k * x.k)), l.t⟩ := by
    show (⟨_, l.t.take l.t.length⟩ : Lin) = _
    rw [List.take_length]
  rw [e] at this
  exact this
def pre_plusF : List AV → List AObj → Bool
  | [.pv l, .pv (.str s), .pv (.int .i64 c)], [] => can Lin l && decide ((dec l : Lin).t.length ≤ 1000000)
  | _, _ => false
def newR (r : LR) (l : Nat) (os : List AObj) : AV × List AObj × List AObj := (r.av l, os, [r.ob])
def val_plusF : List AV → List AObj → AV × List AObj × List AObj
  | [.pv l, .pv (.str s), .pv (.int .i64 c)], _ => newR (plusR (dec l) ⟨s⟩ c) 0 []
  | _, _ => combN
def linW (k : Int) (w : Nat) (xs : List PV) : Lin := ⟨k, ((dec (PV.sl 2 false xs) : List Coef)).take w⟩
def pre_plusW : List AV → List AObj → Bool
  | [.agg [.pv (.int .i64 k), .row 0 q 0 w], .pv (.str s), .pv (.int .i64 c)], [.row fz ty 2 xs] => can (List Coef) (.sl 2 false xs) && xs.length == q && decide (w ≤ q) && decide (w ≤ 1000000)
  | _, _ => false
def val_plusW : List AV → List AObj → AV × List AObj × List AObj
  | [.agg [.pv (.int .i64 k), .row 0 q 0 w], .pv (.str s), .pv (.int .i64 c)], [.row fz ty 2 xs] => newR (plusR (linW k w xs) ⟨s⟩ c) 1 [.row true ty 2 xs]
  | _, _ => combN
def pre_timesF : List AV → List AObj → Bool
  | [.pv l, .pv x, .pv (.int .i64 k)], [] => can Lin l && can Lin x && decide ((dec l : Lin).t.length ≤ 500000) && decide ((dec x : Lin).t.length ≤ 500000)
  | _, _ => false
def val_times : List AV → List AObj → AV × List AObj × List AObj
  | [.pv l, .pv x, .pv (.int .i64 k)], [] => newR (timesR (dec l) (dec x) k) 0 []
  | [.agg [.pv (.int .i64 c), .row 0 q 0 w], .pv x, .pv (.int .i64 k)], [.row fz ty 2 xs] => newR (timesR (linW c w xs) (dec x) k) 1 [.row true ty 2 xs]
  | _, _ => combN
def zeroL : PV := .agg [.int .i64 0, .sl 0 true []]
end Go.Pl

namespace Go.Pl
open Go.RowKit
open Enc (enc dec is)
open EncL (encL decL isL)
set_option maxRecDepth 100000
def ic_pluso : IC := (.seq (.reg [⟨(some 3), (.box 2 (.t 0)), 0, none⟩, ⟨(some 6), (.alloc (.agg [(.int .i64 0), (.sl 0 true [])])), 1, none⟩] none) (.seq (.reg [⟨(some 13), (.faddr 0 (.t 3)), 0, none⟩, ⟨(some 14), (.load false [(.int .i64)] (.t 13)), 0, none⟩, ⟨(some 15), (.build [(.int .i64 0), (.sl 0 true [])] [(0, (1, (.t 14)))]), 0, none⟩, ⟨(some 7), (.alloc (.agg [(.int .i64 0), (.sl 0 true [])])), 0, none⟩, ⟨none, (.store 2 (.t 7) (.t 15)), 1, none⟩] none) (.seq (.reg [⟨(some 8), (.mv (.c (.bool false))), 0, none⟩] none) (.seq (.seq (.reg [⟨(some 9), (.mv (.c (.int .i64 0))), 0, none⟩] none) (.block 0 (.loop [9, 3, 8, 1, 7, 2, 6] (.seq (.seq (.reg [⟨(some 16), (.mv (.t 9)), 0, none⟩, ⟨(some 17), (.faddr 1 (.t 3)), 0, none⟩, ⟨(some 18), (.load false [(.sl 2)] (.t 17)), 0, none⟩, ⟨(some 19), (.len 1 (.t 18)), 0, none⟩, ⟨(some 20), (.bin .num .lss (.t 16) (.t 19)), 0, none⟩] none) (.cond (.t 20) .skip (.exit 0))) (.seq (.block 1 (.seq (.reg [⟨(some 23), (.faddr 1 (.t 3)), 0, none⟩, ⟨(some 24), (.load false [(.sl 2)] (.t 23)), 0, none⟩, ⟨(some 25), (.mv (.t 9)), 0, none⟩, ⟨(some 26), (.iaddr 2 (.t 24) (.t 25)), 0, none⟩, ⟨(some 27), (.load true [.str, (.int .i64)] (.t 26)), 0, none⟩, ⟨(some 10), (.alloc (.agg [(.str []), (.int .i64 0)])), 0, none⟩, ⟨none, (.store 2 (.t 10) (.t 27)), 1, none⟩] none) (.seq (.seq (.reg [⟨(some 28), (.mv (.t 8)), 0, none⟩, ⟨(some 29), (.un .not (.t 28)), 0, none⟩, ⟨(some 30), (.mv (.t 29)), 0, none⟩, ⟨(some 31), (.faddr 0 (.t 10)), 0, (some (30, true))⟩, ⟨(some 32), (.load false [.str] (.t 31)), 0, (some (30, true))⟩, ⟨(some 33), (.mv (.t 1)), 0, (some (30, true))⟩, ⟨(some 34), (.bin .num .gtr (.t 32) (.t 33)), 0, (some (30, true))⟩, ⟨(some 35), (.pick (.t 30) (.t 34) (.c (.bool false))), 0, none⟩] none) (.cond (.t 35) (.seq (.reg [⟨(some 36), (.faddr 1 (.t 7)), 0, none⟩, ⟨(some 37), (.load false [(.sl 2)] (.t 36)), 0, none⟩, ⟨(some 38), (.mv (.t 1)), 0, none⟩, ⟨(some 39), (.mv (.t 2)), 0, none⟩, ⟨(some 40), (.build [(.str []), (.int .i64 0)] [(0, (1, (.t 38))), (1, (1, (.t 39)))]), 0, none⟩, ⟨(some 41), (.bslice 87 2 1 (.agg [(.str []), (.int .i64 0)]) [(0, (.t 40))]), 0, none⟩, ⟨(some 42), (.append 87 2 24 (.t 37) (.t 41)), 1, none⟩, ⟨(some 43), (.faddr 1 (.t 7)), 2, none⟩, ⟨none, (.store 1 (.t 43) (.t 42)), 2, none⟩] none) (.reg [⟨(some 8), (.mv (.c (.bool true))), 0, none⟩] none)) .skip)) (.seq (.seq (.reg [⟨(some 44), (.faddr 0 (.t 10)), 0, none⟩, ⟨(some 45), (.load false [.str] (.t 44)), 0, none⟩, ⟨(some 46), (.mv (.t 1)), 0, none⟩, ⟨(some 47), (.bin .num .eql (.t 45) (.t 46)), 0, none⟩] none) (.cond (.t 47) (.seq (.reg [⟨(some 48), (.faddr 1 (.t 10)), 0, none⟩, ⟨(some 49), (.load false [(.int .i64)] (.t 48)), 0, none⟩, ⟨(some 50), (.mv (.t 2)), 0, none⟩, ⟨(some 51), (.bin .num .add (.t 49) (.t 50)), 0, none⟩, ⟨(some 52), (.faddr 1 (.t 10)), 0, none⟩, ⟨none, (.store 1 (.t 52) (.t 51)), 0, none⟩] none) (.reg [⟨(some 8), (.mv (.c (.bool true))), 0, none⟩] none)) .skip)) (.reg [⟨(some 53), (.faddr 1 (.t 7)), 0, none⟩, ⟨(some 54), (.load false [(.sl 2)] (.t 53)), 0, none⟩, ⟨(some 55), (.load true [.str, (.int .i64)] (.t 10)), 0, none⟩, ⟨(some 56), (.bslice 87 2 1 (.agg [(.str []), (.int .i64 0)]) [(0, (.t 55))]), 0, none⟩, ⟨(some 57), (.append 87 2 24 (.t 54) (.t 56)), 1, none⟩, ⟨(some 58), (.faddr 1 (.t 7)), 2, none⟩, ⟨none, (.store 1 (.t 58) (.t 57)), 2, none⟩] none))))) (.reg [⟨(some 21), (.mv (.t 9)), 0, none⟩, ⟨(some 22), (.bin .num .add (.t 21) (.c (.int .i64 1))), 0, none⟩, ⟨(some 9), (.mv (.t 22)), 0, none⟩] none)))))) (.seq (.seq (.reg [⟨(some 59), (.mv (.t 8)), 0, none⟩, ⟨(some 60), (.un .not (.t 59)), 0, none⟩] none) (.cond (.t 60) (.reg [⟨(some 61), (.faddr 1 (.t 7)), 0, none⟩, ⟨(some 62), (.load false [(.sl 2)] (.t 61)), 0, none⟩, ⟨(some 63), (.mv (.t 1)), 0, none⟩, ⟨(some 64), (.mv (.t 2)), 0, none⟩, ⟨(some 65), (.build [(.str []), (.int .i64 0)] [(0, (1, (.t 63))), (1, (1, (.t 64)))]), 0, none⟩, ⟨(some 66), (.bslice 87 2 1 (.agg [(.str []), (.int .i64 0)]) [(0, (.t 65))]), 0, none⟩, ⟨(some 67), (.append 87 2 24 (.t 62) (.t 66)), 1, none⟩, ⟨(some 68), (.faddr 1 (.t 7)), 2, none⟩, ⟨none, (.store 1 (.t 68) (.t 67)), 2, none⟩] none) .skip)) (.seq (.reg [⟨(some 11), (.mv (.c (.int .i64 0))), 0, none⟩] none) (.seq (.seq (.reg [⟨(some 12), (.mv (.c (.int .i64 0))), 0, none⟩] none) (.block 2 (.loop [12, 7, 11, 6] (.seq (.seq (.reg [⟨(some 69), (.mv (.t 12)), 0, none⟩, ⟨(some 70), (.faddr 1 (.t 7)), 0, none⟩, ⟨(some 71), (.load false [(.sl 2)] (.t 70)), 0, none⟩, ⟨(some 72), (.len 1 (.t 71)), 0, none⟩, ⟨(some 73), (.bin .num .lss (.t 69) (.t 72)), 0, none⟩] none) (.cond (.t 73) .skip (.exit 2))) (.seq (.block 3 (.seq (.reg [⟨(some 76), (.faddr 1 (.t 7)), 0, none⟩, ⟨(some 77), (.load false [(.sl 2)] (.t 76)), 0, none⟩, ⟨(some 78), (.mv (.t 12)), 0, none⟩, ⟨(some 79), (.iaddr 2 (.t 77) (.t 78)), 0, none⟩, ⟨(some 80), (.faddr 1 (.t 79)), 0, none⟩, ⟨(some 81), (.load false [(.int .i64)] (.t 80)), 0, none⟩, ⟨(some 82), (.bin .num .neq (.t 81) (.c (.int .i64 0))), 0, none⟩] none) (.cond (.t 82) (.seq (.reg [⟨(some 83), (.faddr 1 (.t 7)), 0, none⟩, ⟨(some 84), (.load false [(.sl 2)] (.t 83)), 0, none⟩, ⟨(some 85), (.mv (.t 11)), 0, none⟩, ⟨(some 86), (.faddr 1 (.t 7)), 0, none⟩, ⟨(some 87), (.load false [(.sl 2)] (.t 86)), 0, none⟩, ⟨(some 88), (.mv (.t 12)), 0, none⟩, ⟨(some 89), (.iaddr 2 (.t 87) (.t 88)), 0, none⟩, ⟨(some 90), (.load true [.str, (.int .i64)] (.t 89)), 0, none⟩, ⟨(some 91), (.iaddr 2 (.t 84) (.t 85)), 0, none⟩, ⟨none, (.store 2 (.t 91) (.t 90)), 0, none⟩] (some [[], [0], [], [], [3], [], [4, 5, 3], [6, 4, 5, 3], [1, 2, 0, 3, 4, 5, 6, 7], [8, 7, 0, 1, 2, 3, 4, 5, 6]])) (.reg [⟨(some 92), (.mv (.t 11)), 0, none⟩, ⟨(some 93), (.bin .num .add (.t 92) (.c (.int .i64 1))), 0, none⟩, ⟨(some 11), (.mv (.t 93)), 0, none⟩] none)) .skip))) (.reg [⟨(some 74), (.mv (.t 12)), 0, none⟩, ⟨(some 75), (.bin .num .add (.t 74) (.c (.int .i64 1))), 0, none⟩, ⟨(some 12), (.mv (.t 75)), 0, none⟩] none)))))) (.seq (.reg [⟨(some 94), (.faddr 1 (.t 7)), 0, none⟩, ⟨(some 95), (.load false [(.sl 2)] (.t 94)), 0, none⟩, ⟨(some 96), (.mv (.t 11)), 0, none⟩, ⟨(some 97), (.slc 2 (.t 95) none (some (.t 96)) none), 0, none⟩, ⟨(some 98), (.faddr 1 (.t 7)), 0, none⟩, ⟨none, (.store 1 (.t 98) (.t 97)), 0, none⟩] none) (.seq (.reg [⟨(some 99), (.load true [(.int .i64), (.sl 2)] (.t 7)), 0, none⟩, ⟨none, (.store 2 (.t 6) (.t 99)), 0, none⟩] none) .ret)))))))))
def rs_pluso : List IRes := [(.cell true 2 6)]
abbrev nt_pluso : Nat := 100
def T_pluso : Tab := tab []
theorem pluso_s {G : AV × List AObj × List AObj → Prop} (l : Lin) (s : List UInt8) (c : Int) (h : At T_pluso 0 (endO' 0 rs_pluso G) ic_pluso 0 100 [(1, (.pv (.str s))), (2, (.pv (.int .i64 c))), (3, (.ptr 0 0)), (6, (.ptr 1 0)), (7, (.ptr 2 0)), (8, (.pv (.bool false))), (9, (.pv (.int .i64 0)))] [(.obj (.box [(.pv (.int .i64 l.k)), (.pv (.sl 2 false (List.map enc l.t)))])), (.obj (.box [(.pv (.int .i64 0)), (.pv (.sl 0 true []))])), (.obj (.box [(.pv (.int .i64 l.k)), (.pv (.sl 0 true []))]))]) : Gets T_pluso 0 (endO' 0 rs_pluso G) ic_pluso [] (st0O 100 [.pv (enc l), .pv (.str s), .pv (enc c)] []) := Gets.to (.nil) h (by kernel_rfl)
theorem pluso_h0a {G : AV × List AObj × List AObj → Prop} (l : Lin) (s : List UInt8) (c : Int) (p : Bool) (i : Int) (h : if (decide (i < (↑(List.length (List.map enc l.t)) : Int))) = true then (decide (0 ≤ i) && decide (Int.toNat i < List.length (List.map enc l.t)) && Enc.sz Coef == 2) = true ∧ (∃ y0 : Coef, AV.pv (PV.rptr (PV.cells (List.getD (List.map enc l.t) (Int.toNat i) default))) = AV.pv (PV.rptr (PV.cells ((enc) y0))) ∧ (if (!p) = true then if (!(Op.bytesLess (PV.asStr (List.getD (PV.cells (enc y0)) 0 default)) s || PV.asStr (List.getD (PV.cells (enc y0)) 0 default) == s)) = true then if (PV.asStr (List.getD (PV.cells (enc y0)) 0 default) == s) = true then At T_pluso 0 (endO' 0 rs_pluso G) ic_pluso 0 100 [(1, (.pv (.str s))), (2, (.pv (.int .i64 c))), (3, (.ptr 0 0)), (6, (.ptr 1 0)), (7, (.ptr 2 0)), (8, (.pv (.bool true))), (9, (.pv (.int .i64 (IntKind.wrap IntKind.i64 (i + 1)))))] [(.obj (.box [(.pv (.int .i64 l.k)), (.pv (.sl 2 false (List.map enc l.t)))])), (.obj (.box [(.pv (.int .i64 0)), (.pv (.sl 0 true []))])), (.obj (.box [(.pv (.int .i64 l.k)), (.row 3 2 0 2)])), (.obj (.row false 87 2 [(.agg [(.str s), (.int .i64 c)]), (.agg [(.str (PV.asStr (List.getD (PV.cells (enc y0)) 0 default))), (.int .i64 (IntKind.wrap IntKind.i64 (PV.asInt (List.getD (PV.cells (enc y0)) (0 + 1) default) + c)))])]))] else (At T_pluso 0 (endO' 0 rs_pluso G) ic_pluso 0 100 [(1, (.pv (.str s))), (2, (.pv (.int .i64 c))), (3, (.ptr 0 0)), (6, (.ptr 1 0)), (7, (.ptr 2 0)), (8, (.pv (.bool true))), (9, (.pv (.int .i64 (IntKind.wrap IntKind.i64 (i + 1)))))] [(.obj (.box [(.pv (.int .i64 l.k)), (.pv (.sl 2 false (List.map enc l.t)))])), (.obj (.box [(.pv (.int .i64 0)), (.pv (.sl 0 true []))])), (.obj (.box [(.pv (.int .i64 l.k)), (.row 3 2 0 2)])), (.obj (.row false 87 2 [(.agg [(.str s), (.int .i64 c)]), (.agg [(.str (PV.asStr (List.getD (PV.cells (enc y0)) 0 default))), (.int .i64 (PV.asInt (List.getD (PV.cells (enc y0)) (0 + 1) default)))])]))]) else (if (PV.asStr (List.getD (PV.cells (enc y0)) 0 default) == s) = true then At T_pluso 0 (endO' 0 rs_pluso G) ic_pluso 0 100 [(1, (.pv (.str s))), (2, (.pv (.int .i64 c))), (3, (.ptr 0 0)), (6, (.ptr 1 0)), (7, (.ptr 2 0)), (8, (.pv (.bool true))), (9, (.pv (.int .i64 (IntKind.wrap IntKind.i64 (i + 1)))))] [(.obj (.box [(.pv (.int .i64 l.k)), (.pv (.sl 2 false (List.map enc l.t)))])), (.obj (.box [(.pv (.int .i64 0)), (.pv (.sl 0 true []))])), (.obj (.box [(.pv (.int .i64 l.k)), (.row 3 1 0 1)])), (.obj (.row false 87 2 [(.agg [(.str (PV.asStr (List.getD (PV.cells (enc y0)) 0 default))), (.int .i64 (IntKind.wrap IntKind.i64 (PV.asInt (List.getD (PV.cells (enc y0)) (0 + 1) default) + c)))])]))] else (At T_pluso 0 (endO' 0 rs_pluso G) ic_pluso 0 100 [(1, (.pv (.str s))), (2, (.pv (.int .i64 c))), (3, (.ptr 0 0)), (6, (.ptr 1 0)), (7, (.ptr 2 0)), (8, (.pv (.bool p))), (9, (.pv (.int .i64 (IntKind.wrap IntKind.i64 (i + 1)))))] [(.obj (.box [(.pv (.int .i64 l.k)), (.pv (.sl 2 false (List.map enc l.t)))])), (.obj (.box [(.pv (.int .i64 0)), (.pv (.sl 0 true []))])), (.obj (.box [(.pv (.int .i64 l.k)), (.row 3 1 0 1)])), (.obj (.row false 87 2 [(.agg [(.str (PV.asStr (List.getD (PV.cells (enc y0)) 0 default))), (.int .i64 (PV.asInt (List.getD (PV.cells (enc y0)) (0 + 1) default)))])]))])) else (if (PV.asStr (List.getD (PV.cells (enc y0)) 0 default) == s) = true then At T_pluso 0 (endO' 0 rs_pluso G) ic_pluso 0 100 [(1, (.pv (.str s))), (2, (.pv (.int .i64 c))), (3, (.ptr 0 0)), (6, (.ptr 1 0)), (7, (.ptr 2 0)), (8, (.pv (.bool true))), (9, (.pv (.int .i64 (IntKind.wrap IntKind.i64 (i + 1)))))] [(.obj (.box [(.pv (.int .i64 l.k)), (.pv (.sl 2 false (List.map enc l.t)))])), (.obj (.box [(.pv (.int .i64 0)), (.pv (.sl 0 true []))])), (.obj (.box [(.pv (.int .i64 l.k)), (.row 3 1 0 1)])), (.obj (.row false 87 2 [(.agg [(.str (PV.asStr (List.getD (PV.cells (enc y0)) 0 default))), (.int .i64 (IntKind.wrap IntKind.i64 (PV.asInt (List.getD (PV.cells (enc y0)) (0 + 1) default) + c)))])]))] else (At T_pluso 0 (endO' 0 rs_pluso G) ic_pluso 0 100 [(1, (.pv (.str s))), (2, (.pv (.int .i64 c))), (3, (.ptr 0 0)), (6, (.ptr 1 0)), (7, (.ptr 2 0)), (8, (.pv (.bool p))), (9, (.pv (.int .i64 (IntKind.wrap IntKind.i64 (i + 1)))))] [(.obj (.box [(.pv (.int .i64 l.k)), (.pv (.sl 2 false (List.map enc l.t)))])), (.obj (.box [(.pv (.int .i64 0)), (.pv (.sl 0 true []))])), (.obj (.box [(.pv (.int .i64 l.k)), (.row 3 1 0 1)])), (.obj (.row false 87 2 [(.agg [(.str (PV.asStr (List.getD (PV.cells (enc y0)) 0 default))), (.int .i64 (PV.asInt (List.getD (PV.cells (enc y0)) (0 + 1) default)))])]))])))) else (if (!p) = true then At T_pluso 0 (endO' 0 rs_pluso G) ic_pluso 1 100 [(6, (.ptr 0 0)), (7, (.ptr 1 0)), (11, (.pv (.int .i64 0))), (12, (.pv (.int .i64 0)))] [(.obj (.box [(.pv (.int .i64 0)), (.pv (.sl 0 true []))])), (.obj (.box [(.pv (.int .i64 l.k)), (.row 2 1 0 1)])), (.obj (.row false 87 2 [(.agg [(.str s), (.int .i64 c)])]))] else (At T_pluso 0 (endO' 0 rs_pluso G) ic_pluso 1 100 [(6, (.ptr 0 0)), (7, (.ptr 1 0)), (11, (.pv (.int .i64 0))), (12, (.pv (.int .i64 0)))] [(.obj (.box [(.pv (.int .i64 0)), (.pv (.sl 0 true []))])), (.obj (.box [(.pv (.int .i64 l.k)), (.pv (.sl 0 true []))]))]))) : At T_pluso 0 (endO' 0 rs_pluso G) ic_pluso 0 100 [(1, .pv (.str s)), (2, .pv (.int .i64 c)), (3, .ptr 0 0), (6, .ptr 1 0), (7, .ptr 2 0), (8, .pv (.bool p)), (9, .pv (.int .i64 i))] [.obj (.box [.pv (.int .i64 l.k), .pv (enc l.t)]), .obj (.box [.pv (.int .i64 0), .pv (.sl 0 true [])]), .obj (.box [.pv (.int .i64 l.k), .pv (.sl 0 true [])])] := At.to (.lit (.ask (.req (.abs (Coef) (fun YY => AV.pv (PV.rptr (PV.cells ((enc) YY)))) (.lit (.ask (.lit (.lit (.lit (.lit (.lit (.ask (.lit (.lit (.lit (.lit (.lit (.lit (.ask (.lit (.lit (.lit (.lit (.lit (.nil)))))) (.lit (.lit (.lit (.lit (.nil)))))))))))) (.lit (.ask (.lit (.lit (.lit (.lit (.lit (.lit (.lit (.nil)))))))) (.lit (.lit (.lit (.lit (.lit (.lit (.nil))))))))))))))) (.lit (.lit (.lit (.lit (.lit (.lit (.ask (.lit (.lit (.lit (.lit (.lit (.lit (.lit (.nil)))))))) (.lit (.lit (.lit (.lit (.lit (.lit (.nil)))))))))))))))))) (.ask (.lit (.lit (.lit (.lit (.lit (.nil)))))) (.nil)))) h (by kernel_rfl)
theorem pluso_h1r {G : AV × List AObj × List AObj → Prop} (l : Lin) (s : List UInt8) (c : Int) (j i : Int) (q : Nat) (ts : List Coef) (h : if (decide (i < (↑(q - 0) : Int))) = true then (decide (0 ≤ i) && decide (0 + Int.toNat i < q) && List.length (List.map enc ts) == q) = true ∧ ((List.length (List.map enc ts) == q && decide (0 + Int.toNat i < List.length (List.map enc ts))) = true ∧ ((decide (0 + 1 + List.length [Sh.int .i64] ≤ List.length (PV.cells (List.getD (List.map enc ts) (0 + Int.toNat i) default))) && shFit (PV.cells (List.getD (List.map enc ts) (0 + Int.toNat i) default)) (0 + 1) [Sh.int .i64]) = true ∧ (if (PV.asInt (List.getD (PV.cells (List.getD (List.map enc ts) (0 + Int.toNat i) default)) (0 + 1) default) != 0) = true then (decide (0 ≤ i) && decide (0 + Int.toNat i < q) && List.length (List.map enc ts) == q) = true ∧ ((List.length (List.map enc ts) == q && decide (0 + Int.toNat i < List.length (List.map enc ts))) = true ∧ ((decide (0 + List.length [Sh.str, Sh.int .i64] ≤ List.length (PV.cells (List.getD (List.map enc ts) (0 + Int.toNat i) default))) && shFit (PV.cells (List.getD (List.map enc ts) (0 + Int.toNat i) default)) 0 [Sh.str, Sh.int .i64]) = true ∧ ((decide (0 ≤ j) && decide (0 + Int.toNat j < q) && List.length (List.map enc ts) == q) = true ∧ ((List.length (List.map enc ts) == q && decide (0 + Int.toNat j < List.length (List.map enc ts)) && List.length (PV.cells (PV.agg (shAll (PV.cells (List.getD (List.map enc ts) (0 + Int.toNat i) default)) 0 [Sh.str, Sh.int .i64]))) == 2 && decide (0 + 2 ≤ List.length (PV.cells (List.getD (List.map enc ts) (0 + Int.toNat j) default))) && PV.cellsOk (PV.agg (shAll (PV.cells (List.getD (List.map enc ts) (0 + Int.toNat i) default)) 0 [Sh.str, Sh.int .i64]))) = true ∧ (At T_pluso 0 (endO' 0 rs_pluso G) ic_pluso 1 100 [(6, (.ptr 0 0)), (7, (.ptr 1 0)), (11, (.pv (.int .i64 (IntKind.wrap IntKind.i64 (j + 1))))), (12, (.pv (.int .i64 (IntKind.wrap IntKind.i64 (i + 1)))))] [(.obj (.box [(.pv (.int .i64 0)), (.pv (.sl 0 true []))])), (.obj (.box [(.pv (.int .i64 l.k)), (.row 2 q 0 q)])), (.obj (.row false 87 2 (List.set (List.map enc ts) (0 + Int.toNat j) (PV.withCells (List.getD (List.map enc ts) (0 + Int.toNat j) default) (splice (PV.cells (List.getD (List.map enc ts) (0 + Int.toNat j) default)) 0 (PV.cells (PV.agg (shAll (PV.cells (List.getD (List.map enc ts) (0 + Int.toNat i) default)) 0 [Sh.str, Sh.int .i64]))))))))]))))) else (At T_pluso 0 (endO' 0 rs_pluso G) ic_pluso 1 100 [(6, (.ptr 0 0)), (7, (.ptr 1 0)), (11, (.pv (.int .i64 j))), (12, (.pv (.int .i64 (IntKind.wrap IntKind.i64 (i + 1)))))] [(.obj (.box [(.pv (.int .i64 0)), (.pv (.sl 0 true []))])), (.obj (.box [(.pv (.int .i64 l.k)), (.row 2 q 0 q)])), (.obj (.row false 87 2 (List.map enc ts)))])))) else ((true && decide (0 ≤ j) && decide (0 ≤ Int.toNat j) && decide (0 + Int.toNat j ≤ q) && List.length (List.map enc ts) == q) = true ∧ (G (((.agg [(.pv (.int .i64 l.k)), (.row 0 q 0 (0 + Int.toNat j))]), ([], [(.row false 87 2 (List.map enc ts))])))))) : At T_pluso 0 (endO' 0 rs_pluso G) ic_pluso 1 100 [(6, .ptr 0 0), (7, .ptr 1 0), (11, .pv (.int .i64 j)), (12, .pv (.int .i64 i))] [.obj (.box [.pv (.int .i64 0), .pv (.sl 0 true [])]), .obj (.box [.pv (.int .i64 l.k), .row 2 q 0 q]), .obj (.row false 87 2 (ts.map enc))] := At.to (.lit (.ask (.req (.keep (.req (.req (.lit (.ask (.req (.keep (.req (.req (.req (.keep (.req (.lit (.lit (.nil)))))))))) (.lit (.nil)))))))) (.req (.nil)))) h (by kernel_rfl)
theorem pluso_h0b {G : AV × List AObj × List AObj → Prop} (l : Lin) (s : List UInt8) (c : Int) (p : Bool) (i : Int) (q : Nat) (ts : List Coef) (h : if (decide (i < (↑(List.length (List.map enc l.t)) : Int))) = true then (decide (0 ≤ i) && decide (Int.toNat i < List.length (List.map enc l.t)) && Enc.sz Coef == 2) = true ∧ (∃ y0 : Coef, AV.pv (PV.rptr (PV.cells (List.getD (List.map enc l.t) (Int.toNat i) default))) = AV.pv (PV.rptr (PV.cells ((enc) y0))) ∧ (if (!p) = true then if (!(Op.bytesLess (PV.asStr (List.getD (PV.cells (enc y0)) 0 default)) s || PV.asStr (List.getD (PV.cells (enc y0)) 0 default) == s)) = true then (List.length (List.map enc ts) == q && q == q && decide ((q + List.length (List.drop 0 (List.take 1 [PV.agg [PV.str s, PV.int .i64 c]]))) * 24 ≤ 1099511627776) && decide (q + List.length (List.drop 0 (List.take 1 [PV.agg [PV.str s, PV.int .i64 c]])) ≤ 1099511627776)) = true ∧ (if (PV.asStr (List.getD (PV.cells (enc y0)) 0 default) == s) = true then (List.length (List.map enc ts ++ List.drop 0 (List.take 1 [PV.agg [PV.str s, PV.int .i64 c]])) == q + List.length (List.drop 0 (List.take 1 [PV.agg [PV.str s, PV.int .i64 c]])) && q + List.length (List.drop 0 (List.take 1 [PV.agg [PV.str s, PV.int .i64 c]])) == q + List.length (List.drop 0 (List.take 1 [PV.agg [PV.str s, PV.int .i64 c]])) && decide ((q + List.length (List.drop 0 (List.take 1 [PV.agg [PV.str s, PV.int .i64 c]])) + List.length (List.drop 0 (List.take 1 [PV.agg [Sh.co Sh.str (List.getD (PV.cells (enc y0)) 0 default), PV.int .i64 (IntKind.wrap IntKind.i64 (PV.asInt (List.getD (PV.cells (enc y0)) (0 + 1) default) + c))]]))) * 24 ≤ 1099511627776) && decide (q + List.length (List.drop 0 (List.take 1 [PV.agg [PV.str s, PV.int .i64 c]])) + List.length (List.drop 0 (List.take 1 [PV.agg [Sh.co Sh.str (List.getD (PV.cells (enc y0)) 0 default), PV.int .i64 (IntKind.wrap IntKind.i64 (PV.asInt (List.getD (PV.cells (enc y0)) (0 + 1) default) + c))]])) ≤ 1099511627776)) = true ∧ (At T_pluso 0 (endO' 0 rs_pluso G) ic_pluso 0 100 [(1, (.pv (.str s))), (2, (.pv (.int .i64 c))), (3, (.ptr 0 0)), (6, (.ptr 1 0)), (7, (.ptr 2 0)), (8, (.pv (.bool true))), (9, (.pv (.int .i64 (IntKind.wrap IntKind.i64 (i + 1)))))] [(.obj (.box [(.pv (.int .i64 l.k)), (.pv (.sl 2 false (List.map enc l.t)))])), (.obj (.box [(.pv (.int .i64 0)), (.pv (.sl 0 true []))])), (.obj (.box [(.pv (.int .i64 l.k)), (.row 3 (q + List.length (List.drop 0 (List.take 1 [PV.agg [PV.str s, PV.int .i64 c]])) + List.length (List.drop 0 (List.take 1 [PV.agg [Sh.co Sh.str (List.getD (PV.cells (enc y0)) 0 default), PV.int .i64 (IntKind.wrap IntKind.i64 (PV.asInt (List.getD (PV.cells (enc y0)) (0 + 1) default) + c))]]))) 0 (q + List.length (List.drop 0 (List.take 1 [PV.agg [PV.str s, PV.int .i64 c]])) + List.length (List.drop 0 (List.take 1 [PV.agg [Sh.co Sh.str (List.getD (PV.cells (enc y0)) 0 default), PV.int .i64 (IntKind.wrap IntKind.i64 (PV.asInt (List.getD (PV.cells (enc y0)) (0 + 1) default) + c))]]))))])), (.obj (.row false 87 2 (List.map enc ts ++ List.drop 0 (List.take 1 [PV.agg [PV.str s, PV.int .i64 c]]) ++ List.drop 0 (List.take 1 [PV.agg [Sh.co Sh.str (List.getD (PV.cells (enc y0)) 0 default), PV.int .i64 (IntKind.wrap IntKind.i64 (PV.asInt (List.getD (PV.cells (enc y0)) (0 + 1) default) + c))]]))))]) else ((List.length (List.map enc ts ++ List.drop 0 (List.take 1 [PV.agg [PV.str s, PV.int .i64 c]])) == q + List.length (List.drop 0 (List.take 1 [PV.agg [PV.str s, PV.int .i64 c]])) && q + List.length (List.drop 0 (List.take 1 [PV.agg [PV.str s, PV.int .i64 c]])) == q + List.length (List.drop 0 (List.take 1 [PV.agg [PV.str s, PV.int .i64 c]])) && decide ((q + List.length (List.drop 0 (List.take 1 [PV.agg [PV.str s, PV.int .i64 c]])) + List.length (List.drop 0 (List.take 1 [PV.agg [Sh.co Sh.str (List.getD (PV.cells (enc y0)) 0 default), Sh.co (Sh.int .i64) (List.getD (PV.cells (enc y0)) (0 + 1) default)]]))) * 24 ≤ 1099511627776) && decide (q + List.length (List.drop 0 (List.take 1 [PV.agg [PV.str s, PV.int .i64 c]])) + List.length (List.drop 0 (List.take 1 [PV.agg [Sh.co Sh.str (List.getD (PV.cells (enc y0)) 0 default), Sh.co (Sh.int .i64) (List.getD (PV.cells (enc y0)) (0 + 1) default)]])) ≤ 1099511627776)) = true ∧ (At T_pluso 0 (endO' 0 rs_pluso G) ic_pluso 0 100 [(1, (.pv (.str s))), (2, (.pv (.int .i64 c))), (3, (.ptr 0 0)), (6, (.ptr 1 0)), (7, (.ptr 2 0)), (8, (.pv (.bool true))), (9, (.pv (.int .i64 (IntKind.wrap IntKind.i64 (i + 1)))))] [(.obj (.box [(.pv (.int .i64 l.k)), (.pv (.sl 2 false (List.map enc l.t)))])), (.obj (.box [(.pv (.int .i64 0)), (.pv (.sl 0 true []))])), (.obj (.box [(.pv (.int .i64 l.k)), (.row 3 (q + List.length (List.drop 0 (List.take 1 [PV.agg [PV.str s, PV.int .i64 c]])) + List.length (List.drop 0 (List.take 1 [PV.agg [Sh.co Sh.str (List.getD (PV.cells (enc y0)) 0 default), Sh.co (Sh.int .i64) (List.getD (PV.cells (enc y0)) (0 + 1) default)]]))) 0 (q + List.length (List.drop 0 (List.take 1 [PV.agg [PV.str s, PV.int .i64 c]])) + List.length (List.drop 0 (List.take 1 [PV.agg [Sh.co Sh.str (List.getD (PV.cells (enc y0)) 0 default), Sh.co (Sh.int .i64) (List.getD (PV.cells (enc y0)) (0 + 1) default)]]))))])), (.obj (.row false 87 2 (List.map enc ts ++ List.drop 0 (List.take 1 [PV.agg [PV.str s, PV.int .i64 c]]) ++ List.drop 0 (List.take 1 [PV.agg [Sh.co Sh.str (List.getD (PV.cells (enc y0)) 0 default), Sh.co (Sh.int .i64) (List.getD (PV.cells (enc y0)) (0 + 1) default)]]))))]))) else (if (PV.asStr (List.getD (PV.cells (enc y0)) 0 default) == s) = true then (List.length (List.map enc ts) == q && q == q && decide ((q + List.length (List.drop 0 (List.take 1 [PV.agg [Sh.co Sh.str (List.getD (PV.cells (enc y0)) 0 default), PV.int .i64 (IntKind.wrap IntKind.i64 (PV.asInt (List.getD (PV.cells (enc y0)) (0 + 1) default) + c))]]))) * 24 ≤ 1099511627776) && decide (q + List.length (List.drop 0 (List.take 1 [PV.agg [Sh.co Sh.str (List.getD (PV.cells (enc y0)) 0 default), PV.int .i64 (IntKind.wrap IntKind.i64 (PV.asInt (List.getD (PV.cells (enc y0)) (0 + 1) default) + c))]])) ≤ 1099511627776)) = true ∧ (At T_pluso 0 (endO' 0 rs_pluso G) ic_pluso 0 100 [(1, (.pv (.str s))), (2, (.pv (.int .i64 c))), (3, (.ptr 0 0)), (6, (.ptr 1 0)), (7, (.ptr 2 0)), (8, (.pv (.bool true))), (9, (.pv (.int .i64 (IntKind.wrap IntKind.i64 (i + 1)))))] [(.obj (.box [(.pv (.int .i64 l.k)), (.pv (.sl 2 false (List.map enc l.t)))])), (.obj (.box [(.pv (.int .i64 0)), (.pv (.sl 0 true []))])), (.obj (.box [(.pv (.int .i64 l.k)), (.row 3 (q + List.length (List.drop 0 (List.take 1 [PV.agg [Sh.co Sh.str (List.getD (PV.cells (enc y0)) 0 default), PV.int .i64 (IntKind.wrap IntKind.i64 (PV.asInt (List.getD (PV.cells (enc y0)) (0 + 1) default) + c))]]))) 0 (q + List.length (List.drop 0 (List.take 1 [PV.agg [Sh.co Sh.str (List.getD (PV.cells (enc y0)) 0 default), PV.int .i64 (IntKind.wrap IntKind.i64 (PV.asInt (List.getD (PV.cells (enc y0)) (0 + 1) default) + c))]]))))])), (.obj (.row false 87 2 (List.map enc ts ++ List.drop 0 (List.take 1 [PV.agg [Sh.co Sh.str (List.getD (PV.cells (enc y0)) 0 default), PV.int .i64 (IntKind.wrap IntKind.i64 (PV.asInt (List.getD (PV.cells (enc y0)) (0 + 1) default) + c))]]))))]) else ((List.length (List.map enc ts) == q && q == q && decide ((q + List.length (List.drop 0 (List.take 1 [PV.agg [Sh.co Sh.str (List.getD (PV.cells (enc y0)) 0 default), Sh.co (Sh.int .i64) (List.getD (PV.cells (enc y0)) (0 + 1) default)]]))) * 24 ≤ 1099511627776) && decide (q + List.length (List.drop 0 (List.take 1 [PV.agg [Sh.co Sh.str (List.getD (PV.cells (enc y0)) 0 default), Sh.co (Sh.int .i64) (List.getD (PV.cells (enc y0)) (0 + 1) default)]])) ≤ 1099511627776)) = true ∧ (At T_pluso 0 (endO' 0 rs_pluso G) ic_pluso 0 100 [(1, (.pv (.str s))), (2, (.pv (.int .i64 c))), (3, (.ptr 0 0)), (6, (.ptr 1 0)), (7, (.ptr 2 0)), (8, (.pv (.bool p))), (9, (.pv (.int .i64 (IntKind.wrap IntKind.i64 (i + 1)))))] [(.obj (.box [(.pv (.int .i64 l.k)), (.pv (.sl 2 false (List.map enc l.t)))])), (.obj (.box [(.pv (.int .i64 0)), (.pv (.sl 0 true []))])), (.obj (.box [(.pv (.int .i64 l.k)), (.row 3 (q + List.length (List.drop 0 (List.take 1 [PV.agg [Sh.co Sh.str (List.getD (PV.cells (enc y0)) 0 default), Sh.co (Sh.int .i64) (List.getD (PV.cells (enc y0)) (0 + 1) default)]]))) 0 (q + List.length (List.drop 0 (List.take 1 [PV.agg [Sh.co Sh.str (List.getD (PV.cells (enc y0)) 0 default), Sh.co (Sh.int .i64) (List.getD (PV.cells (enc y0)) (0 + 1) default)]]))))])), (.obj (.row false 87 2 (List.map enc ts ++ List.drop 0 (List.take 1 [PV.agg [Sh.co Sh.str (List.getD (PV.cells (enc y0)) 0 default), Sh.co (Sh.int .i64) (List.getD (PV.cells (enc y0)) (0 + 1) default)]]))))]))) else (if (PV.asStr (List.getD (PV.cells (enc y0)) 0 default) == s) = true then (List.length (List.map enc ts) == q && q == q && decide ((q + List.length (List.drop 0 (List.take 1 [PV.agg [Sh.co Sh.str (List.getD (PV.cells (enc y0)) 0 default), PV.int .i64 (IntKind.wrap IntKind.i64 (PV.asInt (List.getD (PV.cells (enc y0)) (0 + 1) default) + c))]]))) * 24 ≤ 1099511627776) && decide (q + List.length (List.drop 0 (List.take 1 [PV.agg [Sh.co Sh.str (List.getD (PV.cells (enc y0)) 0 default), PV.int .i64 (IntKind.wrap IntKind.i64 (PV.asInt (List.getD (PV.cells (enc y0)) (0 + 1) default) + c))]])) ≤ 1099511627776)) = true ∧ (At T_pluso 0 (endO' 0 rs_pluso G) ic_pluso 0 100 [(1, (.pv (.str s))), (2, (.pv (.int .i64 c))), (3, (.ptr 0 0)), (6, (.ptr 1 0)), (7, (.ptr 2 0)), (8, (.pv (.bool true))), (9, (.pv (.int .i64 (IntKind.wrap IntKind.i64 (i + 1)))))] [(.obj (.box [(.pv (.int .i64 l.k)), (.pv (.sl 2 false (List.map enc l.t)))])), (.obj (.box [(.pv (.int .i64 0)), (.pv (.sl 0 true []))])), (.obj (.box [(.pv (.int .i64 l.k)), (.row 3 (q + List.length (List.drop 0 (List.take 1 [PV.agg [Sh.co Sh.str (List.getD (PV.cells (enc y0)) 0 default), PV.int .i64 (IntKind.wrap IntKind.i64 (PV.asInt (List.getD (PV.cells (enc y0)) (0 + 1) default) + c))]]))) 0 (q + List.length (List.drop 0 (List.take 1 [PV.agg [Sh.co Sh.str (List.getD (PV.cells (enc y0)) 0 default), PV.int .i64 (IntKind.wrap IntKind.i64 (PV.asInt (List.getD (PV.cells (enc y0)) (0 + 1) default) + c))]]))))])), (.obj (.row false 87 2 (List.map enc ts ++ List.drop 0 (List.take 1 [PV.agg [Sh.co Sh.str (List.getD (PV.cells (enc y0)) 0 default), PV.int .i64 (IntKind.wrap IntKind.i64 (PV.asInt (List.getD (PV.cells (enc y0)) (0 + 1) default) + c))]]))))]) else ((List.length (List.map enc ts) == q && q == q && decide ((q + List.length (List.drop 0 (List.take 1 [PV.agg [Sh.co Sh.str (List.getD (PV.cells (enc y0)) 0 default), Sh.co (Sh.int .i64) (List.getD (PV.cells (enc y0)) (0 + 1) default)]]))) * 24 ≤ 1099511627776) && decide (q + List.length (List.drop 0 (List.take 1 [PV.agg [Sh.co Sh.str (List.getD (PV.cells (enc y0)) 0 default), Sh.co (Sh.int .i64) (List.getD (PV.cells (enc y0)) (0 + 1) default)]])) ≤ 1099511627776)) = true ∧ (At T_pluso 0 (endO' 0 rs_pluso G) ic_pluso 0 100 [(1, (.pv (.str s))), (2, (.pv (.int .i64 c))), (3, (.ptr 0 0)), (6, (.ptr 1 0)), (7, (.ptr 2 0)), (8, (.pv (.bool p))), (9, (.pv (.int .i64 (IntKind.wrap IntKind.i64 (i + 1)))))] [(.obj (.box [(.pv (.int .i64 l.k)), (.pv (.sl 2 false (List.map enc l.t)))])), (.obj (.box [(.pv (.int .i64 0)), (.pv (.sl 0 true []))])), (.obj (.box [(.pv (.int .i64 l.k)), (.row 3 (q + List.length (List.drop 0 (List.take 1 [PV.agg [Sh.co Sh.str (List.getD (PV.cells (enc y0)) 0 default), Sh.co (Sh.int .i64) (List.getD (PV.cells (enc y0)) (0 + 1) default)]]))) 0 (q + List.length (List.drop 0 (List.take 1 [PV.agg [Sh.co Sh.str (List.getD (PV.cells (enc y0)) 0 default), Sh.co (Sh.int .i64) (List.getD (PV.cells (enc y0)) (0 + 1) default)]]))))])), (.obj (.row false 87 2 (List.map enc ts ++ List.drop 0 (List.take 1 [PV.agg [Sh.co Sh.str (List.getD (PV.cells (enc y0)) 0 default), Sh.co (Sh.int .i64) (List.getD (PV.cells (enc y0)) (0 + 1) default)]]))))]))))) else (if (!p) = true then (List.length (List.map enc ts) == q && q == q && decide ((q + List.length (List.drop 0 (List.take 1 [PV.agg [PV.str s, PV.int .i64 c]]))) * 24 ≤ 1099511627776) && decide (q + List.length (List.drop 0 (List.take 1 [PV.agg [PV.str s, PV.int .i64 c]])) ≤ 1099511627776)) = true ∧ (At T_pluso 0 (endO' 0 rs_pluso G) ic_pluso 1 100 [(6, (.ptr 0 0)), (7, (.ptr 1 0)), (11, (.pv (.int .i64 0))), (12, (.pv (.int .i64 0)))] [(.obj (.box [(.pv (.int .i64 0)), (.pv (.sl 0 true []))])), (.obj (.box [(.pv (.int .i64 l.k)), (.row 2 (q + List.length (List.drop 0 (List.take 1 [PV.agg [PV.str s, PV.int .i64 c]]))) 0 (q + List.length (List.drop 0 (List.take 1 [PV.agg [PV.str s, PV.int .i64 c]]))))])), (.obj (.row false 87 2 (List.map enc ts ++ List.drop 0 (List.take 1 [PV.agg [PV.str s, PV.int .i64 c]]))))]) else (At T_pluso 0 (endO' 0 rs_pluso G) ic_pluso 1 100 [(6, (.ptr 0 0)), (7, (.ptr 1 0)), (11, (.pv (.int .i64 0))), (12, (.pv (.int .i64 0)))] [(.obj (.box [(.pv (.int .i64 0)), (.pv (.sl 0 true []))])), (.obj (.box [(.pv (.int .i64 l.k)), (.row 2 q 0 q)])), (.obj (.row false 87 2 (List.map enc ts)))]))) : At T_pluso 0 (endO' 0 rs_pluso G) ic_pluso 0 100 [(1, .pv (.str s)), (2, .pv (.int .i64 c)), (3, .ptr 0 0), (6, .ptr 1 0), (7, .ptr 2 0), (8, .pv (.bool p)), (9, .pv (.int .i64 i))] [.obj (.box [.pv (.int .i64 l.k), .pv (enc l.t)]), .obj (.box [.pv (.int .i64 0), .pv (.sl 0 true [])]), .obj (.box [.pv (.int .i64 l.k), .row 3 q 0 q]), .obj (.row false 87 2 (ts.map enc))] := At.to (.lit (.ask (.req (.abs (Coef) (fun YY => AV.pv (PV.rptr (PV.cells ((enc) YY)))) (.lit (.ask (.lit (.lit (.lit (.lit (.lit (.ask (.lit (.lit (.req (.lit (.ask (.lit (.lit (.lit (.req (.lit (.nil)))))) (.lit (.lit (.req (.lit (.nil)))))))))) (.lit (.ask (.lit (.lit (.lit (.req (.lit (.nil)))))) (.lit (.lit (.req (.lit (.nil))))))))))))) (.lit (.lit (.lit (.lit (.lit (.lit (.ask (.lit (.lit (.lit (.req (.lit (.nil)))))) (.lit (.lit (.req (.lit (.nil)))))))))))))))) (.ask (.lit (.lit (.req (.nil)))) (.nil)))) h (by kernel_rfl)
def ic_timeso : IC := (.seq (.reg [⟨(some 3), (.box 2 (.t 0)), 0, none⟩, ⟨(some 4), (.box 2 (.t 1)), 1, none⟩, ⟨(some 6), (.alloc (.agg [(.int .i64 0), (.sl 0 true [])])), 2, none⟩] none) (.seq (.reg [⟨(some 9), (.faddr 0 (.t 3)), 0, none⟩, ⟨(some 10), (.load false [(.int .i64)] (.t 9)), 0, none⟩, ⟨(some 11), (.mv (.t 2)), 0, none⟩, ⟨(some 12), (.faddr 0 (.t 4)), 0, none⟩, ⟨(some 13), (.load false [(.int .i64)] (.t 12)), 0, none⟩, ⟨(some 14), (.bin .num .mul (.t 11) (.t 13)), 0, none⟩, ⟨(some 15), (.bin .num .add (.t 10) (.t 14)), 0, none⟩, ⟨(some 16), (.bslice 87 2 0 (.agg [(.str []), (.int .i64 0)]) []), 0, none⟩, ⟨(some 17), (.faddr 1 (.t 3)), 1, none⟩, ⟨(some 18), (.load false [(.sl 2)] (.t 17)), 1, none⟩, ⟨(some 19), (.append 87 2 24 (.t 16) (.t 18)), 1, none⟩, ⟨(some 20), (.build [(.int .i64 0), (.sl 0 true [])] [(0, (1, (.t 15))), (1, (1, (.t 19)))]), 2, none⟩, ⟨(some 7), (.alloc (.agg [(.int .i64 0), (.sl 0 true [])])), 2, none⟩, ⟨none, (.store 2 (.t 7) (.t 20)), 3, none⟩] (some [[], [0], [], [], [3], [2, 4, 3], [1, 5, 0, 2, 4, 3], [], [], [8], [7, 9, 8], [6, 10, 1, 5, 0, 2, 4, 3, 7, 9, 8], [], [12, 11, 10, 0, 1, 2, 3, 4, 5, 6, 7, 8, 9]])) (.seq (.seq (.reg [⟨(some 8), (.mv (.c (.int .i64 0))), 0, none⟩] none) (.block 0 (.loop [8, 4, 7, 2, 6] (.seq (.seq (.reg [⟨(some 21), (.mv (.t 8)), 0, none⟩, ⟨(some 22), (.faddr 1 (.t 4)), 0, none⟩, ⟨(some 23), (.load false [(.sl 2)] (.t 22)), 0, none⟩, ⟨(some 24), (.len 1 (.t 23)), 0, none⟩, ⟨(some 25), (.bin .num .lss (.t 21) (.t 24)), 0, none⟩] none) (.cond (.t 25) .skip (.exit 0))) (.seq (.block 1 (.reg [⟨(some 28), (.load true [(.int .i64), (.sl 2)] (.t 7)), 0, none⟩, ⟨(some 29), (.faddr 1 (.t 4)), 0, none⟩, ⟨(some 30), (.load false [(.sl 2)] (.t 29)), 0, none⟩, ⟨(some 31), (.mv (.t 8)), 0, none⟩, ⟨(some 32), (.iaddr 2 (.t 30) (.t 31)), 0, none⟩, ⟨(some 33), (.faddr 0 (.t 32)), 0, none⟩, ⟨(some 34), (.load false [.str] (.t 33)), 0, none⟩, ⟨(some 35), (.mv (.t 2)), 0, none⟩, ⟨(some 36), (.faddr 1 (.t 4)), 0, none⟩, ⟨(some 37), (.load false [(.sl 2)] (.t 36)), 0, none⟩, ⟨(some 38), (.mv (.t 8)), 0, none⟩, ⟨(some 39), (.iaddr 2 (.t 37) (.t 38)), 0, none⟩, ⟨(some 40), (.faddr 1 (.t 39)), 0, none⟩, ⟨(some 41), (.load false [(.int .i64)] (.t 40)), 0, none⟩, ⟨(some 42), (.bin .num .mul (.t 35) (.t 41)), 0, none⟩, ⟨(some 43), (.call (.c (.fn 59)) [(.t 28), (.t 34), (.t 42)]), 0, none⟩, ⟨none, (.store 2 (.t 7) (.t 43)), 2, none⟩] (some [[], [], [1], [], [2, 3, 1], [4, 2, 3, 1], [5, 4, 2, 3, 1], [], [], [8], [], [9, 10, 8], [11, 9, 10, 8], [12, 11, 9, 10, 8], [7, 13, 12, 11, 9, 10, 8], [0, 6, 14, 5, 4, 2, 3, 1, 7, 13, 12, 11, 9, 10, 8], [15, 0, 1, 2, 3, 4, 5, 6, 7, 8, 9, 10, 11, 12, 13, 14]]))) (.reg [⟨(some 26), (.mv (.t 8)), 0, none⟩, ⟨(some 27), (.bin .num .add (.t 26) (.c (.int .i64 1))), 0, none⟩, ⟨(some 8), (.mv (.t 27)), 0, none⟩] none)))))) (.seq (.reg [⟨(some 44), (.load true [(.int .i64), (.sl 2)] (.t 7)), 0, none⟩, ⟨none, (.store 2 (.t 6) (.t 44)), 0, none⟩] none) .ret))))
def rs_timeso : List IRes := [(.cell true 2 6)]
abbrev nt_timeso : Nat := 45
def T_timeso : Tab := tab [(59, .own pre_plusW val_plusW)]
theorem timeso_s {G : AV × List AObj × List AObj → Prop} (l x : Lin) (k : Int) (h : (List.isEmpty (List.map enc l.t) || Enc.sz Coef == 2) = true ∧ ((List.length ([] : List PV) == 0 && 0 == 0 && decide ((0 + List.length (List.map enc l.t)) * 24 ≤ 1099511627776) && decide (0 + List.length (List.map enc l.t) ≤ 1099511627776)) = true ∧ (At T_timeso 0 (endO' 0 rs_timeso G) ic_timeso 0 45 [(2, (.pv (.int .i64 k))), (4, (.ptr 0 0)), (6, (.ptr 1 0)), (7, (.ptr 2 0)), (8, (.pv (.int .i64 0)))] [(.obj (.box [(.pv (.int .i64 x.k)), (.pv (.sl 2 false (List.map enc x.t)))])), (.obj (.box [(.pv (.int .i64 0)), (.pv (.sl 0 true []))])), (.obj (.box [(.pv (.int .i64 (IntKind.wrap IntKind.i64 (l.k + IntKind.wrap IntKind.i64 (k * x.k))))), (.row 3 (0 + List.length (List.map enc l.t)) 0 (0 + List.length (List.map enc l.t)))])), (.obj (.row false 87 2 (([] : List PV) ++ List.map enc l.t)))]))) : Gets T_timeso 0 (endO' 0 rs_timeso G) ic_timeso [] (st0O 45 [.pv (enc l), .pv (enc x), .pv (enc k)] []) := Gets.to (.lit (.lit (.lit (.req (.req (.nil)))))) h (by kernel_rfl)
theorem timeso_h0r {G : AV × List AObj × List AObj → Prop} (l x : Lin) (k : Int) (c : Int) (q w : Nat) (ts : List Coef) (i : Int) (h : if (decide (i < (↑(List.length (List.map enc x.t)) : Int))) = true then (decide (0 ≤ i) && decide (Int.toNat i < List.length (List.map enc x.t)) && Enc.sz Coef == 2) = true ∧ (∃ y0 : Coef, AV.pv (PV.rptr (PV.cells (List.getD (List.map enc x.t) (Int.toNat i) default))) = AV.pv (PV.rptr (PV.cells ((enc) y0))) ∧ ((decide (0 ≤ i) && decide (Int.toNat i < List.length (List.map enc x.t)) && Enc.sz Coef == 2) = true ∧ (∃ y1 : Coef, AV.pv (PV.rptr (PV.cells (List.getD (List.map enc x.t) (Int.toNat i) default))) = AV.pv (PV.rptr (PV.cells ((enc) y1))) ∧ ((pre_plusW [(.agg [(.pv (.int .i64 c)), (.row 0 q 0 w)]), (.pv (.str (PV.asStr (List.getD (List.drop 0 (PV.cells (enc y0))) 0 default)))), (.pv (.int .i64 (IntKind.wrap IntKind.i64 (k * PV.asInt (List.getD (List.drop 1 (PV.cells (enc y1))) 0 default)))))] [(.row false 87 2 (List.map enc ts))]) = true ∧ (At T_timeso 0 (endO' 0 rs_timeso G) ic_timeso 0 45 [(2, (.pv (.int .i64 k))), (4, (.ptr 0 0)), (6, (.ptr 1 0)), (7, (.ptr 2 0)), (8, (.pv (.int .i64 (IntKind.wrap IntKind.i64 (i + 1)))))] [(.obj (.box [(.pv (.int .i64 x.k)), (.pv (.sl 2 false (List.map enc x.t)))])), (.obj (.box [(.pv (.int .i64 0)), (.pv (.sl 0 true []))])), (.obj (.box [(.pv (.int .i64 (LR.k (plusR (linW c w (List.map enc ts)) (Str.mk (PV.asStr (List.getD (List.drop 0 (PV.cells (enc y0))) 0 default))) (IntKind.wrap IntKind.i64 (k * PV.asInt (List.getD (List.drop 1 (PV.cells (enc y1))) 0 default))))))), (.row 3 (List.length (LR.ts (plusR (linW c w (List.map enc ts)) (Str.mk (PV.asStr (List.getD (List.drop 0 (PV.cells (enc y0))) 0 default))) (IntKind.wrap IntKind.i64 (k * PV.asInt (List.getD (List.drop 1 (PV.cells (enc y1))) 0 default)))))) 0 (LR.w (plusR (linW c w (List.map enc ts)) (Str.mk (PV.asStr (List.getD (List.drop 0 (PV.cells (enc y0))) 0 default))) (IntKind.wrap IntKind.i64 (k * PV.asInt (List.getD (List.drop 1 (PV.cells (enc y1))) 0 default))))))])), (.obj (.row false 87 2 (List.map enc (LR.ts (plusR (linW c w (List.map enc ts)) (Str.mk (PV.asStr (List.getD (List.drop 0 (PV.cells (enc y0))) 0 default))) (IntKind.wrap IntKind.i64 (k * PV.asInt (List.getD (List.drop 1 (PV.cells (enc y1))) 0 default))))))))]))))) else (G (((.agg [(.pv (.int .i64 c)), (.row 0 q 0 w)]), ([], [(.row false 87 2 (List.map enc ts))]))))) : At T_timeso 0 (endO' 0 rs_timeso G) ic_timeso 0 45 [(2, .pv (.int .i64 k)), (4, .ptr 0 0), (6, .ptr 1 0), (7, .ptr 2 0), (8, .pv (.int .i64 i))] [.obj (.box [.pv (.int .i64 x.k), .pv (enc x.t)]), .obj (.box [.pv (.int .i64 0), .pv (.sl 0 true [])]), .obj (.box [.pv (.int .i64 c), .row 3 q 0 w]), .obj (.row false 87 2 (ts.map enc))] := At.to (.lit (.ask (.req (.abs (Coef) (fun YY => AV.pv (PV.rptr (PV.cells ((enc) YY)))) (.lit (.req (.abs (Coef) (fun YY => AV.pv (PV.rptr (PV.cells ((enc) YY)))) (.lit (.lit (.req (.keep (.lit (.nil))))))))))) (.nil))) h (by kernel_rfl)
end Go.Pl

namespace Go.Pl
open Go.RowKit
open Enc (enc dec is)
open EncL (encL decL isL)
theorem getD_eq {ts : List Coef} {i : Nat} (h : i < ts.length) : ts.getD i ⟨⟨[]⟩, 0⟩ = ts[i] := by simp [List.getD, h]
theorem pluso_l1 (l : Lin) (s : List UInt8) (c : Int) (q : Nat) (ho : q ≤ 2000000) : ∀ (m i j : Nat) (ts : List Coef), m + i = q → ts.length = q → j ≤ i →
    At T_pluso 0 (endO' 0 rs_pluso (fun r => r = newR ⟨l.k, (compL m i j ts).2, (compL m i j ts).1⟩ 0 [])) ic_pluso 1 100 [(6, .ptr 0 0), (7, .ptr 1 0), (11, .pv (.int .i64 j)), (12, .pv (.int .i64 i))] [.obj (.box [.pv (.int .i64 0), .pv (.sl 0 true [])]), .obj (.box [.pv (.int .i64 l.k), .row 2 q 0 q]), .obj (.row false 87 2 (ts.map enc))] := by
  intro m
  induction m with
  | zero =>
    intro i j ts hm hts hji
    refine pluso_h1r l s c j i q ts (iteF (by simp; omega) ?_)
    refine ⟨by simp [hts]; omega, ?_⟩
    subst hts
    simp only [Int.toNat_natCast, Nat.zero_add]
    rfl
  | succ m ih =>
    intro i j ts hm hts hji
    have hi' : i < ts.length := by omega
    have hj' : j < ts.length := by omega
    refine pluso_h1r l s c j i q ts ?_
    simp only [getD_z enc hi', getD_z enc hj']
    refine iteT (by simp; omega) ⟨by simp; omega, by simp; omega, rfl, ?_⟩
    rw [compL, getD_eq hi']
    by_cases hz : ts[i].c = 0
    · refine iteF (by show ¬ (ts[i].c != 0) = true; simp [hz]) ?_
      rw [next (by omega), if_pos hz]
      exact ih (i + 1) j ts (by omega) hts (by omega)
    · refine iteT (by show (ts[i].c != 0) = true; simp [hz]) ⟨by simp; omega, by simp; omega, rfl, by simp; omega, ?_, ?_⟩
      · simp only [List.length_map, hts, beq_self_eq_true, Bool.true_and, Nat.zero_add, Int.toNat_natCast, decide_eq_true (show j < q by omega)]
        rfl
      · rw [Nat.zero_add, Int.toNat_natCast, set_cell, next (by omega), next (by omega), if_neg hz]
        exact ih (i + 1) (j + 1) (ts.set j ts[i]) (by omega) (by simp [hts]) (by omega)
theorem pluso_end (l : Lin) (s : List UInt8) (c : Int) (o : List Coef) (ho : o.length ≤ 2000000) :
    At T_pluso 0 (endO' 0 rs_pluso (fun r => r = newR (packR l.k o) 0 [])) ic_pluso 1 100 [(6, .ptr 0 0), (7, .ptr 1 0), (11, .pv (.int .i64 0)), (12, .pv (.int .i64 0))] [.obj (.box [.pv (.int .i64 0), .pv (.sl 0 true [])]), .obj (.box [.pv (.int .i64 l.k), .row 2 o.length 0 o.length]), .obj (.row false 87 2 (o.map enc))] :=
  pluso_l1 l s c o.length ho o.length 0 0 o (by omega) rfl (by omega)
theorem pluso_l0 (l : Lin) (s : List UInt8) (c : Int) (hl : l.t.length ≤ 1000000) : ∀ (m i : Nat) (p : Bool) (q : Nat) (ts : List Coef), m + i = l.t.length → q = ts.length → (p = false → ts.length ≤ i) → ts.length ≤ i + 1 →
    At T_pluso 0 (endO' 0 rs_pluso (fun r => r = newR (packR l.k (ts ++ insT ⟨s⟩ c p (l.t.drop i))) 0 [])) ic_pluso 0 100 [(1, .pv (.str s)), (2, .pv (.int .i64 c)), (3, .ptr 0 0), (6, .ptr 1 0), (7, .ptr 2 0), (8, .pv (.bool p)), (9, .pv (.int .i64 i))]
      [.obj (.box [.pv (.int .i64 l.k), .pv (enc l.t)]), .obj (.box [.pv (.int .i64 0), .pv (.sl 0 true [])]), .obj (.box [.pv (.int .i64 l.k), .row 3 q 0 q]), .obj (.row false 87 2 (ts.map enc))] := by
  intro m
  induction m with
  | zero =>
    intro i p q ts hm hq h1 h2
    refine pluso_h0b l s c p i q ts (iteF (lt_no (by omega)) ?_)
    rw [List.drop_of_length_le (show l.t.length ≤ i by omega)]
    refine iteN (fun hp => ?_) fun hp => ?_
    · subst hp
      refine ⟨by simp [hq]; omega, ?_⟩
      have h := pluso_end l s c (ts ++ [⟨⟨s⟩, c⟩]) (by simp; omega)
      rw [List.map_append, List.length_append, ← hq] at h
      rw [insT]
      exact h
    · subst hp
      have h := pluso_end l s c ts (by omega)
      rw [← hq] at h
      rw [insT, if_pos rfl, List.append_nil]
      exact h
  | succ m ih =>
    intro i p q ts hm hq h1 h2
    have hlt : i < l.t.length := by omega
    refine pluso_h0b l s c p i q ts (iteT (lt_ok hlt) ⟨idx_ok hlt rfl, el_ex hlt ?_⟩)
    rw [List.drop_eq_getElem_cons hlt, next (by omega)]
    have key : ∀ (p' : Bool) (add : List Coef), add.length ≤ 2 → (p' = false → (ts ++ add).length ≤ i + 1) → (ts ++ add).length ≤ i + 2 → ts ++ insT ⟨s⟩ c p (l.t[i] :: l.t.drop (i + 1)) = (ts ++ add) ++ insT ⟨s⟩ c p' (l.t.drop (i + 1)) →
        At T_pluso 0 (endO' 0 rs_pluso (fun r => r = newR (packR l.k (ts ++ insT ⟨s⟩ c p (l.t[i] :: l.t.drop (i + 1)))) 0 [])) ic_pluso 0 100 [(1, .pv (.str s)), (2, .pv (.int .i64 c)), (3, .ptr 0 0), (6, .ptr 1 0), (7, .ptr 2 0), (8, .pv (.bool p')), (9, .pv (.int .i64 ((i + 1 : Nat) : Int)))]
          [.obj (.box [.pv (.int .i64 l.k), .pv (enc l.t)]), .obj (.box [.pv (.int .i64 0), .pv (.sl 0 true [])]), .obj (.box [.pv (.int .i64 l.k), .row 3 (q + add.length) 0 (q + add.length)]), .obj (.row false 87 2 (ts.map enc ++ add.map enc))] := by
      intro p' add h3 h4 h5 h6
      rw [h6, ← List.map_append]
      exact ih (i + 1) p' (q + add.length) (ts ++ add) (by omega) (by simp [hq]) h4 h5
    generalize l.t[i] = y at key ⊢
    obtain ⟨⟨yv⟩, yc⟩ := y
    subst hq
    refine iteN (fun hp => ?_) fun hp => ?_
    · subst hp
      have hle := h1 rfl
      refine iteN (fun hb => ?_) fun hb => ?_
      · have hb : (Op.bytesLess yv s || yv == s) = false := hb
        have hlt2 : s < yv := by
          simp only [bytesLess_eq, Bool.or_eq_false_iff, decide_eq_false_iff_not, beq_eq_false_iff_ne] at hb
          exact tri hb.1 hb.2
        have hne : ¬ yv = s := fun e => by rw [e] at hlt2; exact List.lt_irrefl _ hlt2
        refine ⟨by simp; omega, iteE (fun h => absurd h hne) fun _ => ⟨by simp; omega, ?_⟩⟩
        have := key true [⟨⟨s⟩, c⟩, ⟨⟨yv⟩, yc⟩] (by simp) (fun h => by cases h) (by simp; omega) (by rw [ins_f, if_pos hlt2]; simp)
        rw [List.append_assoc]
        exact this
      · have hb : (Op.bytesLess yv s || yv == s) = true := hb
        have hnl : ¬ s < yv := by
          simp only [bytesLess_eq, Bool.or_eq_true, decide_eq_true_eq, beq_iff_eq] at hb
          rcases hb with h | h
          · exact List.lt_asymm h
          · rw [h]; exact List.lt_irrefl _
        refine iteE (fun h => ?_) fun h => ?_
        · have h : yv = s := h
          subst h
          refine ⟨by simp; omega, ?_⟩
          exact key true [⟨⟨yv⟩, w64 (yc + c)⟩] (by simp) (fun h => by cases h) (by simp; omega) (by rw [ins_f, if_neg hnl, if_pos rfl]; simp)
        · have h : yv ≠ s := h
          refine ⟨by simp; omega, ?_⟩
          exact key false [⟨⟨yv⟩, yc⟩] (by simp) (fun _ => by simp; omega) (by simp; omega) (by rw [ins_f, if_neg hnl, if_neg (by rw [str_ext]; exact h)]; simp)
    · subst hp
      refine iteE (fun h => ?_) fun h => ?_
      · have h : yv = s := h
        subst h
        refine ⟨by simp; omega, ?_⟩
        exact key true [⟨⟨yv⟩, w64 (yc + c)⟩] (by simp) (fun h => by cases h) (by simp; omega) (by rw [ins_t, if_pos rfl]; simp)
      · have h : yv ≠ s := h
        refine ⟨by simp; omega, ?_⟩
        exact key true [⟨⟨yv⟩, yc⟩] (by simp) (fun h => by cases h) (by simp; omega) (by rw [ins_t, if_neg (by rw [str_ext]; exact h)]; simp)
theorem pluso_get (l : Lin) (s : List UInt8) (c : Int) (hl : l.t.length ≤ 1000000) : Gets T_pluso 0 (endO' 0 rs_pluso (fun r => r = newR (plusR l ⟨s⟩ c) 0 [])) ic_pluso [] (st0O nt_pluso [.pv (enc l), .pv (.str s), .pv (enc c)] []) := by
  refine pluso_s l s c (pluso_h0a l s c false 0 ?_)
  show if _ then _ else (if _ then At T_pluso 0 (endO' 0 rs_pluso (fun r => r = newR (packR l.k (insT ⟨s⟩ c false l.t)) 0 [])) _ _ _ _ _ else _)
  by_cases h0 : l.t = []
  · refine iteF (by simp [h0]) (iteT rfl ?_)
    have h := pluso_end l s c [⟨⟨s⟩, c⟩] (by simp)
    rw [h0, insT]
    exact h
  · have hlt : 0 < l.t.length := List.length_pos_iff.2 h0
    refine iteT (by simp; omega) ⟨by simp [Enc.sz]; omega, el_ex hlt ?_⟩
    have ed : l.t = l.t[0] :: l.t.drop 1 := by
      have := List.drop_eq_getElem_cons hlt
      rwa [List.drop_zero] at this
    have key : ∀ (p' : Bool) (add : List Coef), add.length ≤ 2 → (p' = false → add.length ≤ 1) → insT ⟨s⟩ c false (l.t[0] :: l.t.drop 1) = add ++ insT ⟨s⟩ c p' (l.t.drop 1) →
        At T_pluso 0 (endO' 0 rs_pluso (fun r => r = newR (packR l.k (insT ⟨s⟩ c false l.t)) 0 [])) ic_pluso 0 100 [(1, .pv (.str s)), (2, .pv (.int .i64 c)), (3, .ptr 0 0), (6, .ptr 1 0), (7, .ptr 2 0), (8, .pv (.bool p')), (9, .pv (.int .i64 ((0 + 1 : Nat) : Int)))]
          [.obj (.box [.pv (.int .i64 l.k), .pv (enc l.t)]), .obj (.box [.pv (.int .i64 0), .pv (.sl 0 true [])]), .obj (.box [.pv (.int .i64 l.k), .row 3 add.length 0 add.length]), .obj (.row false 87 2 (add.map enc))] := by
      intro p' add h3 h4 h6
      have h7 : insT ⟨s⟩ c false l.t = add ++ insT ⟨s⟩ c p' (l.t.drop 1) := by rw [← h6, ← ed]
      rw [h7]
      exact pluso_l0 l s c hl (l.t.length - 1) (0 + 1) p' add.length add (by omega) rfl (fun h => h4 h) (by omega)
    rw [show IntKind.wrap IntKind.i64 (0 + 1) = ((0 + 1 : Nat) : Int) from rfl]
    generalize l.t[0] = y at key ⊢
    obtain ⟨⟨yv⟩, yc⟩ := y
    refine iteT rfl ?_
    refine iteN (fun hb => ?_) fun hb => ?_
    · have hb : (Op.bytesLess yv s || yv == s) = false := hb
      have hlt2 : s < yv := by
        simp only [bytesLess_eq, Bool.or_eq_false_iff, decide_eq_false_iff_not, beq_eq_false_iff_ne] at hb
        exact tri hb.1 hb.2
      have hne : ¬ yv = s := fun e => by rw [e] at hlt2; exact List.lt_irrefl _ hlt2
      refine iteE (fun h => absurd h hne) fun _ => ?_
      exact key true [⟨⟨s⟩, c⟩, ⟨⟨yv⟩, yc⟩] (by simp) (fun h => by cases h) (by rw [ins_f, if_pos hlt2]; simp)
    · have hb : (Op.bytesLess yv s || yv == s) = true := hb
      have hnl : ¬ s < yv := by
        simp only [bytesLess_eq, Bool.or_eq_true, decide_eq_true_eq, beq_iff_eq] at hb
        rcases hb with h | h
        · exact List.lt_asymm h
        · rw [h]; exact List.lt_irrefl _
      refine iteE (fun h => ?_) fun h => ?_
      · have h : yv = s := h
        subst h
        exact key true [⟨⟨yv⟩, w64 (yc + c)⟩] (by simp) (fun h => by cases h) (by rw [ins_f, if_neg hnl, if_pos rfl]; simp)
      · have h : yv ≠ s := h
        exact key false [⟨⟨yv⟩, yc⟩] (by simp) (fun _ => by simp) (by rw [ins_f, if_neg hnl, if_neg (by rw [str_ext]; exact h)]; simp)
theorem pluso_run : ∀ args os, pre_plusF args os = true → Gets T_pluso os.length (endO' os.length rs_pluso fun r => r = val_plusF args os) ic_pluso [] (st0O nt_pluso args os) := by
  intro args os h
  unfold pre_plusF at h
  split at h
  · rename_i l s c
    simp only [Bool.and_eq_true, decide_eq_true_eq] at h
    obtain ⟨hl, h1⟩ := h
    obtain ⟨l, rfl⟩ := can_eq hl
    rw [Enc.dec_enc] at h1
    have ev : val_plusF [.pv (enc l), .pv (.str s), .pv (.int .i64 c)] [] = newR (plusR l ⟨s⟩ c) 0 [] := by
      show newR (plusR (dec (enc l : PV)) ⟨s⟩ c) 0 [] = _
      rw [Enc.dec_enc]
    rw [ev]
    exact pluso_get l s c h1
  · cases h
end Go.Pl

