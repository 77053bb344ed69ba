/-
  Texts of mine that belong together (packed by pack.py), for every input: TyL, TyM, TyN, TyT, TyO, TyS, GLb, GLa, QLa, QLb, GLc, QLc, GLd, QLd, TyU, QLh, QLm, GLe, QLe, GLg, QLg, QLf, GLi.
-/
import Derived.Test.YtfagcgjdholinaaGreatDoorKX2
import Derived.Test.YtfagcgjdholinaaGreatDoorKX3
import Derived.KernelRfl
import Derived.Lib.AtoiAllMem
import Derived.Lib.AtoiAllCases
import Derived.Lib.ItoaNum
set_option linter.unusedVariables false
set_option linter.unusedSimpArgs false
namespace Go.Pl
open Go.RowKit
open Enc (enc dec is)
open EncL (encL decL isL)
structure Coef where
 v : Str
 c : Int
 deriving DecidableEq
instance : Enc Coef where
 sz := 2
 enc x := .agg [enc x.v, enc x.c]
 dec | .agg [a, b] => ⟨dec a, dec b⟩ | _ => ⟨⟨[]⟩, 0⟩
 is | .agg [a, b] => is Str a && is Int b | _ => false
 is_enc v := by simp
 dec_enc v := by simp
 sub p h := by
  cases p with
  | agg xs =>
   match xs, h with
   | [a, b], h =>
    simp only [Bool.and_eq_true] at h
    exact .agg (.cons (Enc.sub a h.1).2 (.cons (Enc.sub b h.2).2 .nil))
  | _ => cases h
structure Lin where
 k : Int
 t : List Coef
 deriving DecidableEq
instance : Enc Lin where
 sz := 2
 enc x := .agg [enc x.k, enc x.t]
 dec | .agg [a, b] => ⟨dec a, dec b⟩ | _ => ⟨0, []⟩
 is | .agg [a, b] => is Int a && is (List Coef) b | _ => false
 is_enc v := by simp
 dec_enc v := by simp
 sub p h := by
  cases p with
  | agg xs =>
   match xs, h with
   | [a, b], h =>
    simp only [Bool.and_eq_true] at h
    exact .agg (.cons (Enc.sub a h.1).2 (.cons (Enc.sub b h.2).2 .nil))
  | _ => cases h
@[simp] theorem is_coef (a b : PV) : is Coef (.agg [a, b]) = (is Str a && is Int b) := rfl
@[simp] theorem dec_coef (a b : PV) : (dec (.agg [a, b]) : Coef) = ⟨dec a, dec b⟩ := rfl
@[simp] theorem is_lin (a b : PV) : is Lin (.agg [a, b]) = (is Int a && is (List Coef) b) := rfl
@[simp] theorem dec_lin (a b : PV) : (dec (.agg [a, b]) : Lin) = ⟨dec a, dec b⟩ := rfl
def digB (c : UInt8) : Bool := decide (48 <= c) && decide (c <= 57)
def lowB (c : UInt8) : Bool := decide (97 <= c) && decide (c <= 122)
def nameB (s : Str) : Bool := match s.s with
 | [] => false
 | c :: r => if c = 95 then r.all digB && !r.isEmpty && decide (r.head? ≠ some 48) && decide (r.length <= 9) else lowB c && r.all (fun c => lowB c || digB c) && decide (r.length <= 29)
def coefIn (n : Int) : Bool := decide (-1000000 <= n) && decide (n <= 1000000)
def ascB : List Coef -> Bool
 | a :: b :: l => decide (a.v.s < b.v.s) && ascB (b :: l)
 | _ => true
def validL (l : Lin) : Bool := l.t.all (fun t => nameB t.v && decide (t.c ≠ 0) && coefIn t.c) && ascB l.t && coefIn l.k && decide (l.t.length <= 12)
def mapP (m : List (Str × Int)) : List (PV × PV) := m.map fun p => (.str p.1.s, .int .i64 p.2)
def atM (m : List (Str × Int)) (s : List UInt8) : Int := ((m.find? fun p => p.1.s == s).map (·.2)).getD 0
def termsM (m : List (Str × Int)) : List Coef := (sortS ((m.filter fun p => decide (p.2 ≠ 0)).map (·.1.s))).map fun s => ⟨⟨s⟩, atM m s⟩
def resM (n : Int) (m : List (Str × Int)) : Lin × Int := if validL ⟨n, termsM m⟩ then (⟨n, termsM m⟩, 0) else (⟨0, []⟩, 3)
end Go.Pl

namespace Go.Pl
open Go.RowKit
open Enc (enc dec is)
open EncL (encL decL isL)
structure Fact where
 eq : Bool
 l : Lin
 deriving DecidableEq
instance : Enc Fact where
 sz := 3
 enc x := .agg [enc x.eq, enc x.l.k, enc x.l.t]
 dec | .agg [a, b, c] => ⟨dec a, ⟨dec b, dec c⟩⟩ | _ => ⟨false, ⟨0, []⟩⟩
 is | .agg [a, b, c] => is Bool a && is Int b && is (List Coef) c | _ => false
 is_enc v := by simp
 dec_enc v := by simp
 sub p h := by
  cases p with
  | agg xs =>
   match xs, h with
   | [a, b, c], h =>
    simp only [Bool.and_eq_true] at h
    exact .agg (.cons (Enc.sub a h.1.1).2 (.cons (Enc.sub b h.1.2).2 (.cons (Enc.sub c h.2).2 .nil)))
  | _ => cases h
@[simp] theorem is_fact (a b c : PV) : is Fact (.agg [a, b, c]) = (is Bool a && is Int b && is (List Coef) c) := rfl
@[simp] theorem dec_fact (a b c : PV) : (dec (.agg [a, b, c]) : Fact) = ⟨dec a, ⟨dec b, dec c⟩⟩ := rfl
structure Bnd where
 kind : Int
 v : Str
 dim : Lin
 row : Str
 dims : List Lin
 elem : Str
 deriving DecidableEq
instance : Enc Bnd where
 sz := 7
 enc x := .agg [enc x.kind, enc x.v, enc x.dim.k, enc x.dim.t, enc x.row, enc x.dims, enc x.elem]
 dec | .agg [a, b, c, d, e, f, g] => ⟨dec a, dec b, ⟨dec c, dec d⟩, dec e, dec f, dec g⟩ | _ => ⟨0, ⟨[]⟩, ⟨0, []⟩, ⟨[]⟩, [], ⟨[]⟩⟩
 is | .agg [a, b, c, d, e, f, g] => is Int a && is Str b && is Int c && is (List Coef) d && is Str e && is (List Lin) f && is Str g | _ => false
 is_enc v := by simp
 dec_enc v := by simp
 sub p h := by
  cases p with
  | agg xs =>
   match xs, h with
   | [a, b, c, d, e, f, g], h =>
    simp only [Bool.and_eq_true] at h
    exact .agg (.cons (Enc.sub a h.1.1.1.1.1.1).2 (.cons (Enc.sub b h.1.1.1.1.1.2).2 (.cons (Enc.sub c h.1.1.1.1.2).2 (.cons (Enc.sub d h.1.1.1.2).2 (.cons (Enc.sub e h.1.1.2).2 (.cons (Enc.sub f h.1.2).2 (.cons (Enc.sub g h.2).2 .nil)))))))
  | _ => cases h
@[simp] theorem is_bnd (a b c d e f g : PV) : is Bnd (.agg [a, b, c, d, e, f, g]) = (is Int a && is Str b && is Int c && is (List Coef) d && is Str e && is (List Lin) f && is Str g) := rfl
@[simp] theorem dec_bnd (a b c d e f g : PV) : (dec (.agg [a, b, c, d, e, f, g]) : Bnd) = ⟨dec a, dec b, ⟨dec c, dec d⟩, dec e, dec f, dec g⟩ := rfl
inductive Cert where
 | mk (kind : Int) (mults : List Int) (lin : Lin) (kids : List Cert)
mutual
def certP : Cert -> PV
 | .mk k m l ks => .agg [enc k, enc m, enc l.k, enc l.t, .sl 5 false (certsP ks)]
def certsP : List Cert -> List PV
 | [] => []
 | c :: cs => certP c :: certsP cs
end
mutual
def certD : PV -> Cert
 | .agg [a, b, c, d, .sl _ _ ks] => .mk (dec a) (dec b) ⟨dec c, dec d⟩ (certsD ks)
 | _ => .mk 0 [] ⟨0, []⟩ []
def certsD : List PV -> List Cert
 | [] => []
 | p :: ps => certD p :: certsD ps
end
mutual
def certI : PV -> Bool
 | .agg [a, b, c, d, .sl s _ ks] => is Int a && is (List Int) b && is Int c && is (List Coef) d && (ks.isEmpty || s == 5) && certsI ks
 | _ => false
def certsI : List PV -> Bool
 | [] => true
 | p :: ps => certI p && certsI ps
end
theorem certsP_map (cs : List Cert) : certsP cs = cs.map certP := by
 induction cs with
 | nil => simp [certsP]
 | cons c cs ih => simp [certsP, ih]
theorem certsD_map (cs : List PV) : certsD cs = cs.map certD := by
 induction cs with
 | nil => simp [certsD]
 | cons c cs ih => simp [certsD, ih]
theorem certsI_all (cs : List PV) : certsI cs = cs.all certI := by
 induction cs with
 | nil => simp [certsI]
 | cons c cs ih => simp [certsI, ih]
mutual
theorem certI_P : ∀ c : Cert, certI (certP c) = true
 | .mk k m l ks => by
  have h := certsI_P ks
  simp only [certP, certI, Enc.is_enc, Bool.true_and, Bool.and_eq_true, h, and_true]
  simp
theorem certsI_P : ∀ cs : List Cert, certsI (certsP cs) = true
 | [] => by simp [certsP, certsI]
 | c :: cs => by simp [certsP, certsI, certI_P c, certsI_P cs]
end
mutual
theorem certD_P : ∀ c : Cert, certD (certP c) = c
 | .mk k m l ks => by
  have h := certsD_P ks
  simp only [certP, certD, Enc.dec_enc, h]
theorem certsD_P : ∀ cs : List Cert, certsD (certsP cs) = cs
 | [] => by simp [certsP, certsD]
 | c :: cs => by simp [certsP, certsD, certD_P c, certsD_P cs]
end
mutual
theorem cert_sub : ∀ p : PV, certI p = true -> SubC p (certP (certD p))
 | .agg [a, b, c, d, .sl s t ks], h => by
  simp only [certI, Bool.and_eq_true] at h
  obtain ⟨⟨⟨⟨⟨h1, h2⟩, h3⟩, h4⟩, h5⟩, h6⟩ := h
  have hk := certs_sub ks h6
  simp only [certD, certP]
  refine .agg (.cons (Enc.sub a h1).2 (.cons (Enc.sub b h2).2 (.cons (Enc.sub c h3).2 (.cons (Enc.sub d h4).2 (.cons ?_ .nil)))))
  simp only [Bool.or_eq_true, List.isEmpty_iff, beq_iff_eq] at h5
  rcases h5 with rfl | rfl
  ·simp only [certsD, certsP]
   exact (SubC.sl0 _ _ _).2
  ·exact (SubC.sl hk.1 hk.2).2
 | .bool _, h | .int _ _, h | .str _, h | .sl _ _ _, h | .tup _, h | .nilp, h | .nilmap, h | .nilfn, h | .nili, h | .ifc, h | .fn _, h | .rptr _, h => by simp [certI] at h
 | .agg [], h | .agg [_], h | .agg [_, _], h | .agg [_, _, _], h | .agg [_, _, _, _], h => by simp [certI] at h
 | .agg (a :: b :: c :: d :: e :: f :: g), h => by
  have h' : certI (.agg (a :: b :: c :: d :: e :: f :: g)) = false := by cases e <;> kernel_rfl
  rw [h'] at h; cases h
 | .agg [_, _, _, _, .bool _], h | .agg [_, _, _, _, .int _ _], h | .agg [_, _, _, _, .str _], h | .agg [_, _, _, _, .agg _], h | .agg [_, _, _, _, .tup _], h | .agg [_, _, _, _, .nilp], h | .agg [_, _, _, _, .nilmap], h | .agg [_, _, _, _, .nilfn], h | .agg [_, _, _, _, .nili], h | .agg [_, _, _, _, .ifc], h | .agg [_, _, _, _, .fn _], h | .agg [_, _, _, _, .rptr _], h => by simp [certI] at h
theorem certs_sub : ∀ ps : List PV, certsI ps = true -> ps.length = (certsP (certsD ps)).length ∧ ∀ (j : Nat) x y, ps[j]? = some x -> (certsP (certsD ps))[j]? = some y -> SubC x y
 | [], _ => ⟨by simp [certsD, certsP], fun j x y h => by simp at h⟩
 | p :: ps, h => by
  simp only [certsI, Bool.and_eq_true] at h
  have h1 := cert_sub p h.1
  have h2 := certs_sub ps h.2
  refine ⟨by simp [certsD, certsP, <- h2.1], fun j x y hx hy => ?_⟩
  simp only [certsD, certsP] at hy
  cases j with
  | zero => simp at hx hy; subst hx hy; exact h1
  | succ j => exact h2.2 j x y (by simpa using hx) (by simpa using hy)
end
instance : Enc Cert where
 sz := 5
 enc := certP
 dec := certD
 is := certI
 is_enc := certI_P
 dec_enc := certD_P
 sub := cert_sub
abbrev Cert.kind : Cert -> Int | .mk k _ _ _ => k
abbrev Cert.mults : Cert -> List Int | .mk _ m _ _ => m
abbrev Cert.lin : Cert -> Lin | .mk _ _ l _ => l
abbrev Cert.kids : Cert -> List Cert | .mk _ _ _ k => k
theorem enc_cert (k : Int) (m : List Int) (l : Lin) (ks : List Cert) : (enc (Cert.mk k m l ks) : PV) = .agg [enc k, enc m, enc l.k, enc l.t, enc ks] := by
 show certP _ = _
 rw [certP, certsP_map]
 rfl
@[simp] theorem is_cert (a b c d e : PV) : is Cert (.agg [a, b, c, d, e]) = (is Int a && is (List Int) b && is Int c && is (List Coef) d && is (List Cert) e) := by
 show certI _ = _
 cases e <;> simp only [certI] <;> try (simp [is]; done)
 rename_i s t ks
 rw [certsI_all]
 show _ = (_ && ((ks.isEmpty || s == 5) && ks.all certI))
 rw [Bool.and_assoc]
@[simp] theorem dec_cert (a b c d e : PV) (h : is (List Cert) e = true) : (dec (.agg [a, b, c, d, e]) : Cert) = .mk (dec a) (dec b) ⟨dec c, dec d⟩ (dec e) := by
 show certD _ = _
 cases e <;> try (cases h; done)
 rw [certD, certsD_map]
 rfl
end Go.Pl

namespace Go.Pl
open Enc (enc dec is)
structure Er where
 b : Bool
 deriving DecidableEq
instance : Enc Er where
 sz := 1
 enc x := if x.b then .ifc else .nili
 dec | .ifc => ⟨true⟩ | _ => ⟨false⟩
 is | .ifc => true | .nili => true | _ => false
 is_enc v := by obtain ⟨b⟩ := v; cases b <;> rfl
 dec_enc v := by obtain ⟨b⟩ := v; cases b <;> rfl
 sub p h := by cases p <;> first | exact .refl _ | cases h
def atoiE (s : Str) : Int × Er := match Lib.atoiAll s.s with
 | .ok v => (v, ⟨false⟩)
 | .range => (Lib.atoiSat s.s, ⟨true⟩)
 | _ => (0, ⟨true⟩)
def itoaS (n : Int) : Str := ⟨Lib.itoa n⟩
def few4 (l : Lin) (n : Int) : Bool := l.t.all (fun t => decide (t.v.s.length <= 40)) && decide ((l.t.length : Int) <= n)
abbrev w64 (n : Int) : Int := IntKind.i64.wrap n
def insT (s : Str) (c : Int) : Bool -> List Coef -> List Coef
 | put, [] => if put then [] else [⟨s, c⟩]
 | put, t :: r => (if !put && decide (s.s < t.v.s) then [⟨s, c⟩] else []) ++ (if t.v = s then ⟨t.v, w64 (t.c + c)⟩ :: insT s c true r else t :: insT s c (put || decide (s.s < t.v.s)) r)
def plusL (l : Lin) (s : Str) (c : Int) : Lin := ⟨l.k, (insT s c false l.t).filter fun t => decide (t.c ≠ 0)⟩
def timesL (l x : Lin) (k : Int) : Lin := x.t.foldl (fun o t => plusL o t.v (w64 (k * t.c))) ⟨w64 (l.k + w64 (k * x.k)), l.t⟩
def cmpK (a b : Int) : Int := if a < b then -1 else if a > b then 1 else 0
def cmpT : List Coef -> List Coef -> Int
 | [], [] => 0
 | [], _ :: _ => -1
 | _ :: _, [] => 1
 | x :: l, y :: m => if x.v.s < y.v.s ∨ x.v.s = y.v.s ∧ x.c < y.c then -1 else if x = y then cmpT l m else 1
def cmpL (a b : Lin) : Int := if cmpT a.t b.t ≠ 0 then cmpT a.t b.t else cmpK a.k b.k
def gcdsI (l : List Int) : Int := l.foldl (fun g n => (Int.gcd g n : Int)) 0
def gcdsP (l : List Int) : Int × Int := (gcdsI l, 0)
def gcdP (a b : Int) : Int × Int := ((Int.gcd a b : Nat), 0)
def absW (n : Int) : Int := if n < 0 then w64 (-n) else n
def inR (n : Int) : Bool := decide (-4611686018427387904 <= n) && decide (n <= 4611686018427387904)
def divE (a b : Int) : Int := if inR a && inR b then (if b = 0 then 1 else 0) else 2
def divQ (a b : Int) : Int := if a.tmod b ≠ 0 ∧ decide (a < 0) ≠ decide (b < 0) then w64 (w64 (a.tdiv b) - 1) else w64 (a.tdiv b)
def divR (a b : Int) : Int := if a.tmod b ≠ 0 ∧ decide (a < 0) ≠ decide (b < 0) then w64 (a.tmod b + b) else a.tmod b
def divI (a b : Int) : Int × Int := if divE a b ≠ 0 then (0, divE a b) else (divQ a b, 0)
mutual
def sizeC : Cert -> Int
 | .mk _ _ _ ks => sizeCs 1 ks
def sizeCs (n : Int) : List Cert -> Int
 | [] => n
 | c :: cs => sizeCs (w64 (n + sizeC c)) cs
end
def linOk (l : Lin) : Bool := decide (l.t.length <= 9223372036854775807)
def linSm (l : Lin) : Bool := linOk l && l.t.all fun t => decide (t.v.s.length <= 1000000)
mutual
def cOk : Cert -> Bool
 | .mk _ m l ks => decide (m.length <= 9223372036854775807) && linOk l && decide (ks.length <= 9223372036854775807) && cOks ks
def cOks : List Cert -> Bool
 | [] => true
 | c :: cs => cOk c && cOks cs
end
theorem cOks_mem {c : Cert} : ∀ {cs : List Cert}, cOks cs = true -> c ∈ cs -> cOk c = true
 | d :: cs, hc, h => by
  simp only [cOks, Bool.and_eq_true] at hc
  rcases List.mem_cons.1 h with rfl | h
  ·exact hc.1
  ·exact cOks_mem hc.2 h
mutual
def depC : Cert -> Nat
 | .mk _ _ _ ks => depCs ks + 1
def depCs : List Cert -> Nat
 | [] => 0
 | c :: cs => max (depC c) (depCs cs)
end
theorem depCs_le {c : Cert} : ∀ {cs : List Cert}, c ∈ cs -> depC c <= depCs cs
 | d :: cs, h => by
  rcases List.mem_cons.1 h with rfl | h
  ·simp only [depCs]; omega
  ·have := depCs_le h; simp only [depCs]; omega
end Go.Pl

namespace Go.Pl
open Go.RowKit
open Enc (enc dec is)
open EncL (encL decL isL)
theorem el_ex {α : Type} [Enc α] {l : List α} {i : Nat} (h : i < l.length) {P : α -> Prop} (k : P l[i]) :
  ∃ y : α, AV.pv (PV.rptr (PV.cells (List.getD (List.map enc l) (Int.toNat (i : Int)) default))) = AV.pv (PV.rptr (PV.cells (enc y))) ∧ P y := ⟨l[i], by rw [getD_map enc h], k⟩
theorem idx_ok {α : Type} [Enc α] {l : List α} {i n : Nat} (h : i < l.length) (hn : Enc.sz α = n) : (decide (0 <= (i : Int)) && decide (Int.toNat (i : Int) < List.length (List.map (enc : α -> PV) l)) && Enc.sz α == n) = true := by simp [hn, h]
theorem lt_ok {α : Type} [Enc α] {l : List α} {i : Nat} (h : i < l.length) : decide ((i : Int) < (List.length (List.map (enc : α -> PV) l) : Int)) = true := by simp; omega
theorem lt_no {α : Type} [Enc α] {l : List α} {i : Nat} (h : ¬ i < l.length) : ¬ decide ((i : Int) < (List.length (List.map (enc : α -> PV) l) : Int)) = true := by simp; omega
theorem lt_ok' {n i : Nat} (h : i < n) : decide ((i : Int) < (n : Int)) = true := by simp; omega
theorem lt_no' {n i : Nat} (h : ¬ i < n) : ¬ decide ((i : Int) < (n : Int)) = true := by simp; omega
theorem if_nf {P Q : Prop} : (if (!false) = true then P else Q) = P := rfl
theorem if_nt {P Q : Prop} : (if (!true) = true then P else Q) = Q := rfl
theorem iteT {c : Prop} [Decidable c] {P Q : Prop} (h : c) (k : P) : if c then P else Q := by rw [if_pos h]; exact k
theorem iteF {c : Prop} [Decidable c] {P Q : Prop} (h : ¬ c) (k : Q) : if c then P else Q := by rw [if_neg h]; exact k
theorem iteC {c : Prop} [Decidable c] {P Q : Prop} (h1 : c -> P) (h2 : ¬ c -> Q) : if c then P else Q := by split; exact h1 ‹_›; exact h2 ‹_›
theorem iteN {b : Bool} {P Q : Prop} (h1 : b = false -> P) (h2 : b = true -> Q) : if (!b) = true then P else Q := by cases b; exact h1 rfl; exact h2 rfl
theorem iteB {b : Bool} {P Q : Prop} (h1 : b = true -> P) (h2 : b = false -> Q) : if b = true then P else Q := by cases b; exact h2 rfl; exact h1 rfl
theorem iteD {c : Prop} [Decidable c] {P Q : Prop} (h1 : c -> P) (h2 : ¬ c -> Q) : if decide c = true then P else Q := by by_cases h : c; rw [if_pos (by simpa using h)]; exact h1 h; rw [if_neg (by simpa using h)]; exact h2 h
theorem iteE {α : Type} [BEq α] [LawfulBEq α] {x y : α} {P Q : Prop} (h1 : x = y -> P) (h2 : x ≠ y -> Q) : if (x == y) = true then P else Q := by by_cases h : x = y; rw [if_pos (by simpa using h)]; exact h1 h; rw [if_neg (by simpa using h)]; exact h2 h
theorem fits_of {β : Type} [Enc β] {x y : β} (h : x = y) : Fits y (enc x) := ⟨Enc.is_enc x, by rw [Enc.dec_enc, h]⟩
theorem fitB {x y : Bool} (h : x = y) : Fits y (.bool x) := ⟨rfl, h⟩
theorem fitI {x y : Int} (h : x = y) : Fits y (.int .i64 x) := ⟨rfl, h⟩
section
variable (x : Coef) (f : Fact)
theorem co1 : PV.asStr (List.getD (PV.cells (enc x)) 0 default) = x.v.s := rfl
theorem co2 : PV.asInt (List.getD (PV.cells (enc x)) (0 + 1) default) = x.c := rfl
theorem co3 : PV.asStr (List.getD (List.drop 0 (PV.cells (enc x))) 0 default) = x.v.s := rfl
theorem co4 : PV.asInt (List.getD (List.drop 1 (PV.cells (enc x))) 0 default) = x.c := rfl
end
theorem u8_no {c : UInt8} (n : Nat) (h : c ≠ UInt8.ofNat n) (hn : n < 256) : ¬ ((c.toNat : Int) == (n : Int)) = true := by
 intro e
 have e : (c.toNat : Int) = n := by simpa using e
 have e : c.toNat = n := by omega
 exact h (UInt8.toNat_inj.1 (by rw [e, UInt8.toNat_ofNat']; omega))
theorem bytesLess_eq : ∀ a b : List UInt8, Op.bytesLess a b = decide (a < b)
 | [], [] => by simp [Op.bytesLess]
 | _ :: _, [] => by simp [Op.bytesLess]
 | [], _ :: _ => by simp [Op.bytesLess]
 | x :: a, y :: b => by
  rw [Op.bytesLess, bytesLess_eq a b]
  simp only [List.cons_lt_cons_iff]
  by_cases h1 : x < y
  ·simp [h1]
  ·by_cases h2 : x = y
   ·subst h2; simp
   ·simp [h1, h2]
theorem Does.fuel {P : Program} {f : Nat} {α β : Type} [EncL α] [Enc β] {pre : α -> Bool} {F : α -> β} (μ : α -> Nat) (h : ∀ N, Does P f (fun a => pre a && decide (μ a < N)) F) : Does P f pre F := fun ps hps => by
 refine h (μ (decL ps) + 1) ps ?_
 simp only [preT, Bool.and_eq_true, decide_eq_true_eq] at hps ⊢
 exact ⟨hps.1, hps.2, by omega⟩
theorem Does.void {P : Program} {f : Nat} {α β : Type} [EncL α] [Enc β] {pre : α -> Bool} {F : α -> β} (h : ∀ a, pre a = false) : Does P f pre F := fun ps hps => by simp [preT, h] at hps
theorem Does.rec {P : Program} {f : Nat} {α β : Type} [EncL α] [Enc β] {pre : α -> Bool} {F : α -> β} (μ : α -> Nat) (h : ∀ N, Does P f (fun a => pre a && decide (μ a < N)) F -> Does P f (fun a => pre a && decide (μ a < N + 1)) F) : Does P f pre F := by
 refine Does.fuel μ fun N => ?_
 induction N with
 | zero => exact Does.void fun a => by simp
 | succ N ih => exact h N ih
theorem Does.or {P : Program} {f : Nat} {α β : Type} [EncL α] [Enc β] {pre : α -> Bool} {F : α -> β} (c : α -> Bool) (h1 : Does P f (fun a => pre a && c a) F) (h2 : Does P f (fun a => pre a && !c a) F) : Does P f pre F := fun ps hps => by
 have hps' := hps
 simp only [preT, Bool.and_eq_true] at hps'
 cases hc : c (decL ps)
 ·exact h2 ps (by simp only [preT, hps'.1, hps'.2, hc]; rfl)
 ·exact h1 ps (by simp only [preT, hps'.1, hps'.2, hc]; rfl)
mutual
def pvB : PV -> PV -> Bool
 | .bool a, .bool b => a == b
 | .int k a, .int l b => kindEq k l && a == b
 | .str a, .str b => a == b
 | .sl s t xs, .sl s' t' ys => s == s' && t == t' && pvBs xs ys
 | .agg xs, .agg ys => pvBs xs ys
 | .tup xs, .tup ys => pvBs xs ys
 | .nilp, .nilp => true
 | .nilmap, .nilmap => true
 | .nilfn, .nilfn => true
 | .nili, .nili => true
 | .ifc, .ifc => true
 | .fn a, .fn b => a == b
 | .rptr xs, .rptr ys => pvBs xs ys
 | _, _ => false
def pvBs : List PV -> List PV -> Bool
 | [], [] => true
 | x :: xs, y :: ys => pvB x y && pvBs xs ys
 | _, _ => false
end
theorem kindEq_refl (k : IntKind) : kindEq k k = true := by cases k <;> rfl
mutual
theorem pvB_eq : ∀ (p q : PV), pvB p q = true -> p = q
 | .bool a, q, h => by cases q <;> simp [pvB] at h; rw [h]
 | .int k a, q, h => by cases q <;> simp [pvB] at h; rw [kindEq_ok h.1, h.2]
 | .str a, q, h => by cases q <;> simp [pvB] at h; rw [h]
 | .sl s t xs, q, h => by cases q <;> simp [pvB] at h; rw [h.1.1, h.1.2, pvBs_eq xs _ h.2]
 | .agg xs, q, h => by cases q <;> simp [pvB] at h; rw [pvBs_eq xs _ h]
 | .tup xs, q, h => by cases q <;> simp [pvB] at h; rw [pvBs_eq xs _ h]
 | .nilp, q, h => by cases q <;> simp [pvB] at h; rfl
 | .nilmap, q, h => by cases q <;> simp [pvB] at h; rfl
 | .nilfn, q, h => by cases q <;> simp [pvB] at h; rfl
 | .nili, q, h => by cases q <;> simp [pvB] at h; rfl
 | .ifc, q, h => by cases q <;> simp [pvB] at h; rfl
 | .fn a, q, h => by cases q <;> simp [pvB] at h; rw [h]
 | .rptr xs, q, h => by cases q <;> simp [pvB] at h; rw [pvBs_eq xs _ h]
theorem pvBs_eq : ∀ (xs ys : List PV), pvBs xs ys = true -> xs = ys
 | [], ys, h => by cases ys <;> simp [pvBs] at h; rfl
 | x :: xs, ys, h => by
  cases ys with
  | nil => simp [pvBs] at h
  | cons y ys => simp [pvBs] at h; rw [pvB_eq x y h.1, pvBs_eq xs ys h.2]
end
mutual
theorem pvB_refl : ∀ (p : PV), pvB p p = true
 | .bool a | .str a | .fn a => by simp [pvB]
 | .int k a => by simp [pvB, kindEq_refl]
 | .sl s t xs => by simp [pvB, pvBs_refl xs]
 | .agg xs | .tup xs | .rptr xs => by simp [pvB, pvBs_refl xs]
 | .nilp | .nilmap | .nilfn | .nili | .ifc => by simp [pvB]
theorem pvBs_refl : ∀ (xs : List PV), pvBs xs xs = true
 | [] => by simp [pvBs]
 | x :: xs => by simp [pvBs, pvB_refl x, pvBs_refl xs]
end
def can (α : Type) [Enc α] (p : PV) : Bool := pvB p (enc (dec p : α))
@[simp] theorem can_enc {α : Type} [Enc α] (a : α) : can α (enc a) = true := by unfold can; rw [Enc.dec_enc]; exact pvB_refl _
theorem can_eq {α : Type} [Enc α] {p : PV} (h : can α p = true) : ∃ a : α, p = enc a := ⟨_, pvB_eq _ _ h⟩
end Go.Pl

namespace Go.Pl
open Enc (enc dec is)
@[irreducible] def valD (a : Nat) (r : List UInt8) : Nat := r.foldl (fun a c => a * 10 + (c.toNat - 48)) a
theorem valD_nil (a : Nat) : valD a [] = a := by unfold valD; rfl
theorem valD_cons (a : Nat) (c : UInt8) (r : List UInt8) : valD a (c :: r) = valD (a * 10 + (c.toNat - 48)) r := by unfold valD; rfl
theorem digB_iff {c : UInt8} : digB c = true ↔ 48 <= c.toNat ∧ c.toNat <= 57 := by
 simp only [digB, Bool.and_eq_true, decide_eq_true_eq, UInt8.le_iff_toNat_le]
 have e1 : (48 : UInt8).toNat = 48 := rfl
 have e2 : (57 : UInt8).toNat = 57 := rfl
 rw [e1, e2]
theorem valD_lt : ∀ (r : List UInt8) (a : Nat), r.all digB = true -> valD a r < (a + 1) * 10 ^ r.length
 | [], a, _ => by simp [valD_nil]
 | c :: r, a, h => by
  simp only [List.all_cons, Bool.and_eq_true, digB_iff] at h
  have := valD_lt r (a * 10 + (c.toNat - 48)) h.2
  rw [valD_cons, List.length_cons, Nat.pow_succ]
  refine Nat.lt_of_lt_of_le this ?_
  rw [Nat.mul_comm (10 ^ r.length) 10, <- Nat.mul_assoc]
  exact Nat.mul_le_mul_right _ (by omega)
theorem valD_ge : ∀ (r : List UInt8) (a : Nat), a <= valD a r
 | [], a => by rw [valD_nil]; exact Nat.le_refl _
 | c :: r, a => by
  have := valD_ge r (a * 10 + (c.toNat - 48))
  rw [valD_cons]
  omega
theorem parse_val : ∀ (r : List UInt8) (a : Nat), r.all digB = true -> valD a r < 1000000000000000000 -> Lib.parseUint10 a r = .ok (valD a r)
 | [], a, _, _ => by rw [valD_nil, Lib.parseUint10]
 | c :: r, a, h, hv => by
  simp only [List.all_cons, Bool.and_eq_true, digB_iff] at h
  rw [valD_cons] at hv ⊢
  have hge := valD_ge r (a * 10 + (c.toNat - 48))
  rw [Lib.parseUint10, if_pos h.1, if_neg (by omega), if_neg (by omega)]
  exact parse_val r _ h.2 hv
theorem dig_step {a d : Nat} (ha : 1 <= a) (hd : d <= 9) : Lib.decDigits (a * 10 + d) = Lib.decDigits a ++ [UInt8.ofNat (48 + d)] := by
 rw [Lib.decDigits, dif_neg (by omega), show (a * 10 + d) / 10 = a by omega, show (a * 10 + d) % 10 = d by omega]
theorem dig_val : ∀ (r : List UInt8) (a : Nat), 1 <= a -> r.all digB = true -> Lib.decDigits (valD a r) = Lib.decDigits a ++ r
 | [], a, _, _ => by simp [valD_nil]
 | c :: r, a, ha, h => by
  simp only [List.all_cons, Bool.and_eq_true, digB_iff] at h
  rw [valD_cons, dig_val r _ (by omega) h.2, dig_step ha (by omega)]
  have : UInt8.ofNat (48 + (c.toNat - 48)) = c := by
   rw [show 48 + (c.toNat - 48) = c.toNat by omega]
   exact UInt8.ofNat_toNat
  rw [this]
  simp
theorem u8_of {n : Nat} (h : n < 256) : (UInt8.ofNat n).toNat = n := by rw [UInt8.toNat_ofNat']; omega
theorem dec_digits : ∀ (u : Nat), 1 <= u -> (Lib.decDigits u).all digB = true ∧ (Lib.decDigits u).head? ≠ some 48 ∧ Lib.decDigits u ≠ [] := by
 intro u
 induction u using Nat.strongRecOn with
 | _ u ih =>
  intro h1
  rw [Lib.decDigits]
  by_cases h : u < 10
  ·rw [dif_pos h]
   refine ⟨?_, ?_, by simp⟩
   ·simp only [List.all_cons, List.all_nil, Bool.and_true]
    rw [digB_iff, u8_of (by omega)]
    omega
   ·simp only [List.head?_cons, ne_eq, Option.some.injEq]
    intro e
    have := congrArg UInt8.toNat e
    rw [u8_of (by omega)] at this
    have e48 : (48 : UInt8).toNat = 48 := rfl
    rw [e48] at this
    omega
  ·rw [dif_neg h]
   obtain ⟨i1, i2, i3⟩ := ih (u / 10) (by omega) (by omega)
   refine ⟨?_, ?_, by simp⟩
   ·rw [List.all_append, i1]
    simp only [List.all_cons, List.all_nil, Bool.and_true, Bool.true_and]
    rw [digB_iff, u8_of (by omega)]
    omega
   ·cases hd : Lib.decDigits (u / 10) with
    | nil => exact absurd hd i3
    | cons c r => rw [hd] at i2; simpa using i2
def numB (r : List UInt8) : Bool := r.all digB && !r.isEmpty && decide (r.head? ≠ some 48)
theorem nil_ok (b : Bool) : isNilI (enc (⟨b⟩ : Er)) = !b := by cases b <;> rfl
theorem if_ok (e : Er) : isIfP (enc e) = true := by obtain ⟨b⟩ := e; cases b <;> rfl
theorem numeral (r : List UInt8) (hr : r.length <= 9) : (isNilI (enc (atoiE ⟨r⟩).2) && decide ((atoiE ⟨r⟩).1 > 0) && (Lib.itoa (atoiE ⟨r⟩).1 == r)) = numB r := by
 by_cases hn : numB r = true
 ·rw [hn]
  simp only [numB, Bool.and_eq_true, Bool.not_eq_true', decide_eq_true_eq] at hn
  obtain ⟨⟨h1, h2⟩, h3⟩ := hn
  cases r with
  | nil => simp at h2
  | cons c r =>
   have h1' := h1
   simp only [List.all_cons, Bool.and_eq_true, digB_iff] at h1
   have hc : c ≠ 48 := by simpa using h3
   have hc' : c.toNat ≠ 48 := fun e => hc (UInt8.toNat_inj.1 (by rw [e]; rfl))
   have hv := valD_lt (c :: r) 0 h1'
   have hp : 10 ^ (c :: r).length <= 10 ^ 9 := Nat.pow_le_pow_right (by omega) hr
   have hpm := parse_val (c :: r) 0 h1' (by omega)
   have hat : Lib.atoiAll (c :: r) = .ok (valD 0 (c :: r) : Int) := by
    have e1 : ¬ (c.toNat = 43 ∨ c.toNat = 45) := by omega
    have e2 : ¬ c.toNat = 45 := by omega
    simp only [Lib.atoiAll, if_neg e1, Lib.parseMag, if_neg (show ¬ (c :: r = []) by simp), hpm]
    rw [if_neg (by omega), if_neg (fun e => e2 e.1), if_neg e2]
   have ha : atoiE ⟨c :: r⟩ = ((valD 0 (c :: r) : Int), ⟨false⟩) := by simp only [atoiE, hat]
   have hvd : valD 0 (c :: r) = valD (c.toNat - 48) r := by rw [valD_cons]; congr 1; omega
   have hpos := valD_ge r (c.toNat - 48)
   rw [ha]
   have h4 : Lib.itoa (valD 0 (c :: r) : Int) = c :: r := by
    rw [Lib.itoa, if_neg (by omega), Int.toNat_natCast, hvd, dig_val r _ (by omega) h1.2, Lib.decDigits, dif_pos (by omega)]
    have : UInt8.ofNat (48 + (c.toNat - 48)) = c := by
     rw [show 48 + (c.toNat - 48) = c.toNat by omega]
     exact UInt8.ofNat_toNat
    rw [this]; rfl
   simp only [nil_ok, h4, beq_self_eq_true, Bool.and_true, Bool.not_false, Bool.true_and]
   exact decide_eq_true (by omega)
 ·have hn : numB r = false := by simpa using hn
  rw [hn]
  by_cases h1 : decide ((atoiE ⟨r⟩).1 > 0) = true
  ·by_cases h2 : (Lib.itoa (atoiE ⟨r⟩).1 == r) = true
   ·exfalso
    have h1 : (atoiE ⟨r⟩).1 > 0 := by simpa using h1
    have h2 : Lib.itoa (atoiE ⟨r⟩).1 = r := by simpa using h2
    rw [Lib.itoa, if_neg (by omega)] at h2
    obtain ⟨d1, d2, d3⟩ := dec_digits (atoiE ⟨r⟩).1.toNat (by omega)
    rw [h2] at d1 d2 d3
    have : numB r = true := by simp only [numB, d1, decide_eq_true d2, Bool.true_and, Bool.and_true]; cases r <;> simp at d3 ⊢
    rw [this] at hn; cases hn
   ·simp [h2]
  ·simp [h1]
theorem nameB_us (r : List UInt8) : nameB ⟨95 :: r⟩ = (numB r && decide (r.length <= 9)) := by simp [nameB, numB]
end Go.Pl

namespace Go.Pl
open Go.RowKit
open Enc (enc dec is)
open EncL (encL decL isL)
theorem look_map (s : List UInt8) : ∀ m : List (Str × Int), look (.str s) (mapP m) = some ((m.find? fun p => p.1.s == s).map fun p => .int .i64 p.2)
 | [] => rfl
 | p :: m => by
  simp only [mapP, List.map_cons, look, pvEq, List.find?_cons]
  by_cases h : s = p.1.s
  ·subst h
   simp
  ·have h1 : (s == p.1.s) = false := by simpa using h
   have h2 : (p.1.s == s) = false := by simpa using fun e : p.1.s = s => h e.symm
   simp only [h1, h2]
   exact look_map s m
theorem lookOK_map (s : List UInt8) (m : List (Str × Int)) : lookOK (.str s) (mapP m) = true := by simp [lookOK, look_map]
theorem lookD_map (s : List UInt8) (m : List (Str × Int)) : lookD (.str s) (.int .i64 0) (mapP m) = .int .i64 (atM m s) := by
 simp only [lookD, look_map, atM]
 cases m.find? fun p => p.1.s == s <;> rfl
def updM (s : Str) (c : Int) : List (Str × Int) -> List (Str × Int)
 | [] => [(s, c)]
 | p :: m => if s.s = p.1.s then (s, c) :: m else p :: updM s c m
theorem upd_map (s : Str) (c : Int) : ∀ m : List (Str × Int), upd (.str s.s) (.int .i64 c) (mapP m) = some (mapP (updM s c m))
 | [] => rfl
 | p :: m => by
  have ih := upd_map s c m
  simp only [mapP] at ih
  simp only [mapP, List.map_cons, upd, pvEq, updM]
  by_cases h : s.s = p.1.s
  ·simp [h]
  ·have h1 : (s.s == p.1.s) = false := by simpa using h
   simp [h1, h, ih]
def addT (k : Int) : List Coef -> List (Str × Int) -> List (Str × Int)
 | [], m => m
 | t :: l, m => addT k l (updM t.v (IntKind.i64.wrap (atM m t.v.s + IntKind.i64.wrap (k * t.c))) m)
def keysM (m : List (Str × Int)) : List (List UInt8) := m.map (·.1.s)
theorem upd_keys (s : Str) (c : Int) : ∀ m : List (Str × Int), (keysM (updM s c m) = keysM m) ∨ (s.s ∉ keysM m ∧ keysM (updM s c m) = keysM m ++ [s.s])
 | [] => .inr ⟨by simp [keysM], rfl⟩
 | p :: m => by
  rw [updM]
  split
  ·rename_i h
   exact .inl (by simp [keysM, h])
  ·rename_i h
   rcases upd_keys s c m with e | ⟨e1, e2⟩
   ·exact .inl (by simp only [keysM, List.map_cons] at e ⊢; rw [e])
   ·refine .inr ⟨?_, ?_⟩
    ·simp only [keysM, List.map_cons, List.mem_cons, not_or] at e1 ⊢
     exact ⟨h, e1⟩
    ·simp only [keysM, List.map_cons] at e2 ⊢
     rw [e2]; rfl
theorem upd_nodup {s : Str} {c : Int} {m : List (Str × Int)} (h : (keysM m).Nodup) : (keysM (updM s c m)).Nodup := by
 rcases upd_keys s c m with e | ⟨e1, e2⟩
 ·rw [e]; exact h
 ·rw [e2, List.nodup_append]
  exact ⟨h, by simp, fun a ha b hb e => by simp at hb; subst hb; subst e; exact e1 ha⟩
theorem addT_nodup (k : Int) : ∀ (l : List Coef) (m : List (Str × Int)), (keysM m).Nodup -> (keysM (addT k l m)).Nodup
 | [], m, h => h
 | t :: l, m, h => addT_nodup k l _ (upd_nodup h)
theorem mapP_keys {m : List (Str × Int)} (h : (keysM m).Nodup) : ((mapP m).map (·.1)).Nodup := by
 have e : (mapP m).map (·.1) = (keysM m).map PV.str := by simp [mapP, keysM]
 rw [e, List.nodup_iff_pairwise_ne] at *
 exact List.Pairwise.map _ (fun a b hab e => hab (by cases e; rfl)) h
theorem upd_len (s : Str) (c : Int) (m : List (Str × Int)) : (updM s c m).length <= m.length + 1 := by
 have h : (updM s c m).length = (keysM (updM s c m)).length := by simp [keysM]
 have h2 : m.length = (keysM m).length := by simp [keysM]
 rcases upd_keys s c m with e | ⟨_, e⟩
 ·rw [h, e, <- h2]; omega
 ·rw [h, e]; simp; omega
theorem addT_len (k : Int) : ∀ (l : List Coef) (m : List (Str × Int)), (addT k l m).length <= m.length + l.length
 | [], m => Nat.le_refl _
 | t :: l, m => by
  have h1 := addT_len k l (updM t.v (IntKind.i64.wrap (atM m t.v.s + IntKind.i64.wrap (k * t.c))) m)
  have h2 := upd_len t.v (IntKind.i64.wrap (atM m t.v.s + IntKind.i64.wrap (k * t.c))) m
  rw [addT, List.length_cons]; omega
def nzM (m : List (Str × Int)) : List (Str × Int) := m.filter fun p => decide (p.2 ≠ 0)
theorem nzM_map (m : List (Str × Int)) : (mapP m).filter (fun kv => !zeroP kv) = mapP (nzM m) := by
 unfold mapP nzM
 rw [List.filter_map]
 congr 1
 apply List.filter_congr
 intro p _
 show (!(p.2 == 0)) = decide (p.2 ≠ 0)
 by_cases h : p.2 = 0 <;> simp [h]
def factsSm (l : List Fact) : Bool := decide (l.length <= 9223372036854775807) && l.all fun f => linSm f.l
def valid7 (l : List Fact) : Bool := l.all fun f => validL f.l
def okQ (q : Int × Fact) : Bool := !decide (q.1 < -1000000000) && !decide (q.1 > 1000000000) && (!decide (q.1 < 0) || q.2.eq)
def cstep (s : Int × List (Str × Int)) (q : Int × Fact) : Int × List (Str × Int) := (w64 (s.1 + w64 (q.1 * q.2.l.k)), addT q.1 q.2.l.t s.2)
def cfold (fs : List Fact) (ms : List Int) : Int × List (Str × Int) := (ms.zip fs).foldl cstep (0, [])
def okC (fs : List Fact) (ms : List Int) : Bool := decide (ms.length = fs.length) && (ms.zip fs).all okQ
def combF (a b : PV) : Int × List (Str × Int) := cfold (dec a) (dec b)
def combN : AV × List AObj × List AObj := (.tup [.pv (.int .i64 0), .pv .nilmap, .pv (.bool false)], [], [])
def combY (s : Int × List (Str × Int)) : AV × List AObj × List AObj := (.tup [.pv (.int .i64 s.1), .map 0, .pv (.bool true)], [], [.map (mapP (nzM s.2))])
def pre_combF (ok : Bool) (a b : PV) : Bool := can (List Fact) a && can (List Int) b && decide ((dec a : List Fact).length <= 9223372036854775807) && (dec a : List Fact).all (fun f => linOk f.l) && (okC (dec a) (dec b) == ok)
def pre_combY : List AV -> List AObj -> Bool
 | [.pv a, .pv b], [] => pre_combF true a b
 | _, _ => false
def val_combY : List AV -> List AObj -> AV × List AObj × List AObj
 | [.pv a, .pv b], _ => combY (combF a b)
 | _, _ => combN
def pre_combN : List AV -> List AObj -> Bool
 | [.pv a, .pv b], [] => pre_combF false a b
 | _, _ => false
def val_combN : List AV -> List AObj -> AV × List AObj × List AObj := fun _ _ => combN
def valsM (m : List (Str × Int)) : List Int := m.map (·.2)
def namesS (m : List (Str × Int)) : List (List UInt8) := sortS (keysM m)
def cutT (m : List (Str × Int)) (g : Int) (xs : List (List UInt8)) : List Coef := xs.map fun v => ⟨⟨v⟩, w64 ((atM m v).tdiv g)⟩
def cutM (n : Int) (m : List (Str × Int)) : Lin × Int :=
 if m = [] then (⟨0, []⟩, 18) else
  if validL ⟨(divI n (gcdsI (valsM m))).1, cutT m (gcdsI (valsM m)) (namesS m)⟩ then (⟨(divI n (gcdsI (valsM m))).1, cutT m (gcdsI (valsM m)) (namesS m)⟩, 0) else (⟨0, []⟩, 3)
def cutL (fs : List Fact) (ms : List Int) : Lin × Int :=
 if valid7 fs then (if okC fs ms then cutM (cfold fs ms).1 (nzM (cfold fs ms).2) else (⟨0, []⟩, 18)) else (⟨0, []⟩, 1)
theorem gcds_perm {a b : List Int} (h : a.Perm b) : gcdsI a = gcdsI b := by
 unfold gcdsI
 refine h.foldl_eq' (fun x _ y _ z => ?_) 0
 show ((Int.gcd (Int.gcd z x : Int) y : Nat) : Int) = ((Int.gcd (Int.gcd z y : Int) x : Nat) : Int)
 rw [Int.gcd_assoc, Int.gcd_comm x y, <- Int.gcd_assoc]
theorem gcds_ne {l : List Int} (h : ∃ x ∈ l, x ≠ 0) : gcdsI l ≠ 0 := by
 have key : ∀ (l : List Int) (g : Int), (l.foldl (fun g n => (Int.gcd g n : Int)) g = 0) -> g = 0 ∧ ∀ x ∈ l, x = 0 := by
  intro l
  induction l with
  | nil => intro g h; exact ⟨h, fun x hx => by simp at hx⟩
  | cons y l ih =>
   intro g h
   rw [List.foldl_cons] at h
   obtain ⟨h1, h2⟩ := ih _ h
   have h1 : Int.gcd g y = 0 := by omega
   rw [Int.gcd_eq_zero_iff] at h1
   refine ⟨h1.1, fun x hx => ?_⟩
   rcases List.mem_cons.1 hx with rfl | hx
   ·exact h1.2
   ·exact h2 x hx
 intro h0
 obtain ⟨x, hx, hne⟩ := h
 exact hne ((key l 0 h0).2 x hx)
theorem sortS_perm' {a b : List (List UInt8)} (h : a.Perm b) : sortS a = sortS b := by
 have tr : ∀ x y z : List UInt8, decide (x <= y) = true -> decide (y <= z) = true -> decide (x <= z) = true := fun x y z h k => by simp only [decide_eq_true_eq] at *; exact List.le_trans h k
 have to : ∀ x y : List UInt8, (decide (x <= y) || decide (y <= x)) = true := fun x y => by simp only [Bool.or_eq_true, decide_eq_true_eq]; exact List.le_total x y
 refine List.Perm.eq_of_pairwise (le := fun x y => decide (x <= y) = true) (fun x y _ _ h1 h2 => ?_) (List.pairwise_mergeSort tr to a) (List.pairwise_mergeSort tr to b) (((List.mergeSort_perm a _).trans h).trans (List.mergeSort_perm b _).symm)
 simp only [decide_eq_true_eq] at h1 h2
 exact List.le_antisymm h1 h2
structure FnV (n : Nat) where
 u : Unit := ()
instance (n : Nat) : Enc (FnV n) where
  sz := 1
  enc _ := .fn n
  dec _ := {}
  is | .fn m => m == n | _ => false
  is_enc _ := by simp
  dec_enc _ := rfl
  sub p h := by
    cases p with
    | fn m => have : m = n := by simpa using h
              subst this; exact .refl _
    | _ => cases h
def ixFind {α : Type} (p : α -> Bool) (l : List α) : Int := match l.findIdx? p with | some i => i | none => -1
theorem ixFind_nonneg {α : Type} (p : α -> Bool) (l : List α) : decide (ixFind p l ≥ 0) = l.any p := by
 unfold ixFind
 cases h : l.findIdx? p with
 | none =>
  rw [List.findIdx?_eq_none_iff] at h
  have : l.any p = false := by rw [List.any_eq_false]; intro x hx; simp [h x hx]
  rw [this]; rfl
 | some i =>
  have : l.any p = true := by
   rw [List.findIdx?_eq_some_iff_getElem] at h
   obtain ⟨hi, hp, _⟩ := h
   rw [List.any_eq_true]
   exact ⟨_, List.getElem_mem hi, hp⟩
  rw [this]
  exact decide_eq_true (by show (i : Int) ≥ 0; omega)
theorem ix_step {α : Type} (p : α -> Bool) (l : List α) (i : Nat) (hlt : i < l.length) (hno : ∀ j (h : j < l.length), j < i -> p l[j] = false) (hp : p l[i] = true) : ixFind p l = i := by
 unfold ixFind
 have : l.findIdx? p = some i := by
  rw [List.findIdx?_eq_some_iff_getElem]
  exact ⟨hlt, hp, fun j hj => by simp [hno j (by omega) hj]⟩
 rw [this]
theorem ix_none {α : Type} (p : α -> Bool) (l : List α) (hno : ∀ j (h : j < l.length), p l[j] = false) : ixFind p l = -1 := by
 unfold ixFind
 have : l.findIdx? p = none := by
  rw [List.findIdx?_eq_none_iff]
  intro x hx
  obtain ⟨j, hj, rfl⟩ := List.getElem_of_mem hx
  exact hno j hj
 rw [this]
end Go.Pl

namespace Go.Pl
open Go.RowKit
open Enc (enc dec is)
open EncL (encL decL isL)
set_option maxRecDepth 100000
def ic_ladd : IC := (.seq (.reg [⟨(some 4), (.box 2 (.t 1)), 0, none⟩] none) (.seq (.reg [⟨(some 8), (.mv (.t 0)), 0, none⟩, ⟨(some 9), (.nilchk (.t 8)), 0, none⟩, ⟨(some 10), (.faddr 0 (.t 9)), 0, none⟩, ⟨(some 11), (.load false [(.int .i64)] (.t 10)), 0, none⟩, ⟨(some 12), (.mv (.t 2)), 0, none⟩, ⟨(some 13), (.faddr 0 (.t 4)), 0, none⟩, ⟨(some 14), (.load false [(.int .i64)] (.t 13)), 0, none⟩, ⟨(some 15), (.bin .num .mul (.t 12) (.t 14)), 0, none⟩, ⟨(some 16), (.bin .num .add (.t 11) (.t 15)), 0, none⟩, ⟨(some 17), (.nilchk (.t 8)), 0, none⟩, ⟨(some 18), (.faddr 0 (.t 17)), 0, none⟩, ⟨none, (.store 1 (.t 18) (.t 16)), 0, none⟩] (some [[], [0], [1, 0], [2, 1, 0], [], [], [5], [4, 6, 5], [3, 7, 2, 1, 0, 4, 6, 5], [0, 1, 2, 3, 4, 5, 6, 7, 8], [9, 0, 1, 2, 3, 4, 5, 6, 7, 8], [10, 8, 0, 1, 2, 3, 4, 5, 6, 7, 9]])) (.seq (.reg [⟨(some 19), (.faddr 1 (.t 4)), 0, none⟩, ⟨(some 20), (.load false [(.sl 2)] (.t 19)), 0, none⟩, ⟨(some 21), (.len 1 (.t 20)), 0, none⟩, ⟨(some 22), (.mv (.c (.int .i64 0))), 0, none⟩] none) (.block 0 (.loop [22, 21, 20, 0, 2] (.seq (.reg [⟨(some 23), (.bin .num .lss (.t 22) (.t 21)), 0, none⟩] none) (.seq (.cond (.t 23) .skip (.exit 0)) (.seq (.block 1 (.seq (.reg [⟨(some 24), (.iaddr 2 (.t 20) (.t 22)), 0, none⟩, ⟨(some 25), (.load true [.str, (.int .i64)] (.t 24)), 0, none⟩, ⟨(some 7), (.alloc (.agg [(.str []), (.int .i64 0)])), 0, none⟩, ⟨none, (.store 2 (.t 7) (.t 25)), 1, none⟩] none) (.reg [⟨(some 26), (.mv (.t 0)), 0, none⟩, ⟨(some 27), (.nilchk (.t 26)), 0, none⟩, ⟨(some 28), (.faddr 1 (.t 27)), 0, none⟩, ⟨(some 29), (.load false [.any] (.t 28)), 0, none⟩, ⟨(some 30), (.faddr 0 (.t 7)), 0, none⟩, ⟨(some 31), (.load false [.str] (.t 30)), 0, none⟩, ⟨(some 32), (.lookup true (.int .i64) (.int .i64 0) false (.t 29) (.t 31)), 0, none⟩, ⟨(some 33), (.mv (.t 2)), 0, none⟩, ⟨(some 34), (.faddr 1 (.t 7)), 0, none⟩, ⟨(some 35), (.load false [(.int .i64)] (.t 34)), 0, none⟩, ⟨(some 36), (.bin .num .mul (.t 33) (.t 35)), 0, none⟩, ⟨(some 37), (.bin .num .add (.t 32) (.t 36)), 0, none⟩, ⟨none, (.mapupd true (.t 29) (.t 31) (.t 37)), 0, none⟩] (some [[], [0], [1, 0], [2, 1, 0], [], [4], [3, 5, 2, 1, 0, 4], [], [], [8], [7, 9, 8], [6, 10, 3, 5, 2, 1, 0, 4, 7, 9, 8], [3, 5, 11, 0, 1, 2, 4, 6, 7, 8, 9, 10]])))) (.reg [⟨(some 38), (.bin .num .add (.t 22) (.c (.int .i64 1))), 0, none⟩, ⟨(some 22), (.mv (.t 38)), 0, none⟩] none)))))))))
def rs_ladd : List IRes := []
abbrev nt_ladd : Nat := 39
def T_ladd : Tab := tab []
theorem ladd_s {G : AV × List AObj × List AObj -> Prop} (n : Int) (m : List (Str × Int)) (l : Lin) (k : Int) (h : At T_ladd 2 (endO' 2 rs_ladd G) ic_ladd 0 39 [(0, (.ptr 0 0)), (2, (.pv (.int .i64 k))), (20, (.pv (.sl 2 false (List.map enc l.t)))), (21, (.pv (.int .i64 (↑(List.length (List.map enc l.t)) : Int)))), (22, (.pv (.int .i64 0)))] [(.obj (.box [(.pv (.int .i64 (IntKind.wrap IntKind.i64 (n + IntKind.wrap IntKind.i64 (k * l.k))))), (.map 1)])), (.obj (.map (mapP m)))]) : Gets T_ladd 2 (endO' 2 rs_ladd G) ic_ladd [] (st0O 39 [.ptr 0 0, .pv (enc l), .pv (.int .i64 k)] [.box [.pv (.int .i64 n), .map 1], .map (mapP m)]) := Gets.to (.lit (.lit (.nil))) h (by kernel_rfl)
theorem ladd_h0 {G : AV × List AObj × List AObj -> Prop} (n : Int) (m : List (Str × Int)) (l : Lin) (k : Int) (i : Int) (h : if (decide (i < (↑(List.length l.t) : Int))) = true then (decide (0 <= i) && decide (Int.toNat i < List.length (List.map enc l.t)) && Enc.sz Coef == 2) = true ∧ (∃ y0 : Coef, AV.pv (PV.rptr (PV.cells (List.getD (List.map enc l.t) (Int.toNat i) default))) = AV.pv (PV.rptr (PV.cells ((enc) y0))) ∧ ((lookOK (Sh.co Sh.str (List.getD (PV.cells (enc y0)) 0 default)) (mapP m) && Sh.fit (Sh.int .i64) (lookD (Sh.co Sh.str (List.getD (PV.cells (enc y0)) 0 default)) (PV.int .i64 0) (mapP m))) = true ∧ ((updOK (Sh.co Sh.str (List.getD (PV.cells (enc y0)) 0 default)) (PV.int .i64 (IntKind.wrap IntKind.i64 (PV.asInt (lookD (Sh.co Sh.str (List.getD (PV.cells (enc y0)) 0 default)) (PV.int .i64 0) (mapP m)) + IntKind.wrap IntKind.i64 (k * PV.asInt (List.getD (PV.cells (enc y0)) (0 + 1) default))))) (mapP m)) = true ∧ (At T_ladd 2 (endO' 2 rs_ladd G) ic_ladd 0 39 [(0, (.ptr 0 0)), (2, (.pv (.int .i64 k))), (20, (.pv (.sl 2 false (List.map enc l.t)))), (21, (.pv (.int .i64 (↑(List.length l.t) : Int)))), (22, (.pv (.int .i64 (IntKind.wrap IntKind.i64 (i + 1)))))] [(.obj (.box [(.pv (.int .i64 n)), (.map 1)])), (.obj (.map (updL (Sh.co Sh.str (List.getD (PV.cells (enc y0)) 0 default)) (PV.int .i64 (IntKind.wrap IntKind.i64 (PV.asInt (lookD (Sh.co Sh.str (List.getD (PV.cells (enc y0)) 0 default)) (PV.int .i64 0) (mapP m)) + IntKind.wrap IntKind.i64 (k * PV.asInt (List.getD (PV.cells (enc y0)) (0 + 1) default))))) (mapP m))))])))) else (G (((.tup []), ([(.box [(.pv (.int .i64 n)), (.map 1)]), (.map (mapP m))], []))))) : At T_ladd 2 (endO' 2 rs_ladd G) ic_ladd 0 39 [(0, .ptr 0 0), (2, .pv (.int .i64 k)), (20, .pv (enc l.t)), (21, .pv (.int .i64 l.t.length)), (22, .pv (.int .i64 i))] [.obj (.box [.pv (.int .i64 n), .map 1]), .obj (.map (mapP m))] := At.to (.lit (.ask (.req (.abs (Coef) (fun YY => AV.pv (PV.rptr (PV.cells ((enc) YY)))) (.lit (.req (.keep (.lit (.lit (.req (.lit (.nil)))))))))) (.nil))) h (by kernel_rfl)
end Go.Pl

namespace Go.Pl
open Go.RowKit
open Enc (enc dec is)
open EncL (encL decL isL)
set_option maxRecDepth 100000
def ic_resra : IC := (.seq (.reg [⟨(some 25), (.mv (.t 7)), 0, none⟩, ⟨(some 26), (.bin .num .neq (.t 25) (.c (.int .i64 0))), 0, none⟩] none) (.cond (.t 26) (.reg [⟨(some 27), (.mv (.t 5)), 0, none⟩, ⟨(some 28), (.mv (.t 6)), 0, none⟩, ⟨(some 29), (.bslice 9 1 1 (.str []) [(0, (.t 28))]), 0, none⟩, ⟨(some 30), (.append 9 1 16 (.t 27) (.t 29)), 1, none⟩, ⟨(some 5), (.mv (.t 30)), 2, none⟩] none) .skip))
def rs_resra : List IRes := []
def T_resra : Tab := tab [(71, .own pre_sorts val_sorts), (67, .pure (preT (fun x : Lin × Unit => linSm x.1)) (valT (fun x : Lin × Unit => validL x.1)))]
theorem resra_r0 {G : AV × List AObj × List AObj -> Prop} (E : ExtE) (n : Int) (s : List UInt8) (c : Int)  (h : if (c != 0) = true then E 99 ⟨envJ 58 0 [(0, (.ptr 0 0)), (2, (.ptr 2 0)), (4, (.ptr 3 0)), (5, (.row 5 1 0 1)), (18, (.map 1)), (19, (.ptr 4 0))], [(.obj (.box [(.pv (.int .i64 n)), (.map 1)])), .dead, (.obj (.box [(.pv (.int .i64 0)), (.pv (.sl 0 true []))])), (.obj (.box [(.pv (.int .i64 n)), (.pv (.sl 0 true []))])), .dead, (.obj (.row false 9 1 [(.str s)]))]⟩ (fun x S' => AfX T_resra E 5 (endO' 5 rs_resra G) ic_resra 99 x S') else (E 99 ⟨envJ 58 0 [(0, (.ptr 0 0)), (2, (.ptr 2 0)), (4, (.ptr 3 0)), (5, (.pv (.sl 0 true []))), (18, (.map 1)), (19, (.ptr 4 0))], [(.obj (.box [(.pv (.int .i64 n)), (.map 1)])), .dead, (.obj (.box [(.pv (.int .i64 0)), (.pv (.sl 0 true []))])), (.obj (.box [(.pv (.int .i64 n)), (.pv (.sl 0 true []))])), .dead]⟩ (fun x S' => AfX T_resra E 5 (endO' 5 rs_resra G) ic_resra 99 x S'))) : GetsX T_resra E 5 (endO' 5 rs_resra G) (.inl ic_resra) [.blk 1, .seq (.ext 99 [0, 2, 4, 5, 18, 19])] ⟨envJ 58 0 [(0, .ptr 0 0), (2, .ptr 2 0), (4, .ptr 3 0), (5, .pv (.sl 0 true [])), (6, .pv (.str s)), (7, .pv (.int .i64 c)), (18, .map 1), (19, .ptr 4 0), (22, .pv (.tup [.str s, .int .i64 c])), (23, .pv (.str s)), (24, .pv (.int .i64 c))], [.obj (.box [.pv (.int .i64 n), .map 1]), .dead, .obj (.box [.pv (.int .i64 0), .pv (.sl 0 true [])]), .obj (.box [.pv (.int .i64 n), .pv (.sl 0 true [])]), .dead]⟩ := GetsX.mo (.lit (.ask (.lit (.lit (.lit (.lit (.lit (.nil)))))) (.nil))) h (by kernel_rfl)
theorem resrb_r0 {G : AV × List AObj × List AObj -> Prop} (E : ExtE) (n : Int) (s : List UInt8) (c : Int) (l : Nat) (xs : List (List UInt8))  (h : if (c != 0) = true then (List.length (List.map PV.str xs) == l && l == l && decide ((l + List.length (List.drop 0 (List.take 1 [PV.str s]))) * 16 <= 1099511627776) && decide (l + List.length (List.drop 0 (List.take 1 [PV.str s])) <= 1099511627776)) = true ∧ (E 99 ⟨envJ 58 0 [(0, (.ptr 0 0)), (2, (.ptr 2 0)), (4, (.ptr 3 0)), (5, (.row 5 (l + List.length (List.drop 0 (List.take 1 [PV.str s]))) 0 (l + List.length (List.drop 0 (List.take 1 [PV.str s]))))), (18, (.map 1)), (19, (.ptr 4 0))], [(.obj (.box [(.pv (.int .i64 n)), (.map 1)])), .dead, (.obj (.box [(.pv (.int .i64 0)), (.pv (.sl 0 true []))])), (.obj (.box [(.pv (.int .i64 n)), (.pv (.sl 0 true []))])), .dead, (.obj (.row false 9 1 (List.map PV.str xs ++ List.drop 0 (List.take 1 [PV.str s]))))]⟩ (fun x S' => AfX T_resra E 6 (endO' 6 rs_resra G) ic_resra 99 x S')) else (E 99 ⟨envJ 58 0 [(0, (.ptr 0 0)), (2, (.ptr 2 0)), (4, (.ptr 3 0)), (5, (.row 5 l 0 l)), (18, (.map 1)), (19, (.ptr 4 0))], [(.obj (.box [(.pv (.int .i64 n)), (.map 1)])), .dead, (.obj (.box [(.pv (.int .i64 0)), (.pv (.sl 0 true []))])), (.obj (.box [(.pv (.int .i64 n)), (.pv (.sl 0 true []))])), .dead, (.obj (.row false 9 1 (List.map PV.str xs)))]⟩ (fun x S' => AfX T_resra E 6 (endO' 6 rs_resra G) ic_resra 99 x S'))) : GetsX T_resra E 6 (endO' 6 rs_resra G) (.inl ic_resra) [.blk 1, .seq (.ext 99 [0, 2, 4, 5, 18, 19])] ⟨envJ 58 0 [(0, .ptr 0 0), (2, .ptr 2 0), (4, .ptr 3 0), (5, .row 5 l 0 l), (6, .pv (.str s)), (7, .pv (.int .i64 c)), (18, .map 1), (19, .ptr 4 0), (22, .pv (.tup [.str s, .int .i64 c])), (23, .pv (.str s)), (24, .pv (.int .i64 c))], [.obj (.box [.pv (.int .i64 n), .map 1]), .dead, .obj (.box [.pv (.int .i64 0), .pv (.sl 0 true [])]), .obj (.box [.pv (.int .i64 n), .pv (.sl 0 true [])]), .dead, .obj (.row false 9 1 (xs.map .str))]⟩ := GetsX.mo (.lit (.ask (.lit (.lit (.req (.nil)))) (.nil))) h (by kernel_rfl)
def ic_resx : IC := (.seq (.reg [⟨(some 2), (.alloc (.agg [(.int .i64 0), (.sl 0 true [])])), 0, none⟩, ⟨(some 3), (.mv (.c (.int .i64 0))), 1, none⟩] none) (.seq (.reg [⟨(some 10), (.mv (.t 0)), 0, none⟩, ⟨(some 11), (.nilchk (.t 10)), 0, none⟩, ⟨(some 12), (.faddr 0 (.t 11)), 0, none⟩, ⟨(some 13), (.load false [(.int .i64)] (.t 12)), 0, none⟩, ⟨(some 14), (.build [(.int .i64 0), (.sl 0 true [])] [(0, (1, (.t 13)))]), 0, none⟩, ⟨(some 4), (.alloc (.agg [(.int .i64 0), (.sl 0 true [])])), 0, none⟩, ⟨none, (.store 2 (.t 4) (.t 14)), 1, none⟩] none) (.seq (.reg [⟨(some 5), (.mv (.c (.sl 0 true []))), 0, none⟩] none) (.seq (.ext 0 [0, 15, 16, 17, 18, 19, 20, 21, 22, 23, 24, 7, 25, 26, 5, 6, 28, 27, 29, 30, 4, 2]) (.seq (.reg [⟨(some 31), (.mv (.t 5)), 0, none⟩, ⟨(some 32), (.call (.c (.fn 71)) [(.t 31)]), 0, none⟩] none) (.seq (.seq (.reg [⟨(some 33), (.mv (.t 5)), 0, none⟩, ⟨(some 34), (.len 1 (.t 33)), 0, none⟩, ⟨(some 35), (.mv (.c (.int .i64 0))), 0, none⟩] none) (.block 2 (.loop [35, 34, 33, 4, 0, 2] (.seq (.reg [⟨(some 36), (.bin .num .lss (.t 35) (.t 34)), 0, none⟩] none) (.seq (.cond (.t 36) .skip (.exit 2)) (.seq (.block 3 (.seq (.reg [⟨(some 37), (.iaddr 1 (.t 33) (.t 35)), 0, none⟩, ⟨(some 38), (.load false [.str] (.t 37)), 0, none⟩, ⟨(some 9), (.mv (.t 38)), 0, none⟩] none) (.reg [⟨(some 39), (.faddr 1 (.t 4)), 0, none⟩, ⟨(some 40), (.load false [(.sl 2)] (.t 39)), 0, none⟩, ⟨(some 41), (.mv (.t 9)), 0, none⟩, ⟨(some 42), (.mv (.t 0)), 0, none⟩, ⟨(some 43), (.nilchk (.t 42)), 0, none⟩, ⟨(some 44), (.faddr 1 (.t 43)), 0, none⟩, ⟨(some 45), (.load false [.any] (.t 44)), 0, none⟩, ⟨(some 46), (.mv (.t 9)), 0, none⟩, ⟨(some 47), (.lookup true (.int .i64) (.int .i64 0) false (.t 45) (.t 46)), 0, none⟩, ⟨(some 48), (.build [(.str []), (.int .i64 0)] [(0, (1, (.t 41))), (1, (1, (.t 47)))]), 0, none⟩, ⟨(some 49), (.bslice 87 2 1 (.agg [(.str []), (.int .i64 0)]) [(0, (.t 48))]), 0, none⟩, ⟨(some 50), (.append 87 2 24 (.t 40) (.t 49)), 1, none⟩, ⟨(some 51), (.faddr 1 (.t 4)), 2, none⟩, ⟨none, (.store 1 (.t 51) (.t 50)), 2, none⟩] (some [[], [0], [], [], [3], [4, 3], [5, 4, 3], [], [6, 7, 5, 4, 3], [2, 8, 6, 7, 5, 4, 3], [9, 2, 8, 6, 7, 5, 4, 3], [1, 10, 0, 9, 2, 8, 6, 7, 5, 4, 3], [0, 1, 2, 3, 4, 5, 6, 7, 8, 9, 10, 11], [12, 11, 0, 1, 2, 3, 4, 5, 6, 7, 8, 9, 10]])))) (.reg [⟨(some 52), (.bin .num .add (.t 35) (.c (.int .i64 1))), 0, none⟩, ⟨(some 35), (.mv (.t 52)), 0, none⟩] none))))))) (.seq (.seq (.reg [⟨(some 53), (.load true [(.int .i64), (.sl 2)] (.t 4)), 0, none⟩, ⟨(some 54), (.call (.c (.fn 67)) [(.t 53)]), 0, none⟩, ⟨(some 55), (.un .not (.t 54)), 2, none⟩] none) (.cond (.t 55) (.seq (.reg [⟨(some 56), (.build [(.int .i64 0), (.sl 0 true [])] []), 0, none⟩, ⟨none, (.store 2 (.t 2) (.t 56)), 0, none⟩, ⟨(some 3), (.mv (.c (.int .i64 3))), 0, none⟩] none) .ret) .skip)) (.seq (.reg [⟨(some 57), (.load true [(.int .i64), (.sl 2)] (.t 4)), 0, none⟩, ⟨none, (.store 2 (.t 2) (.t 57)), 0, none⟩, ⟨(some 3), (.mv (.c (.int .i64 0))), 0, none⟩] none) .ret))))))))
def rs_resx : List IRes := [(.cell true 2 2), (.tmp 3)]
abbrev nt_resx : Nat := 58
def T_resx : Tab := tab [(71, .own pre_sorts val_sorts), (67, .pure (preT (fun x : Lin × Unit => linSm x.1)) (valT (fun x : Lin × Unit => validL x.1)))]
theorem resx_s {G : AV × List AObj × List AObj -> Prop} (E : ExtE) (n : Int) (m : List (Str × Int)) (h : E 0 ⟨envJ 58 0 [(0, (.ptr 0 0)), (2, (.ptr 2 0)), (4, (.ptr 3 0)), (5, (.pv (.sl 0 true []))), (6, .undef), (7, .undef), (15, .undef), (16, .undef), (17, .undef), (18, .undef), (19, .undef), (20, .undef), (21, .undef), (22, .undef), (23, .undef), (24, .undef), (25, .undef), (26, .undef), (27, .undef), (28, .undef), (29, .undef), (30, .undef)], [(.obj (.box [(.pv (.int .i64 n)), (.map 1)])), (.obj (.map (mapP m))), (.obj (.box [(.pv (.int .i64 0)), (.pv (.sl 0 true []))])), (.obj (.box [(.pv (.int .i64 n)), (.pv (.sl 0 true []))]))]⟩ (fun x S' => AfX T_resx E 2 (endO' 2 rs_resx G) ic_resx 0 x S')) : GetsX T_resx E 2 (endO' 2 rs_resx G) (.inl ic_resx) [] (st0O 58 [.ptr 0 0] [.box [.pv (.int .i64 n), .map 1], .map (mapP m)]) := GetsX.mo (.nil) h (by kernel_rfl)
-- IMPOSSIBLE
theorem resx_h0n {G : AV × List AObj × List AObj -> Prop} (E : ExtE) (n : Int) (m : List (Str × Int)) (i : Int) (h : if (decide (i < 0)) = true then (decide (0 <= i) && decide (Int.toNat i < List.length ([] : List PV)) && 0 == 1) = true ∧ (False) else (∃ y0 : Bool, AV.pv (valT (fun (x : Lin × Unit) => validL x.1) [(.agg [(.int .i64 n), (.sl 0 true [])])]) = AV.pv (enc y0) ∧ (if (!y0) = true then G (((.tup [(.pv (.agg [(.int .i64 0), (.sl 0 true [])])), (.pv (.int .i64 3))]), ([(.box [(.pv (.int .i64 n)), (.map 1)]), (.map (mapP m))], []))) else (G (((.tup [(.pv (.agg [(.int .i64 n), (.sl 0 true [])])), (.pv (.int .i64 0))]), ([(.box [(.pv (.int .i64 n)), (.map 1)]), (.map (mapP m))], []))))))) : AtM T_resx E 2 (endO' 2 rs_resx G) ic_resx 0 58 [(0, .ptr 0 0), (2, .ptr 2 0), (4, .ptr 3 0), (33, .pv (.sl 0 true [])), (34, .pv (.int .i64 0)), (35, .pv (.int .i64 i))] [.obj (.box [.pv (.int .i64 n), .map 1]), .obj (.map (mapP m)), .obj (.box [.pv (.int .i64 0), .pv (.sl 0 true [])]), .obj (.box [.pv (.int .i64 n), .pv (.sl 0 true [])])] := GetsX.mo (.lit (.ask (.req (.keep (.lit (.nil)))) (.lit (.abs (Bool) (fun YY => AV.pv (enc YY)) (.ask (.nil) (.nil)))))) h (by kernel_rfl)
theorem resx_h0a {G : AV × List AObj × List AObj -> Prop} (E : ExtE) (n : Int) (m : List (Str × Int)) (l : Nat) (xs : List (List UInt8)) (i : Int) (h : if (decide (i < (↑l : Int))) = true then (decide (0 <= i) && decide (0 + Int.toNat i < l) && List.length (List.map PV.str xs) == l) = true ∧ ((List.length (List.map PV.str xs) == l && decide (0 + Int.toNat i < List.length (List.map PV.str xs))) = true ∧ ((decide (0 + List.length [Sh.str] <= List.length (PV.cells (List.getD (List.map PV.str xs) (0 + Int.toNat i) default))) && shFit (PV.cells (List.getD (List.map PV.str xs) (0 + Int.toNat i) default)) 0 [Sh.str]) = true ∧ ((lookOK (Sh.co Sh.str (List.getD (PV.cells (List.getD (List.map PV.str xs) (0 + Int.toNat i) default)) 0 default)) (mapP m) && Sh.fit (Sh.int .i64) (lookD (Sh.co Sh.str (List.getD (PV.cells (List.getD (List.map PV.str xs) (0 + Int.toNat i) default)) 0 default)) (PV.int .i64 0) (mapP m))) = true ∧ (AtM T_resx E 2 (endO' 2 rs_resx G) ic_resx 0 58 [(0, (.ptr 0 0)), (2, (.ptr 2 0)), (4, (.ptr 3 0)), (33, (.row 4 l 0 l)), (34, (.pv (.int .i64 (↑l : Int)))), (35, (.pv (.int .i64 (IntKind.wrap IntKind.i64 (i + 1)))))] [(.obj (.box [(.pv (.int .i64 n)), (.map 1)])), (.obj (.map (mapP m))), (.obj (.box [(.pv (.int .i64 0)), (.pv (.sl 0 true []))])), (.obj (.box [(.pv (.int .i64 n)), (.row 5 1 0 1)])), (.obj (.row false 9 1 (List.map PV.str xs))), (.obj (.row false 87 2 [(.agg [(.str (PV.asStr (List.getD (PV.cells (List.getD (List.map PV.str xs) (0 + Int.toNat i) default)) 0 default))), (.int .i64 (PV.asInt (lookD (Sh.co Sh.str (List.getD (PV.cells (List.getD (List.map PV.str xs) (0 + Int.toNat i) default)) 0 default)) (PV.int .i64 0) (mapP m))))])]))])))) else (∃ y0 : Bool, AV.pv (valT (fun (x : Lin × Unit) => validL x.1) [(.agg [(.int .i64 n), (.sl 0 true [])])]) = AV.pv (enc y0) ∧ (if (!y0) = true then G (((.tup [(.pv (.agg [(.int .i64 0), (.sl 0 true [])])), (.pv (.int .i64 3))]), ([(.box [(.pv (.int .i64 n)), (.map 1)]), (.map (mapP m))], []))) else (G (((.tup [(.pv (.agg [(.int .i64 n), (.sl 0 true [])])), (.pv (.int .i64 0))]), ([(.box [(.pv (.int .i64 n)), (.map 1)]), (.map (mapP m))], []))))))) : AtM T_resx E 2 (endO' 2 rs_resx G) ic_resx 0 58 [(0, .ptr 0 0), (2, .ptr 2 0), (4, .ptr 3 0), (33, .row 4 l 0 l), (34, .pv (.int .i64 l)), (35, .pv (.int .i64 i))] [.obj (.box [.pv (.int .i64 n), .map 1]), .obj (.map (mapP m)), .obj (.box [.pv (.int .i64 0), .pv (.sl 0 true [])]), .obj (.box [.pv (.int .i64 n), .pv (.sl 0 true [])]), .obj (.row false 9 1 (xs.map .str))] := GetsX.mo (.lit (.ask (.req (.keep (.req (.req (.req (.keep (.lit (.lit (.lit (.lit (.lit (.lit (.nil))))))))))))) (.lit (.abs (Bool) (fun YY => AV.pv (enc YY)) (.ask (.nil) (.nil)))))) h (by kernel_rfl)
theorem resx_h0b {G : AV × List AObj × List AObj -> Prop} (E : ExtE) (n : Int) (m : List (Str × Int)) (l : Nat) (xs : List (List UInt8)) (i : Int) (q : Nat) (ts : List Coef) (h : if (decide (i < (↑l : Int))) = true then (decide (0 <= i) && decide (0 + Int.toNat i < l) && List.length (List.map PV.str xs) == l) = true ∧ ((List.length (List.map PV.str xs) == l && decide (0 + Int.toNat i < List.length (List.map PV.str xs))) = true ∧ ((decide (0 + List.length [Sh.str] <= List.length (PV.cells (List.getD (List.map PV.str xs) (0 + Int.toNat i) default))) && shFit (PV.cells (List.getD (List.map PV.str xs) (0 + Int.toNat i) default)) 0 [Sh.str]) = true ∧ ((lookOK (Sh.co Sh.str (List.getD (PV.cells (List.getD (List.map PV.str xs) (0 + Int.toNat i) default)) 0 default)) (mapP m) && Sh.fit (Sh.int .i64) (lookD (Sh.co Sh.str (List.getD (PV.cells (List.getD (List.map PV.str xs) (0 + Int.toNat i) default)) 0 default)) (PV.int .i64 0) (mapP m))) = true ∧ ((List.length (List.map enc ts) == q && q == q && decide ((q + List.length (List.drop 0 (List.take 1 [PV.agg [Sh.co Sh.str (List.getD (PV.cells (List.getD (List.map PV.str xs) (0 + Int.toNat i) default)) 0 default), if false = true then PV.tup [Sh.co (Sh.int .i64) (lookD (Sh.co Sh.str (List.getD (PV.cells (List.getD (List.map PV.str xs) (0 + Int.toNat i) default)) 0 default)) (PV.int .i64 0) (mapP m)), PV.bool (lookHas (Sh.co Sh.str (List.getD (PV.cells (List.getD (List.map PV.str xs) (0 + Int.toNat i) default)) 0 default)) (mapP m))] else Sh.co (Sh.int .i64) (lookD (Sh.co Sh.str (List.getD (PV.cells (List.getD (List.map PV.str xs) (0 + Int.toNat i) default)) 0 default)) (PV.int .i64 0) (mapP m))]]))) * 24 <= 1099511627776) && decide (q + List.length (List.drop 0 (List.take 1 [PV.agg [Sh.co Sh.str (List.getD (PV.cells (List.getD (List.map PV.str xs) (0 + Int.toNat i) default)) 0 default), if false = true then PV.tup [Sh.co (Sh.int .i64) (lookD (Sh.co Sh.str (List.getD (PV.cells (List.getD (List.map PV.str xs) (0 + Int.toNat i) default)) 0 default)) (PV.int .i64 0) (mapP m)), PV.bool (lookHas (Sh.co Sh.str (List.getD (PV.cells (List.getD (List.map PV.str xs) (0 + Int.toNat i) default)) 0 default)) (mapP m))] else Sh.co (Sh.int .i64) (lookD (Sh.co Sh.str (List.getD (PV.cells (List.getD (List.map PV.str xs) (0 + Int.toNat i) default)) 0 default)) (PV.int .i64 0) (mapP m))]])) <= 1099511627776)) = true ∧ (AtM T_resx E 2 (endO' 2 rs_resx G) ic_resx 0 58 [(0, (.ptr 0 0)), (2, (.ptr 2 0)), (4, (.ptr 3 0)), (33, (.row 4 l 0 l)), (34, (.pv (.int .i64 (↑l : Int)))), (35, (.pv (.int .i64 (IntKind.wrap IntKind.i64 (i + 1)))))] [(.obj (.box [(.pv (.int .i64 n)), (.map 1)])), (.obj (.map (mapP m))), (.obj (.box [(.pv (.int .i64 0)), (.pv (.sl 0 true []))])), (.obj (.box [(.pv (.int .i64 n)), (.row 5 (q + List.length (List.drop 0 (List.take 1 [PV.agg [Sh.co Sh.str (List.getD (PV.cells (List.getD (List.map PV.str xs) (0 + Int.toNat i) default)) 0 default), if false = true then PV.tup [Sh.co (Sh.int .i64) (lookD (Sh.co Sh.str (List.getD (PV.cells (List.getD (List.map PV.str xs) (0 + Int.toNat i) default)) 0 default)) (PV.int .i64 0) (mapP m)), PV.bool (lookHas (Sh.co Sh.str (List.getD (PV.cells (List.getD (List.map PV.str xs) (0 + Int.toNat i) default)) 0 default)) (mapP m))] else Sh.co (Sh.int .i64) (lookD (Sh.co Sh.str (List.getD (PV.cells (List.getD (List.map PV.str xs) (0 + Int.toNat i) default)) 0 default)) (PV.int .i64 0) (mapP m))]]))) 0 (q + List.length (List.drop 0 (List.take 1 [PV.agg [Sh.co Sh.str (List.getD (PV.cells (List.getD (List.map PV.str xs) (0 + Int.toNat i) default)) 0 default), if false = true then PV.tup [Sh.co (Sh.int .i64) (lookD (Sh.co Sh.str (List.getD (PV.cells (List.getD (List.map PV.str xs) (0 + Int.toNat i) default)) 0 default)) (PV.int .i64 0) (mapP m)), PV.bool (lookHas (Sh.co Sh.str (List.getD (PV.cells (List.getD (List.map PV.str xs) (0 + Int.toNat i) default)) 0 default)) (mapP m))] else Sh.co (Sh.int .i64) (lookD (Sh.co Sh.str (List.getD (PV.cells (List.getD (List.map PV.str xs) (0 + Int.toNat i) default)) 0 default)) (PV.int .i64 0) (mapP m))]]))))])), (.obj (.row false 9 1 (List.map PV.str xs))), (.obj (.row false 87 2 (List.map enc ts ++ List.drop 0 (List.take 1 [PV.agg [Sh.co Sh.str (List.getD (PV.cells (List.getD (List.map PV.str xs) (0 + Int.toNat i) default)) 0 default), if false = true then PV.tup [Sh.co (Sh.int .i64) (lookD (Sh.co Sh.str (List.getD (PV.cells (List.getD (List.map PV.str xs) (0 + Int.toNat i) default)) 0 default)) (PV.int .i64 0) (mapP m)), PV.bool (lookHas (Sh.co Sh.str (List.getD (PV.cells (List.getD (List.map PV.str xs) (0 + Int.toNat i) default)) 0 default)) (mapP m))] else Sh.co (Sh.int .i64) (lookD (Sh.co Sh.str (List.getD (PV.cells (List.getD (List.map PV.str xs) (0 + Int.toNat i) default)) 0 default)) (PV.int .i64 0) (mapP m))]]))))]))))) else ((List.length (List.map enc ts) == q) = true ∧ ((Go.Pl.preT (fun (x : Lin × Unit) => linSm x.1) [(.agg [(.int .i64 n), (.sl 2 false (List.drop 0 (List.take q (List.map enc ts))))])]) = true ∧ (∃ y0 : Bool, AV.pv (valT (fun (x : Lin × Unit) => validL x.1) [(.agg [(.int .i64 n), (.sl 2 false (List.drop 0 (List.take q (List.map enc ts))))])]) = AV.pv (enc y0) ∧ (if (!y0) = true then G (((.tup [(.pv (.agg [(.int .i64 0), (.sl 0 true [])])), (.pv (.int .i64 3))]), ([(.box [(.pv (.int .i64 n)), (.map 1)]), (.map (mapP m))], []))) else (G (((.tup [(.agg [(.pv (.int .i64 n)), (.row 2 q 0 q)]), (.pv (.int .i64 0))]), ([(.box [(.pv (.int .i64 n)), (.map 1)]), (.map (mapP m))], [(.row true 87 2 (List.map enc ts))]))))))))) : AtM T_resx E 2 (endO' 2 rs_resx G) ic_resx 0 58 [(0, .ptr 0 0), (2, .ptr 2 0), (4, .ptr 3 0), (33, .row 4 l 0 l), (34, .pv (.int .i64 l)), (35, .pv (.int .i64 i))] [.obj (.box [.pv (.int .i64 n), .map 1]), .obj (.map (mapP m)), .obj (.box [.pv (.int .i64 0), .pv (.sl 0 true [])]), .obj (.box [.pv (.int .i64 n), .row 5 q 0 q]), .obj (.row false 9 1 (xs.map .str)), .obj (.row false 87 2 (ts.map enc))] := GetsX.mo (.lit (.ask (.req (.keep (.req (.req (.req (.keep (.lit (.lit (.req (.lit (.nil))))))))))) (.req (.req (.abs (Bool) (fun YY => AV.pv (enc YY)) (.ask (.nil) (.nil))))))) h (by kernel_rfl)
theorem resx_x0a {G : AV × List AObj × List AObj -> Prop} (E : ExtE) (n : Int) (m : List (Str × Int))  (h : AtM T_resx E 2 (endO' 2 rs_resx G) ic_resx 0 58 [(0, (.ptr 0 0)), (2, (.ptr 2 0)), (4, (.ptr 3 0)), (33, (.pv (.sl 0 true []))), (34, (.pv (.int .i64 0))), (35, (.pv (.int .i64 0)))] [(.obj (.box [(.pv (.int .i64 n)), (.map 1)])), (.obj (.map (mapP m))), (.obj (.box [(.pv (.int .i64 0)), (.pv (.sl 0 true []))])), (.obj (.box [(.pv (.int .i64 n)), (.pv (.sl 0 true []))]))]) : AfX T_resx E 2 (endO' 2 rs_resx G) ic_resx 0 .normal ⟨envJ 58 0 [(0, .ptr 0 0), (2, .ptr 2 0), (4, .ptr 3 0), (5, .pv (.sl 0 true [])), (18, .map 1), (19, .ptr 4 0)], [.obj (.box [.pv (.int .i64 n), .map 1]), .obj (.map (mapP m)), .obj (.box [.pv (.int .i64 0), .pv (.sl 0 true [])]), .obj (.box [.pv (.int .i64 n), .pv (.sl 0 true [])]), .dead]⟩ := GetsX.mo (.lit (.keep (.nil))) h (by kernel_rfl)
theorem resx_x0b {G : AV × List AObj × List AObj -> Prop} (E : ExtE) (n : Int) (m : List (Str × Int)) (l : Nat) (xs : List (List UInt8)) (h : (pre_sorts [(.row 0 l 0 l)] [(.row false 9 1 (List.map PV.str xs))]) = true ∧ (AtM T_resx E 2 (endO' 2 rs_resx G) ic_resx 0 58 [(0, (.ptr 0 0)), (2, (.ptr 2 0)), (4, (.ptr 3 0)), (33, (.row 4 l 0 l)), (34, (.pv (.int .i64 (↑(l - 0) : Int)))), (35, (.pv (.int .i64 0)))] [(.obj (.box [(.pv (.int .i64 n)), (.map 1)])), (.obj (.map (mapP m))), (.obj (.box [(.pv (.int .i64 0)), (.pv (.sl 0 true []))])), (.obj (.box [(.pv (.int .i64 n)), (.pv (.sl 0 true []))])), (.obj (.row false 9 1 (List.map PV.str (sortS (List.map strOf (List.map PV.str xs))))))])) : AfX T_resx E 2 (endO' 2 rs_resx G) ic_resx 0 .normal ⟨envJ 58 0 [(0, .ptr 0 0), (2, .ptr 2 0), (4, .ptr 3 0), (5, .row 5 l 0 l), (18, .map 1), (19, .ptr 4 0)], [.obj (.box [.pv (.int .i64 n), .map 1]), .obj (.map (mapP m)), .obj (.box [.pv (.int .i64 0), .pv (.sl 0 true [])]), .obj (.box [.pv (.int .i64 n), .pv (.sl 0 true [])]), .dead, .obj (.row false 9 1 (xs.map .str))]⟩ := GetsX.mo (.req (.keep (.nil))) h (by kernel_rfl)
end Go.Pl

namespace Go.Pl
open Go.RowKit
open Enc (enc dec is)
open EncL (encL decL isL)
def coefsM (m : List (Str × Int)) (xs : List (List UInt8)) : List Coef := xs.map fun s => ⟨⟨s⟩, atM m s⟩
def resW (n : Int) (m : List (Str × Int)) (l : List Coef) : AV × List AObj × List AObj :=
 if validL ⟨n, l⟩ then
  if l.isEmpty then (.tup [.pv (.agg [.int .i64 n, .sl 0 true []]), .pv (.int .i64 0)], [.box [.pv (.int .i64 n), .map 1], .map (mapP m)], [])
  else (.tup [.agg [.pv (.int .i64 n), .row 2 l.length 0 l.length], .pv (.int .i64 0)], [.box [.pv (.int .i64 n), .map 1], .map (mapP m)], [.row true 87 2 (l.map enc)])
 else (.tup [.pv (.agg [.int .i64 0, .sl 0 true []]), .pv (.int .i64 3)], [.box [.pv (.int .i64 n), .map 1], .map (mapP m)], [])
theorem coefs_sm (n : Int) (m : List (Str × Int)) {xs : List (List UInt8)} (hx : xs.length <= 1000000) (hsx : ∀ x ∈ xs, x.length <= 1000000) : linSm ⟨n, coefsM m xs⟩ = true := by
 simp only [linSm, linOk, coefsM, List.length_map, Bool.and_eq_true, decide_eq_true_eq, List.all_eq_true, List.mem_map]
 refine ⟨by omega, ?_⟩
 rintro t ⟨x, hxm, rfl⟩
 exact hsx x hxm
theorem res_loop {E : ExtE} (n : Int) (m : List (Str × Int)) (xs : List (List UInt8)) (hx : xs.length <= 1000000) (hsx : ∀ x ∈ xs, x.length <= 1000000) : ∀ (j k : Nat), j + k = xs.length -> 0 < k ->
  AtM T_resx E 2 (endO' 2 rs_resx fun r => r = resW n m (coefsM m xs)) ic_resx 0 58 [(0, .ptr 0 0), (2, .ptr 2 0), (4, .ptr 3 0), (33, .row 4 xs.length 0 xs.length), (34, .pv (.int .i64 xs.length)), (35, .pv (.int .i64 k))]
   [.obj (.box [.pv (.int .i64 n), .map 1]), .obj (.map (mapP m)), .obj (.box [.pv (.int .i64 0), .pv (.sl 0 true [])]), .obj (.box [.pv (.int .i64 n), .row 5 k 0 k]), .obj (.row false 9 1 (xs.map .str)), .obj (.row false 87 2 ((coefsM m (xs.take k)).map enc))] := by
 intro j
 induction j with
 | zero =>
  intro k hk h0
  obtain rfl : k = xs.length := by omega
  refine resx_h0b E n m xs.length xs xs.length xs.length (coefsM m (xs.take xs.length)) ?_
  rw [if_neg (by simp)]
  have e1 : coefsM m (xs.take xs.length) = coefsM m xs := by rw [List.take_length]
  rw [e1]
  have e2 : List.drop 0 (List.take xs.length (List.map (enc : Coef -> PV) (coefsM m xs))) = (coefsM m xs).map enc := by rw [List.drop_zero, List.take_of_length_le (by simp [coefsM])]
  rw [e2]
  refine ⟨by simp [coefsM], pre_enc (⟨n, coefsM m xs⟩, ()) rfl (coefs_sm n m hx hsx), ex_enc (⟨n, coefsM m xs⟩, ()) rfl ?_⟩
  have hne : (coefsM m xs).isEmpty = false := by cases xs <;> simp [coefsM] at h0 ⊢
  by_cases hv : validL ⟨n, coefsM m xs⟩ = true
  ·rw [if_neg (by simp [hv])]
   unfold resW
   rw [if_pos hv, hne]
   simp [coefsM]
  ·rw [if_pos (by simpa using hv)]
   simp [resW, hv]
 | succ j ih =>
  intro k hk h0
  have hlt : k < xs.length := by omega
  refine resx_h0b E n m xs.length xs k k (coefsM m (xs.take k)) ?_
  rw [if_pos (by simp; omega)]
  have eg : List.getD (List.map PV.str xs) (0 + Int.toNat (k : Int)) default = .str xs[k] := by simp [List.getD, hlt]
  rw [eg]
  have ec : Sh.co Sh.str (List.getD (PV.cells (.str xs[k])) 0 default) = .str xs[k] := rfl
  rw [ec, lookD_map]
  refine ⟨by simp; omega, by simp; omega, rfl, by rw [lookOK_map]; rfl, ?_, ?_⟩
  ·simp [coefsM]; omega
  ·have h := ih (k + 1) (by omega) (by omega)
   have et : xs.take (k + 1) = xs.take k ++ [xs[k]] := by rw [List.take_add_one, List.getElem?_eq_getElem hlt]; rfl
   rw [et] at h
   rw [next (by omega)]
   simp only [coefsM, List.map_append, List.map_cons, List.map_nil] at h ⊢
   exact h
def resP : MapParts := ⟨[⟨(some 15), (.mv (.t 0)), 0, none⟩, ⟨(some 16), (.nilchk (.t 15)), 0, none⟩, ⟨(some 17), (.faddr 1 (.t 16)), 0, none⟩, ⟨(some 18), (.load false [.any] (.t 17)), 0, none⟩], .t 18, 19, 20, 21, 22, 1, [⟨(some 23), (.extract (.t 22) 0), 0, none⟩, ⟨(some 24), (.extract (.t 22) 1), 0, none⟩, ⟨(some 6), (.mv (.t 23)), 0, none⟩, ⟨(some 7), (.mv (.t 24)), 0, none⟩], ic_resra⟩
def resE : ExtE := fun nn st q => nn = 0 ∧ MapE T_resx 2 resP st q
def kz (vis : List (PV × PV)) : List (List UInt8) := vis.filterMap fun p => match p with | (.str s, .int _ c) => if c = 0 then none else some s | _ => none
def namesM (m : List (Str × Int)) : List (List UInt8) := sortS (kz (mapP m))
def resH (n : Int) : Heap := [.obj (.box [.pv (.int .i64 n), .map 1]), .dead, .obj (.box [.pv (.int .i64 0), .pv (.sl 0 true [])]), .obj (.box [.pv (.int .i64 n), .pv (.sl 0 true [])]), .dead]
def resEnv (x : AV) : List AV := envJ 58 0 [(0, .ptr 0 0), (2, .ptr 2 0), (4, .ptr 3 0), (5, x), (18, .map 1), (19, .ptr 4 0)]
def resI (n : Int) (vis : List (PV × PV)) (s : St) : Prop :=
 (kz vis = [] ∧ s = ⟨resEnv (.pv (.sl 0 true [])), resH n⟩) ∨ (kz vis ≠ [] ∧ s = ⟨resEnv (.row 5 (kz vis).length 0 (kz vis).length), resH n ++ [.obj (.row false 9 1 ((kz vis).map .str))]⟩)
theorem sortS_perm {a b : List (List UInt8)} (h : a.Perm b) : sortS a = sortS b := by
 have tr : ∀ x y z : List UInt8, decide (x <= y) = true -> decide (y <= z) = true -> decide (x <= z) = true := fun x y z h k => by simp only [decide_eq_true_eq] at *; exact List.le_trans h k
 have to : ∀ x y : List UInt8, (decide (x <= y) || decide (y <= x)) = true := fun x y => by simp only [Bool.or_eq_true, decide_eq_true_eq]; exact List.le_total x y
 refine List.Perm.eq_of_pairwise (le := fun x y => decide (x <= y) = true) (fun x y _ _ h1 h2 => ?_) (List.pairwise_mergeSort tr to a) (List.pairwise_mergeSort tr to b) (((List.mergeSort_perm a _).trans h).trans (List.mergeSort_perm b _).symm)
 simp only [decide_eq_true_eq] at h1 h2
 exact List.le_antisymm h1 h2
theorem res_round (n : Int) (vis : List (PV × PV)) (s : List UInt8) (c : Int) (st : St) (hl : (kz vis).length < 1000000) (h : resI n vis st) :
  ∃ s2, runA T_resx st.heap.length resP.psE (grow ⟨((st.env.set 20 .junk).set 21 .junk).set 22 (.pv (.tup [.str s, .int .i64 c])), st.heap⟩ (news resP.psE)) = some s2 ∧ ∃ F', (∀ x, ¬ F' x) ∧
   GetsX T_resx (fun n' S' _ => n' = 99 ∧ resI n (vis ++ [(.str s, .int .i64 c)]) S') st.heap.length F' (.inl ic_resra) [.blk 1, .seq (.ext 99 [0, 2, 4, 5, 18, 19])] s2 := by
 have hno : ∀ k, ∀ x, ¬ endO' k rs_resra (fun _ => False) x := by rintro k x ⟨r, _, h⟩; exact h
 have ek : kz (vis ++ [(.str s, .int .i64 c)]) = kz vis ++ (if c = 0 then [] else [s]) := by
  unfold kz
  rw [List.filterMap_append]
  by_cases hc : c = 0 <;> simp [hc]
 rcases h with ⟨h1, rfl⟩ | ⟨h1, rfl⟩
 ·refine ⟨_, by kernel_rfl, _, hno 5, resra_r0 (G := fun _ => False) _ n s c ?_⟩
  by_cases hc : c = 0
  ·rw [if_neg (by simp [hc])]
   refine ⟨rfl, .inl ⟨by rw [ek, h1]; simp [hc], rfl⟩⟩
  ·rw [if_pos (by simpa using hc)]
   refine ⟨rfl, .inr ⟨by rw [ek, h1]; simp [hc], ?_⟩⟩
   rw [ek, h1]
   simp [hc]
   exact ⟨rfl, rfl⟩
 ·refine ⟨_, by kernel_rfl, _, hno 6, resrb_r0 (G := fun _ => False) _ n s c (kz vis).length (kz vis) ?_⟩
  by_cases hc : c = 0
  ·rw [if_neg (by simp [hc])]
   refine ⟨rfl, .inr ⟨by rw [ek]; simp [hc, h1], ?_⟩⟩
   rw [ek]
   simp [hc]
   exact ⟨rfl, rfl⟩
  ·rw [if_pos (by simpa using hc)]
   refine ⟨by simp; omega, rfl, .inr ⟨by rw [ek]; simp [hc], ?_⟩⟩
   rw [ek]
   simp [hc]
   exact ⟨rfl, rfl⟩
theorem res_first {E : ExtE} (n : Int) (m : List (Str × Int)) (xs : List (List UInt8)) (hx : xs.length <= 1000000) (hsx : ∀ x ∈ xs, x.length <= 1000000) (h0 : 0 < xs.length) :
  AtM T_resx E 2 (endO' 2 rs_resx fun r => r = resW n m (coefsM m xs)) ic_resx 0 58 [(0, .ptr 0 0), (2, .ptr 2 0), (4, .ptr 3 0), (33, .row 4 xs.length 0 xs.length), (34, .pv (.int .i64 xs.length)), (35, .pv (.int .i64 0))]
   [.obj (.box [.pv (.int .i64 n), .map 1]), .obj (.map (mapP m)), .obj (.box [.pv (.int .i64 0), .pv (.sl 0 true [])]), .obj (.box [.pv (.int .i64 n), .pv (.sl 0 true [])]), .obj (.row false 9 1 (xs.map .str))] := by
 refine resx_h0a E n m xs.length xs 0 ?_
 rw [if_pos (by simp; omega)]
 have eg : List.getD (List.map PV.str xs) (0 + Int.toNat (0 : Int)) default = .str xs[0] := by simp [List.getD, h0]
 rw [eg]
 have ec : Sh.co Sh.str (List.getD (PV.cells (.str xs[0])) 0 default) = .str xs[0] := rfl
 rw [ec, lookD_map]
 refine ⟨by simp; omega, by simp; omega, rfl, by rw [lookOK_map]; rfl, ?_⟩
 have h := res_loop (E := E) n m xs hx hsx (xs.length - 1) 1 (by omega) (by omega)
 have et : xs.take 1 = [xs[0]] := by cases xs <;> simp at h0 ⊢
 rw [et] at h
 exact h
theorem resx_run (n : Int) (m : List (Str × Int)) (hm : m.length < 1000000) (hkm : ∀ x ∈ namesM m, x.length <= 1000000) :
  GetsM T_resx resE 2 (endO' 2 rs_resx fun r => r = resW n m (coefsM m (namesM m))) ic_resx [] (st0O 58 [.ptr 0 0] [.box [.pv (.int .i64 n), .map 1], .map (mapP m)]) := by
 refine resx_s resE n m ?_
 have elen : ∀ x, (resEnv x).length = 58 := fun x => rfl
 refine ⟨rfl, ⟨((((envJ 58 0 [(0, .ptr 0 0), (2, .ptr 2 0), (4, .ptr 3 0), (5, .pv (.sl 0 true [])), (6, .undef), (7, .undef), (15, .undef), (16, .undef), (17, .undef), (18, .undef), (19, .undef), (20, .undef), (21, .undef), (22, .undef), (23, .undef), (24, .undef), (25, .undef), (26, .undef), (27, .undef), (28, .undef), (29, .undef), (30, .undef)]).set 15 (.ptr 0 0)).set 16 (.ptr 0 0)).set 17 (.ptr 0 1)).set 18 (.map 1),
   [.obj (.box [.pv (.int .i64 n), .map 1]), .obj (.map (mapP m)), .obj (.box [.pv (.int .i64 0), .pv (.sl 0 true [])]), .obj (.box [.pv (.int .i64 n), .pv (.sl 0 true [])])]⟩, ⟨resEnv (.pv (.sl 0 true [])), resH n⟩, 1, 4, 18, 1, mapP m, [0, 2, 4, 5, 18, 19], [0, 2, 4, 5, 18, 19], resI n, by kernel_rfl, rfl, rfl, by kernel_rfl, rfl, by decide, rfl, .inl ⟨rfl, rfl⟩, ?_, ?_, ?_⟩
 ·intro vis s h
  rcases h with ⟨_, rfl⟩ | ⟨_, rfl⟩
  ·exact ⟨⟨rfl, by show 20 < _; rw [elen]; omega, by show 21 < _; rw [elen]; omega, by show 22 < _; rw [elen]; omega⟩, rfl⟩
  ·exact ⟨⟨rfl, by show 20 < _; rw [elen]; omega, by show 21 < _; rw [elen]; omega, by show 22 < _; rw [elen]; omega⟩, rfl⟩
 ·intro vis kv s rest hp hI
  have hin : kv ∈ mapP m := hp.mem_iff.2 (by simp)
  obtain ⟨p, _, rfl⟩ := List.mem_map.1 hin
  have hl := hp.length_eq
  simp [mapP] at hl
  have hk : (kz vis).length <= vis.length := List.length_filterMap_le _ _
  exact res_round n vis p.1.s p.2 s (by omega) hI
 ·intro vis s hp hI
  have hpk : (kz vis).Perm (kz (mapP m)) := hp.filterMap _
  have hs : sortS (kz vis) = namesM m := sortS_perm hpk
  have hkl : (kz vis).length <= 1000000 := by
   have h1 : (kz vis).length <= vis.length := List.length_filterMap_le _ _
   have h2 := hp.length_eq
   simp [mapP] at h2
   omega
  rcases hI with ⟨h1, rfl⟩ | ⟨h1, rfl⟩
  ·refine resx_x0a resE n m ?_
   have hn : namesM m = [] := by rw [<- hs, h1]; simp [sortS]
   rw [hn]
   refine resx_h0n resE n m 0 ?_
   rw [if_neg (by simp)]
   refine ex_val (⟨n, []⟩, ()) (by simp) ?_
   by_cases hv : validL ⟨n, []⟩ = true
   ·rw [if_neg (by simp [hv])]
    simp [resW, coefsM, hv]
   ·rw [if_pos (by simpa using hv)]
    simp [resW, coefsM, hv]
  ·refine resx_x0b resE n m (kz vis).length (kz vis) ?_
   have e1 : List.map strOf (List.map PV.str (kz vis)) = kz vis := by rw [List.map_map]; exact List.map_id _
   rw [e1, hs]
   have e2 : (namesM m).length = (kz vis).length := by rw [<- hs]; exact (List.mergeSort_perm _ _).length_eq
   refine ⟨?_, ?_⟩
   ·simp [pre_sorts, isStrP]
    omega
   ·have := res_first (E := resE) n m (namesM m) (by omega) hkm (by rw [e2]; exact List.length_pos_iff.2 h1)
    rw [e2] at this
    simpa using this
end Go.Pl

namespace Go.Pl
open Go.RowKit
open Enc (enc dec is)
open EncL (encL decL isL)
def addW (n : Int) (m : List (Str × Int)) : AV × List AObj × List AObj := (.tup [], [.box [.pv (.int .i64 n), .map 1], .map (mapP m)], [])
theorem ladd_loop (n : Int) (l : Lin) (k : Int) (hl : l.t.length <= 1000000) : ∀ (j i : Nat) (m : List (Str × Int)), j + i = l.t.length ->
  At T_ladd 2 (endO' 2 rs_ladd fun r => r = addW n (addT k (l.t.drop i) m)) ic_ladd 0 39 [(0, .ptr 0 0), (2, .pv (.int .i64 k)), (20, .pv (enc l.t)), (21, .pv (.int .i64 l.t.length)), (22, .pv (.int .i64 i))] [.obj (.box [.pv (.int .i64 n), .map 1]), .obj (.map (mapP m))] := by
 intro j
 induction j with
 | zero =>
  intro i m hi
  refine ladd_h0 n m l k i ?_
  rw [if_neg (by simp; omega), List.drop_of_length_le (by omega)]
  rfl
 | succ j ih =>
  intro i m hi
  have hlt : i < l.t.length := by omega
  refine ladd_h0 n m l k i ?_
  rw [if_pos (by simp; omega)]
  refine ⟨by simp [Enc.sz]; omega, l.t[i], by simp [List.getD, hlt], ?_⟩
  have ec : Sh.co Sh.str (List.getD (PV.cells (enc l.t[i])) 0 default) = .str l.t[i].v.s := rfl
  rw [ec, lookD_map]
  have ev : PV.asInt (List.getD (PV.cells (enc l.t[i])) (0 + 1) default) = l.t[i].c := rfl
  have ea : PV.asInt (.int .i64 (atM m l.t[i].v.s)) = atM m l.t[i].v.s := rfl
  rw [ev, ea]
  have eu := upd_map l.t[i].v (IntKind.i64.wrap (atM m l.t[i].v.s + IntKind.i64.wrap (k * l.t[i].c))) m
  refine ⟨by rw [lookOK_map]; rfl, ?_, ?_⟩
  ·show (upd _ _ _).isSome = true
   exact (congrArg Option.isSome eu).trans rfl
  ·have h := ih (i + 1) (updM l.t[i].v (IntKind.i64.wrap (atM m l.t[i].v.s + IntKind.i64.wrap (k * l.t[i].c))) m) (by omega)
   rw [next (by omega)]
   have ed : l.t.drop i = l.t[i] :: l.t.drop (i + 1) := List.drop_eq_getElem_cons hlt
   rw [ed]
   have e2 : updL (.str l.t[i].v.s) (.int .i64 (IntKind.i64.wrap (atM m l.t[i].v.s + IntKind.i64.wrap (k * l.t[i].c)))) (mapP m) = mapP (updM l.t[i].v (IntKind.i64.wrap (atM m l.t[i].v.s + IntKind.i64.wrap (k * l.t[i].c))) m) := by
    unfold updL
    rw [eu]
    rfl
   rw [<- e2] at h
   exact h
theorem ladd_run (n : Int) (m : List (Str × Int)) (l : Lin) (k : Int) (hl : l.t.length <= 1000000) :
  Gets T_ladd 2 (endO' 2 rs_ladd fun r => r = addW (IntKind.i64.wrap (n + IntKind.i64.wrap (k * l.k))) (addT k l.t m)) ic_ladd [] (st0O 39 [.ptr 0 0, .pv (enc l), .pv (.int .i64 k)] [.box [.pv (.int .i64 n), .map 1], .map (mapP m)]) := by
 refine ladd_s n m l k ?_
 have h := ladd_loop (IntKind.i64.wrap (n + IntKind.i64.wrap (k * l.k))) l k hl l.t.length 0 m rfl
 rw [List.drop_zero] at h
 have e : List.length (List.map (enc : Coef -> PV) l.t) = l.t.length := by simp
 rw [e]
 exact h
end Go.Pl

namespace Go.Pl
open Go.RowKit
open Enc (enc dec is)
open EncL (encL decL isL)
set_option maxRecDepth 100000
def ic_comb : IC := (.seq (.reg [⟨(some 4), (.mv (.c (.int .i64 0))), 0, none⟩, ⟨(some 5), (.mv (.c .nilmap)), 0, none⟩, ⟨(some 6), (.mv (.c (.bool false))), 0, none⟩] none) (.seq (.seq (.reg [⟨(some 16), (.mv (.t 1)), 0, none⟩, ⟨(some 17), (.len 1 (.t 16)), 0, none⟩, ⟨(some 18), (.mv (.t 0)), 0, none⟩, ⟨(some 19), (.len 1 (.t 18)), 0, none⟩, ⟨(some 20), (.bin .num .neq (.t 17) (.t 19)), 0, none⟩] none) (.cond (.t 20) (.seq (.reg [⟨(some 4), (.mv (.c (.int .i64 0))), 0, none⟩, ⟨(some 5), (.mv (.c .nilmap)), 0, none⟩, ⟨(some 6), (.mv (.c (.bool false))), 0, none⟩] none) .ret) .skip)) (.seq (.reg [⟨(some 21), .mkmap, 0, none⟩, ⟨(some 7), (.mv (.c (.int .i64 0))), 1, none⟩, ⟨(some 8), (.mv (.t 21)), 1, none⟩] none) (.seq (.seq (.reg [⟨(some 22), (.mv (.t 0)), 0, none⟩, ⟨(some 23), (.len 1 (.t 22)), 0, none⟩, ⟨(some 24), (.mv (.c (.int .i64 0))), 0, none⟩] none) (.block 0 (.loop [24, 23, 22, 1, 7, 8, 74, 75, 76, 77, 78, 79, 80, 15, 81, 82, 14, 83, 84] (.seq (.reg [⟨(some 25), (.bin .num .lss (.t 24) (.t 23)), 0, none⟩] none) (.seq (.cond (.t 25) .skip (.exit 0)) (.seq (.block 1 (.seq (.reg [⟨(some 26), (.mv (.t 24)), 0, none⟩, ⟨(some 27), (.iaddr 3 (.t 22) (.t 24)), 0, none⟩, ⟨(some 28), (.load true [.bool, (.int .i64), (.sl 2)] (.t 27)), 0, none⟩, ⟨(some 10), (.alloc (.agg [(.bool false), (.int .i64 0), (.sl 0 true [])])), 0, none⟩, ⟨(some 9), (.mv (.t 26)), 1, none⟩, ⟨none, (.store 3 (.t 10) (.t 28)), 1, none⟩] none) (.seq (.reg [⟨(some 29), (.mv (.t 1)), 0, none⟩, ⟨(some 30), (.mv (.t 9)), 0, none⟩, ⟨(some 31), (.iaddr 1 (.t 29) (.t 30)), 0, none⟩, ⟨(some 32), (.load false [(.int .i64)] (.t 31)), 0, none⟩, ⟨(some 11), (.mv (.t 32)), 0, none⟩] none) (.seq (.seq (.reg [⟨(some 33), (.mv (.t 11)), 0, none⟩, ⟨(some 34), (.bin .num .lss (.t 33) (.c (.int .i64 (-1000000000)))), 0, none⟩, ⟨(some 35), (.mv (.t 34)), 0, none⟩, ⟨(some 36), (.mv (.t 11)), 0, (some (35, false))⟩, ⟨(some 37), (.bin .num .gtr (.t 36) (.c (.int .i64 1000000000))), 0, (some (35, false))⟩, ⟨(some 38), (.pick (.t 35) (.c (.bool true)) (.t 37)), 0, none⟩, ⟨(some 39), (.mv (.t 38)), 0, none⟩, ⟨(some 40), (.mv (.t 11)), 0, (some (39, false))⟩, ⟨(some 41), (.bin .num .lss (.t 40) (.c (.int .i64 0))), 0, (some (39, false))⟩, ⟨(some 42), (.mv (.t 41)), 0, (some (39, false))⟩, ⟨(some 43), (.faddr 0 (.t 10)), 0, (some (42, true))⟩, ⟨(some 44), (.load false [.bool] (.t 43)), 0, (some (42, true))⟩, ⟨(some 45), (.un .not (.t 44)), 0, (some (42, true))⟩, ⟨(some 46), (.pick (.t 42) (.t 45) (.c (.bool false))), 0, (some (39, false))⟩, ⟨(some 47), (.pick (.t 39) (.c (.bool true)) (.t 46)), 0, none⟩] none) (.cond (.t 47) (.seq (.reg [⟨(some 4), (.mv (.c (.int .i64 0))), 0, none⟩, ⟨(some 5), (.mv (.c .nilmap)), 0, none⟩, ⟨(some 6), (.mv (.c (.bool false))), 0, none⟩] none) .ret) .skip)) (.seq (.reg [⟨(some 48), (.mv (.t 7)), 0, none⟩, ⟨(some 49), (.mv (.t 11)), 0, none⟩, ⟨(some 50), (.faddr 1 (.t 10)), 0, none⟩, ⟨(some 51), (.faddr 0 (.t 50)), 0, none⟩, ⟨(some 52), (.load false [(.int .i64)] (.t 51)), 0, none⟩, ⟨(some 53), (.bin .num .mul (.t 49) (.t 52)), 0, none⟩, ⟨(some 54), (.bin .num .add (.t 48) (.t 53)), 0, none⟩, ⟨(some 7), (.mv (.t 54)), 0, none⟩] none) (.seq (.reg [⟨(some 55), (.faddr 1 (.t 10)), 0, none⟩, ⟨(some 56), (.faddr 1 (.t 55)), 0, none⟩, ⟨(some 57), (.load false [(.sl 2)] (.t 56)), 0, none⟩, ⟨(some 58), (.len 1 (.t 57)), 0, none⟩, ⟨(some 59), (.mv (.c (.int .i64 0))), 0, none⟩] none) (.block 2 (.loop [59, 58, 57, 8, 11, 24, 23, 22, 1, 7, 74, 75, 76, 77, 78, 79, 80, 15, 81, 82, 14, 83, 84] (.seq (.reg [⟨(some 60), (.bin .num .lss (.t 59) (.t 58)), 0, none⟩] none) (.seq (.cond (.t 60) .skip (.exit 2)) (.seq (.block 3 (.seq (.reg [⟨(some 61), (.iaddr 2 (.t 57) (.t 59)), 0, none⟩, ⟨(some 62), (.load true [.str, (.int .i64)] (.t 61)), 0, none⟩, ⟨(some 13), (.alloc (.agg [(.str []), (.int .i64 0)])), 0, none⟩, ⟨none, (.store 2 (.t 13) (.t 62)), 1, none⟩] none) (.reg [⟨(some 63), (.mv (.t 8)), 0, none⟩, ⟨(some 64), (.faddr 0 (.t 13)), 0, none⟩, ⟨(some 65), (.load false [.str] (.t 64)), 0, none⟩, ⟨(some 66), (.lookup true (.int .i64) (.int .i64 0) false (.t 63) (.t 65)), 0, none⟩, ⟨(some 67), (.mv (.t 11)), 0, none⟩, ⟨(some 68), (.faddr 1 (.t 13)), 0, none⟩, ⟨(some 69), (.load false [(.int .i64)] (.t 68)), 0, none⟩, ⟨(some 70), (.bin .num .mul (.t 67) (.t 69)), 0, none⟩, ⟨(some 71), (.bin .num .add (.t 66) (.t 70)), 0, none⟩, ⟨none, (.mapupd true (.t 63) (.t 65) (.t 71)), 0, none⟩] none))) (.reg [⟨(some 72), (.bin .num .add (.t 59) (.c (.int .i64 1))), 0, none⟩, ⟨(some 59), (.mv (.t 72)), 0, none⟩] none)))))))))))) (.reg [⟨(some 73), (.bin .num .add (.t 24) (.c (.int .i64 1))), 0, none⟩, ⟨(some 24), (.mv (.t 73)), 0, none⟩] none))))))) (.seq (.ext 0 [8, 74, 75, 76, 77, 78, 79, 80, 15, 81, 82, 14, 83, 84, 7]) (.seq (.reg [⟨(some 85), (.mv (.t 7)), 0, none⟩, ⟨(some 86), (.mv (.t 8)), 0, none⟩, ⟨(some 4), (.mv (.t 85)), 0, none⟩, ⟨(some 5), (.mv (.t 86)), 0, none⟩, ⟨(some 6), (.mv (.c (.bool true))), 0, none⟩] none) .ret))))))
def rs_comb : List IRes := [(.tmp 4), (.tmp 5), (.tmp 6)]
abbrev nt_comb : Nat := 87
def T_comb : Tab := tab []
theorem comb_s {G : AV × List AObj × List AObj -> Prop} (E : ExtE) (fs : List Fact) (ms : List Int) (h : if ((↑(List.length (List.map enc ms)) : Int) != (↑(List.length (List.map enc fs)) : Int)) = true then G (((.tup [(.pv (.int .i64 0)), (.pv .nilmap), (.pv (.bool false))]), ([], []))) else (AtM T_comb E 0 (endO' 0 rs_comb G) ic_comb 0 87 [(1, (.pv (.sl 1 false (List.map enc ms)))), (7, (.pv (.int .i64 0))), (8, (.map 0)), (14, .undef), (15, .undef), (22, (.pv (.sl 3 false (List.map enc fs)))), (23, (.pv (.int .i64 (↑(List.length (List.map enc fs)) : Int)))), (24, (.pv (.int .i64 0))), (74, .undef), (75, .undef), (76, .undef), (77, .undef), (78, .undef), (79, .undef), (80, .undef), (81, .undef), (82, .undef), (83, .undef), (84, .undef)] [(.obj (.map []))])) : GetsX T_comb E 0 (endO' 0 rs_comb G) (.inl ic_comb) [] (st0O 87 [.pv (enc fs), .pv (enc ms)] []) := GetsX.mo (.lit (.ask (.nil) (.nil))) h (by kernel_rfl)
theorem comb_h0 {G : AV × List AObj × List AObj -> Prop} (E : ExtE) (fs : List Fact) (ms : List Int) (n : Int) (M : List (Str × Int)) (i : Int) (h : if (decide (i < (↑(List.length fs) : Int))) = true then (decide (0 <= i) && decide (Int.toNat i < List.length (List.map enc fs)) && Enc.sz Fact == 3) = true ∧ (∃ y0 : Fact, AV.pv (PV.rptr (PV.cells (List.getD (List.map enc fs) (Int.toNat i) default))) = AV.pv (PV.rptr (PV.cells ((enc) y0))) ∧ ((decide (0 <= i) && decide (Int.toNat i < List.length (List.map enc ms)) && Enc.sz Int == 1) = true ∧ (∃ y1 : Int, AV.pv (PV.rptr (PV.cells (List.getD (List.map enc ms) (Int.toNat i) default))) = AV.pv (PV.rptr (PV.cells ((enc) y1))) ∧ (if (decide (PV.asInt (List.getD (PV.cells (enc y1)) 0 default) < (-1000000000 : Int))) = true then G (((.tup [(.pv (.int .i64 0)), (.pv .nilmap), (.pv (.bool false))]), ([], []))) else (if (decide (PV.asInt (List.getD (PV.cells (enc y1)) 0 default) > 1000000000)) = true then G (((.tup [(.pv (.int .i64 0)), (.pv .nilmap), (.pv (.bool false))]), ([], []))) else (if (decide (PV.asInt (List.getD (PV.cells (enc y1)) 0 default) < 0)) = true then if (!PV.asBool (List.getD (PV.cells (enc y0)) 0 default)) = true then G (((.tup [(.pv (.int .i64 0)), (.pv .nilmap), (.pv (.bool false))]), ([], []))) else (AtM T_comb E 0 (endO' 0 rs_comb G) ic_comb 1 87 [(1, (.pv (.sl 1 false (List.map enc ms)))), (7, (.pv (.int .i64 (IntKind.wrap IntKind.i64 (n + IntKind.wrap IntKind.i64 (PV.asInt (List.getD (PV.cells (enc y1)) 0 default) * PV.asInt (List.getD (PV.cells (enc y0)) (0 + 1) default))))))), (8, (.map 0)), (11, (.pv (.int .i64 (PV.asInt (List.getD (PV.cells (enc y1)) 0 default))))), (14, .undef), (15, .undef), (22, (.pv (.sl 3 false (List.map enc fs)))), (23, (.pv (.int .i64 (↑(List.length fs) : Int)))), (24, (.pv (.int .i64 i))), (57, (.pv (.sl 2 false (PV.asXs (List.getD (PV.cells (enc y0)) (0 + 1 + 1) default))))), (58, (.pv (.int .i64 (↑(List.length (PV.asXs (List.getD (PV.cells (enc y0)) (0 + 1 + 1) default))) : Int)))), (59, (.pv (.int .i64 0))), (74, .undef), (75, .undef), (76, .undef), (77, .undef), (78, .undef), (79, .undef), (80, .undef), (81, .undef), (82, .undef), (83, .undef), (84, .undef)] [(.obj (.map (mapP M)))]) else (AtM T_comb E 0 (endO' 0 rs_comb G) ic_comb 1 87 [(1, (.pv (.sl 1 false (List.map enc ms)))), (7, (.pv (.int .i64 (IntKind.wrap IntKind.i64 (n + IntKind.wrap IntKind.i64 (PV.asInt (List.getD (PV.cells (enc y1)) 0 default) * PV.asInt (List.getD (PV.cells (enc y0)) (0 + 1) default))))))), (8, (.map 0)), (11, (.pv (.int .i64 (PV.asInt (List.getD (PV.cells (enc y1)) 0 default))))), (14, .undef), (15, .undef), (22, (.pv (.sl 3 false (List.map enc fs)))), (23, (.pv (.int .i64 (↑(List.length fs) : Int)))), (24, (.pv (.int .i64 i))), (57, (.pv (.sl 2 false (PV.asXs (List.getD (PV.cells (enc y0)) (0 + 1 + 1) default))))), (58, (.pv (.int .i64 (↑(List.length (PV.asXs (List.getD (PV.cells (enc y0)) (0 + 1 + 1) default))) : Int)))), (59, (.pv (.int .i64 0))), (74, .undef), (75, .undef), (76, .undef), (77, .undef), (78, .undef), (79, .undef), (80, .undef), (81, .undef), (82, .undef), (83, .undef), (84, .undef)] [(.obj (.map (mapP M)))]))))))) else (E 0 ⟨envJ 87 0 [(7, (.pv (.int .i64 n))), (8, (.map 0)), (14, .undef), (15, .undef), (74, .undef), (75, .undef), (76, .undef), (77, .undef), (78, .undef), (79, .undef), (80, .undef), (81, .undef), (82, .undef), (83, .undef), (84, .undef)], [(.obj (.map (mapP M)))]⟩ (fun x S' => AfX T_comb E 0 (endO' 0 rs_comb G) ic_comb 0 x S'))) : AtM T_comb E 0 (endO' 0 rs_comb G) ic_comb 0 87 [(1, .pv (enc ms)), (7, .pv (.int .i64 n)), (8, .map 0), (14, .undef), (15, .undef), (22, .pv (enc fs)), (23, .pv (.int .i64 fs.length)), (24, .pv (.int .i64 i)), (74, .undef), (75, .undef), (76, .undef), (77, .undef), (78, .undef), (79, .undef), (80, .undef), (81, .undef), (82, .undef), (83, .undef), (84, .undef)] [.obj (.map (mapP M))] := GetsX.mo (.lit (.ask (.req (.abs (Fact) (fun YY => AV.pv (PV.rptr (PV.cells ((enc) YY)))) (.lit (.req (.abs (Int) (fun YY => AV.pv (PV.rptr (PV.cells ((enc) YY)))) (.lit (.lit (.ask (.lit (.lit (.lit (.lit (.lit (.lit (.lit (.lit (.nil))))))))) (.lit (.lit (.lit (.ask (.lit (.lit (.lit (.lit (.lit (.nil)))))) (.lit (.lit (.lit (.ask (.lit (.lit (.lit (.lit (.lit (.ask (.nil) (.lit (.lit (.nil))))))))) (.lit (.lit (.lit (.lit (.lit (.lit (.lit (.lit (.nil))))))))))))))))))))))))) (.nil))) h (by kernel_rfl)
theorem comb_h1 {G : AV × List AObj × List AObj -> Prop} (E : ExtE) (fs : List Fact) (ms : List Int) (n m : Int) (M : List (Str × Int)) (ts : List Coef) (i j : Int) (h : if (decide (j < (↑(List.length ts) : Int))) = true then (decide (0 <= j) && decide (Int.toNat j < List.length (List.map enc ts)) && Enc.sz Coef == 2) = true ∧ (∃ y0 : Coef, AV.pv (PV.rptr (PV.cells (List.getD (List.map enc ts) (Int.toNat j) default))) = AV.pv (PV.rptr (PV.cells ((enc) y0))) ∧ ((lookOK (Sh.co Sh.str (List.getD (PV.cells (enc y0)) 0 default)) (mapP M) && Sh.fit (Sh.int .i64) (lookD (Sh.co Sh.str (List.getD (PV.cells (enc y0)) 0 default)) (PV.int .i64 0) (mapP M))) = true ∧ ((updOK (Sh.co Sh.str (List.getD (PV.cells (enc y0)) 0 default)) (PV.int .i64 (IntKind.wrap IntKind.i64 (PV.asInt (lookD (Sh.co Sh.str (List.getD (PV.cells (enc y0)) 0 default)) (PV.int .i64 0) (mapP M)) + IntKind.wrap IntKind.i64 (m * PV.asInt (List.getD (PV.cells (enc y0)) (0 + 1) default))))) (mapP M)) = true ∧ (AtM T_comb E 0 (endO' 0 rs_comb G) ic_comb 1 87 [(1, (.pv (.sl 1 false (List.map enc ms)))), (7, (.pv (.int .i64 n))), (8, (.map 0)), (11, (.pv (.int .i64 m))), (14, .undef), (15, .undef), (22, (.pv (.sl 3 false (List.map enc fs)))), (23, (.pv (.int .i64 (↑(List.length fs) : Int)))), (24, (.pv (.int .i64 i))), (57, (.pv (.sl 2 false (List.map enc ts)))), (58, (.pv (.int .i64 (↑(List.length ts) : Int)))), (59, (.pv (.int .i64 (IntKind.wrap IntKind.i64 (j + 1))))), (74, .undef), (75, .undef), (76, .undef), (77, .undef), (78, .undef), (79, .undef), (80, .undef), (81, .undef), (82, .undef), (83, .undef), (84, .undef)] [(.obj (.map (updL (Sh.co Sh.str (List.getD (PV.cells (enc y0)) 0 default)) (PV.int .i64 (IntKind.wrap IntKind.i64 (PV.asInt (lookD (Sh.co Sh.str (List.getD (PV.cells (enc y0)) 0 default)) (PV.int .i64 0) (mapP M)) + IntKind.wrap IntKind.i64 (m * PV.asInt (List.getD (PV.cells (enc y0)) (0 + 1) default))))) (mapP M))))])))) else (AtM T_comb E 0 (endO' 0 rs_comb G) ic_comb 0 87 [(1, (.pv (.sl 1 false (List.map enc ms)))), (7, (.pv (.int .i64 n))), (8, (.map 0)), (14, .undef), (15, .undef), (22, (.pv (.sl 3 false (List.map enc fs)))), (23, (.pv (.int .i64 (↑(List.length fs) : Int)))), (24, (.pv (.int .i64 (IntKind.wrap IntKind.i64 (i + 1))))), (74, .undef), (75, .undef), (76, .undef), (77, .undef), (78, .undef), (79, .undef), (80, .undef), (81, .undef), (82, .undef), (83, .undef), (84, .undef)] [(.obj (.map (mapP M)))])) : AtM T_comb E 0 (endO' 0 rs_comb G) ic_comb 1 87 [(1, .pv (enc ms)), (7, .pv (.int .i64 n)), (8, .map 0), (11, .pv (.int .i64 m)), (14, .undef), (15, .undef), (22, .pv (enc fs)), (23, .pv (.int .i64 fs.length)), (24, .pv (.int .i64 i)), (57, .pv (enc ts)), (58, .pv (.int .i64 ts.length)), (59, .pv (.int .i64 j)), (74, .undef), (75, .undef), (76, .undef), (77, .undef), (78, .undef), (79, .undef), (80, .undef), (81, .undef), (82, .undef), (83, .undef), (84, .undef)] [.obj (.map (mapP M))] := GetsX.mo (.lit (.ask (.req (.abs (Coef) (fun YY => AV.pv (PV.rptr (PV.cells ((enc) YY)))) (.lit (.req (.keep (.lit (.lit (.req (.lit (.nil)))))))))) (.lit (.nil)))) h (by kernel_rfl)
theorem comb_x0 {G : AV × List AObj × List AObj -> Prop} (E : ExtE) (fs : List Fact) (ms : List Int) (n : Int) (M : List (Str × Int)) (h : G (((.tup [(.pv (.int .i64 n)), (.map 0), (.pv (.bool true))]), ([], [(.map (mapP M))])))) : AfX T_comb E 0 (endO' 0 rs_comb G) ic_comb 0 .normal ⟨envJ 87 0 [(7, .pv (.int .i64 n)), (8, .map 0)], [.obj (.map (mapP M))]⟩ := GetsX.mo (.nil) h (by kernel_rfl)
end Go.Pl

namespace Go.Pl
open Go.RowKit
open Enc (enc dec is)
open EncL (encL decL isL)
def combR (s : Int × List (Str × Int)) (l : List (Int × Fact)) : AV × List AObj × List AObj := if l.all okQ then combY (l.foldl cstep s) else combN
def combE : ExtE := fun nn st q => nn = 0 ∧ DelE ⟨8, 74, 14, 15⟩ st q
abbrev u87 : List (Nat × AV) := [(74, .undef), (75, .undef), (76, .undef), (77, .undef), (78, .undef), (79, .undef), (80, .undef), (81, .undef), (82, .undef), (83, .undef), (84, .undef)]
theorem comb_in (fs : List Fact) (ms : List Int) (i : Nat) (n m : Int) (ts : List Coef) (H : AV × List AObj × List AObj -> Prop) (hts : ts.length <= 9223372036854775807) (hi : i < 9223372036854775807) : ∀ (k j : Nat) (M : List (Str × Int)), k + j = ts.length ->
  AtM T_comb combE 0 (endO' 0 rs_comb H) ic_comb 0 87 ([(1, .pv (enc ms)), (7, .pv (.int .i64 n)), (8, .map 0), (14, .undef), (15, .undef), (22, .pv (enc fs)), (23, .pv (.int .i64 fs.length)), (24, .pv (.int .i64 ((i + 1 : Nat) : Int)))] ++ u87) [.obj (.map (mapP (addT m (ts.drop j) M)))] ->
  AtM T_comb combE 0 (endO' 0 rs_comb H) ic_comb 1 87 ([(1, .pv (enc ms)), (7, .pv (.int .i64 n)), (8, .map 0), (11, .pv (.int .i64 m)), (14, .undef), (15, .undef), (22, .pv (enc fs)), (23, .pv (.int .i64 fs.length)), (24, .pv (.int .i64 i)), (57, .pv (enc ts)), (58, .pv (.int .i64 ts.length)), (59, .pv (.int .i64 j))] ++ u87) [.obj (.map (mapP M))] := by
 intro k
 induction k with
 | zero =>
  intro j M hj h
  refine comb_h1 combE fs ms n m M ts i j (iteF (lt_no' (by omega)) ?_)
  rw [List.drop_of_length_le (show ts.length <= j by omega)] at h
  rw [next hi]
  exact h
 | succ k ih =>
  intro j M hj h
  have hlt : j < ts.length := by omega
  refine comb_h1 combE fs ms n m M ts i j (iteT (lt_ok' hlt) ⟨idx_ok hlt rfl, el_ex hlt ?_⟩)
  rw [List.drop_eq_getElem_cons hlt, addT] at h
  have ec : Sh.co Sh.str (List.getD (PV.cells (enc ts[j])) 0 default) = .str ts[j].v.s := rfl
  rw [ec, lookD_map]
  have ev : PV.asInt (List.getD (PV.cells (enc ts[j])) (0 + 1) default) = ts[j].c := rfl
  have ea : PV.asInt (.int .i64 (atM M ts[j].v.s)) = atM M ts[j].v.s := rfl
  rw [ev, ea]
  have eu := upd_map ts[j].v (IntKind.i64.wrap (atM M ts[j].v.s + IntKind.i64.wrap (m * ts[j].c))) M
  refine ⟨by rw [lookOK_map]; rfl, (congrArg Option.isSome eu).trans rfl, ?_⟩
  have e2 : updL (.str ts[j].v.s) (.int .i64 (IntKind.i64.wrap (atM M ts[j].v.s + IntKind.i64.wrap (m * ts[j].c)))) (mapP M) = mapP (updM ts[j].v (IntKind.i64.wrap (atM M ts[j].v.s + IntKind.i64.wrap (m * ts[j].c))) M) := by
   unfold updL
   rw [eu]
   rfl
  rw [e2, next (by omega)]
  exact ih (j + 1) _ (by omega) h
theorem comb_junk (n : Int) : (DelParts.sc ⟨8, 74, 14, 15⟩).foldl (fun (e : List AV) i => e.set i .junk) (envJ 87 0 ([(7, .pv (.int .i64 n)), (8, .map 0), (14, .undef), (15, .undef)] ++ u87)) = envJ 87 0 [(7, .pv (.int .i64 n)), (8, .map 0)] := by kernel_rfl
theorem comb_len (n : Int) : decide (85 <= (envJ 87 0 ([(7, .pv (.int .i64 n)), (8, .map 0), (14, .undef), (15, .undef)] ++ u87)).length) = true := by kernel_rfl
theorem comb_slot (n : Int) : (envJ 87 0 ([(7, .pv (.int .i64 n)), (8, .map 0), (14, .undef), (15, .undef)] ++ u87))[8]? = some (.map 0) := by kernel_rfl
theorem comb_loop (fs : List Fact) (ms : List Int) (hn : ms.length = fs.length) (hl : fs.length <= 9223372036854775807) (hk : fs.all (fun f => linOk f.l) = true) : ∀ (k i : Nat) (n : Int) (M : List (Str × Int)), k + i = fs.length -> (keysM M).Nodup ->
  AtM T_comb combE 0 (endO' 0 rs_comb fun r => r = combR (n, M) ((ms.zip fs).drop i)) ic_comb 0 87 ([(1, .pv (enc ms)), (7, .pv (.int .i64 n)), (8, .map 0), (14, .undef), (15, .undef), (22, .pv (enc fs)), (23, .pv (.int .i64 fs.length)), (24, .pv (.int .i64 i))] ++ u87) [.obj (.map (mapP M))] := by
 intro k
 induction k with
 | zero =>
  intro i n M hi hM
  refine comb_h0 combE fs ms n M i (iteF (lt_no' (by omega)) ⟨rfl, 0, mapP M, comb_slot n, of_decide_eq_true (comb_len n), rfl, ?_, mapP_keys hM, ?_⟩)
  ·intro kv hkv
   obtain ⟨p, _, rfl⟩ := List.mem_map.1 hkv
   exact ⟨_, _, rfl⟩
  ·have e : (ms.zip fs).drop i = [] := List.drop_of_length_le (by simp; omega)
   rw [e, nzM_map]
   have h := comb_x0 (G := fun r => r = combR (n, M) []) combE fs ms n (nzM M) rfl
   rw [<- comb_junk n] at h
   exact h
 | succ k ih =>
  intro i n M hi hM
  have hlt : i < fs.length := by omega
  have hlm : i < ms.length := by omega
  have hz : (ms.zip fs).drop i = (ms[i], fs[i]) :: (ms.zip fs).drop (i + 1) := by
   rw [List.drop_eq_getElem_cons (by simp; omega)]
   simp
  have hok : linOk fs[i].l = true := by rw [List.all_eq_true] at hk; exact hk _ (List.getElem_mem hlt)
  have hsub : linOk fs[i].l = true := hok
  have hlen : fs[i].l.t.length <= 9223372036854775807 := by simpa [linOk] using hsub
  refine comb_h0 combE fs ms n M i (iteT (lt_ok' hlt) ⟨idx_ok hlt rfl, el_ex hlt ⟨idx_ok hlm rfl, el_ex hlm ?_⟩⟩)
  rw [hz]
  have hgo : okQ (ms[i], fs[i]) = true -> AtM T_comb combE 0 (endO' 0 rs_comb fun r => r = combR (n, M) ((ms[i], fs[i]) :: (ms.zip fs).drop (i + 1))) ic_comb 1 87 ([(1, .pv (enc ms)), (7, .pv (.int .i64 (w64 (n + w64 (ms[i] * fs[i].l.k))))), (8, .map 0), (11, .pv (.int .i64 ms[i])), (14, .undef), (15, .undef), (22, .pv (enc fs)), (23, .pv (.int .i64 fs.length)), (24, .pv (.int .i64 i)), (57, .pv (enc fs[i].l.t)), (58, .pv (.int .i64 fs[i].l.t.length)), (59, .pv (.int .i64 ((0 : Nat) : Int)))] ++ u87) [.obj (.map (mapP M))] := by
   intro hq
   have e : combR (n, M) ((ms[i], fs[i]) :: (ms.zip fs).drop (i + 1)) = combR (cstep (n, M) (ms[i], fs[i])) ((ms.zip fs).drop (i + 1)) := by
    simp only [combR, List.all_cons, hq, Bool.true_and, List.foldl_cons]
   rw [e]
   exact comb_in fs ms i _ ms[i] fs[i].l.t _ hlen (by omega) fs[i].l.t.length 0 M (by omega) (ih (i + 1) _ _ (by omega) (addT_nodup _ _ _ hM))
  have hno : okQ (ms[i], fs[i]) = false -> combN = combR (n, M) ((ms[i], fs[i]) :: (ms.zip fs).drop (i + 1)) := by
   intro hq
   simp only [combR, List.all_cons, hq, Bool.false_and]
   rfl
  have et : List.length (List.map (enc : Coef -> PV) fs[i].l.t) = fs[i].l.t.length := by simp
  refine iteD (fun h1 => hno ?_) fun h1 => iteD (fun h2 => hno ?_) fun h2 => iteD (fun h3 => iteN (fun h4 => hno ?_) fun h4 => ?_) fun h3 => ?_
  ·have h1 : ms[i] < -1000000000 := h1
   simp [okQ, h1]
  ·have h2 : ms[i] > 1000000000 := h2
   simp [okQ, h2]
  ·have h3 : ms[i] < 0 := h3
   have h4 : fs[i].eq = false := h4
   simp [okQ, h3, h4]
  ·have h1 : ¬ ms[i] < -1000000000 := h1
   have h2 : ¬ ms[i] > 1000000000 := h2
   have h4 : fs[i].eq = true := h4
   have := hgo (by simp only [okQ, decide_eq_false h1, decide_eq_false h2, h4, Bool.or_true]; rfl)
   rw [<- et] at this
   exact this
  ·have h1 : ¬ ms[i] < -1000000000 := h1
   have h2 : ¬ ms[i] > 1000000000 := h2
   have h3 : ¬ ms[i] < 0 := h3
   have := hgo (by simp only [okQ, decide_eq_false h1, decide_eq_false h2, decide_eq_false h3]; rfl)
   rw [<- et] at this
   exact this
def combV (fs : List Fact) (ms : List Int) : AV × List AObj × List AObj := if ms.length = fs.length then combR (0, []) (ms.zip fs) else combN
theorem comb_run (fs : List Fact) (ms : List Int) (hl : fs.length <= 9223372036854775807) (hk : fs.all (fun f => linOk f.l) = true) : GetsM T_comb combE 0 (endO' 0 rs_comb fun r => r = combV fs ms) ic_comb [] (st0O 87 [.pv (enc fs), .pv (enc ms)] []) := by
 refine comb_s combE fs ms ?_
 simp only [List.length_map]
 by_cases h : ms.length = fs.length
 ·refine iteF (by simp [h]) ?_
  have e : combV fs ms = combR (0, []) ((ms.zip fs).drop 0) := by simp [combV, h]
  rw [e]
  exact comb_loop fs ms h hl hk fs.length 0 0 [] (by omega) (by simp [keysM])
 ·refine iteT (by simp; omega) ?_
  simp [combV, h, combN]
end Go.Pl

namespace Go.Pl
open Go.RowKit
open Enc (enc dec is)
open EncL (encL decL isL)
set_option maxRecDepth 100000
def ic_cutn : IC := (.seq (.reg [⟨(some 4), (.alloc (.agg [(.int .i64 0), (.sl 0 true [])])), 0, none⟩, ⟨(some 5), (.mv (.c (.int .i64 0))), 1, none⟩] none) (.seq (.seq (.reg [⟨(some 18), (.mv (.t 0)), 0, none⟩, ⟨(some 19), (.call (.c (.fn 28)) [(.t 18)]), 0, none⟩, ⟨(some 20), (.un .not (.t 19)), 2, none⟩] none) (.cond (.t 20) (.seq (.reg [⟨(some 21), (.build [(.int .i64 0), (.sl 0 true [])] []), 0, none⟩, ⟨none, (.store 2 (.t 4) (.t 21)), 0, none⟩, ⟨(some 5), (.mv (.c (.int .i64 1))), 0, none⟩] none) .ret) .skip)) (.seq (.reg [⟨(some 23), (.mv (.t 0)), 0, none⟩, ⟨(some 24), (.mv (.t 1)), 0, none⟩, ⟨(some 25), (.call (.c (.fn 68)) [(.t 23), (.t 24)]), 0, none⟩, ⟨(some 22), (.mv (.t 25)), 2, none⟩, ⟨(some 26), (.extract (.t 22) 0), 2, none⟩, ⟨(some 27), (.extract (.t 22) 1), 2, none⟩, ⟨(some 28), (.extract (.t 22) 2), 2, none⟩, ⟨(some 6), (.mv (.t 26)), 2, none⟩, ⟨(some 7), (.mv (.t 27)), 2, none⟩, ⟨(some 8), (.mv (.t 28)), 2, none⟩] none) (.seq (.seq (.reg [⟨(some 29), (.mv (.t 8)), 0, none⟩, ⟨(some 30), (.un .not (.t 29)), 0, none⟩, ⟨(some 31), (.mv (.t 30)), 0, none⟩, ⟨(some 32), (.mv (.t 7)), 0, (some (31, false))⟩, ⟨(some 33), (.len 2 (.t 32)), 0, (some (31, false))⟩, ⟨(some 34), (.bin .num .eql (.t 33) (.c (.int .i64 0))), 0, (some (31, false))⟩, ⟨(some 35), (.pick (.t 31) (.c (.bool true)) (.t 34)), 0, none⟩] none) (.cond (.t 35) (.seq (.reg [⟨(some 36), (.build [(.int .i64 0), (.sl 0 true [])] []), 0, none⟩, ⟨none, (.store 2 (.t 4) (.t 36)), 0, none⟩, ⟨(some 5), (.mv (.c (.int .i64 18))), 0, none⟩] none) .ret) .skip)) (.seq (.reg [⟨(some 9), (.mv (.c (.sl 0 true []))), 0, none⟩] none) (.seq (.reg [⟨(some 10), (.mv (.c (.sl 0 true []))), 0, none⟩] none) (.seq (.ext 0 [7, 37, 38, 39, 40, 41, 42, 43, 9, 11, 45, 44, 46, 10, 12, 49, 48, 50, 47, 51, 4, 6]) (.seq (.reg [⟨(some 53), (.mv (.t 10)), 0, none⟩, ⟨(some 54), (.call (.c (.fn 69)) [(.t 53)]), 0, none⟩, ⟨(some 52), (.mv (.t 54)), 2, none⟩, ⟨(some 55), (.extract (.t 52) 0), 2, none⟩, ⟨(some 56), (.extract (.t 52) 1), 2, none⟩, ⟨(some 13), (.mv (.t 55)), 2, none⟩, ⟨(some 14), (.mv (.t 56)), 2, none⟩] none) (.seq (.seq (.reg [⟨(some 57), (.mv (.t 14)), 0, none⟩, ⟨(some 58), (.bin .num .neq (.t 57) (.c (.int .i64 0))), 0, none⟩] none) (.cond (.t 58) (.seq (.reg [⟨(some 59), (.build [(.int .i64 0), (.sl 0 true [])] []), 0, none⟩, ⟨none, (.store 2 (.t 4) (.t 59)), 0, none⟩, ⟨(some 5), (.mv (.c (.int .i64 3))), 0, none⟩] none) .ret) .skip)) (.seq (.reg [⟨(some 15), (.alloc (.agg [(.int .i64 0), (.sl 0 true [])])), 0, none⟩] none) (.seq (.reg [⟨(some 61), (.mv (.t 6)), 0, none⟩, ⟨(some 62), (.mv (.t 13)), 0, none⟩, ⟨(some 63), (.call (.c (.fn 70)) [(.t 61), (.t 62)]), 0, none⟩, ⟨(some 60), (.mv (.t 63)), 2, none⟩, ⟨(some 64), (.extract (.t 60) 0), 2, none⟩, ⟨(some 65), (.extract (.t 60) 1), 2, none⟩, ⟨(some 66), (.faddr 0 (.t 15)), 2, none⟩, ⟨none, (.store 1 (.t 66) (.t 64)), 2, none⟩] none) (.seq (.reg [⟨(some 67), (.mv (.t 9)), 0, none⟩, ⟨(some 68), (.call (.c (.fn 71)) [(.t 67)]), 0, none⟩] none) (.seq (.seq (.reg [⟨(some 69), (.mv (.t 9)), 0, none⟩, ⟨(some 70), (.len 1 (.t 69)), 0, none⟩, ⟨(some 71), (.mv (.c (.int .i64 0))), 0, none⟩] none) (.block 2 (.loop [71, 70, 69, 15, 7, 13, 4] (.seq (.reg [⟨(some 72), (.bin .num .lss (.t 71) (.t 70)), 0, none⟩] none) (.seq (.cond (.t 72) .skip (.exit 2)) (.seq (.block 3 (.seq (.reg [⟨(some 73), (.iaddr 1 (.t 69) (.t 71)), 0, none⟩, ⟨(some 74), (.load false [.str] (.t 73)), 0, none⟩, ⟨(some 17), (.mv (.t 74)), 0, none⟩] none) (.reg [⟨(some 75), (.faddr 1 (.t 15)), 0, none⟩, ⟨(some 76), (.load false [(.sl 2)] (.t 75)), 0, none⟩, ⟨(some 77), (.mv (.t 17)), 0, none⟩, ⟨(some 78), (.mv (.t 7)), 0, none⟩, ⟨(some 79), (.mv (.t 17)), 0, none⟩, ⟨(some 80), (.lookup true (.int .i64) (.int .i64 0) false (.t 78) (.t 79)), 0, none⟩, ⟨(some 81), (.mv (.t 13)), 0, none⟩, ⟨(some 82), (.bin .num .quo (.t 80) (.t 81)), 0, none⟩, ⟨(some 83), (.build [(.str []), (.int .i64 0)] [(0, (1, (.t 77))), (1, (1, (.t 82)))]), 0, none⟩, ⟨(some 84), (.bslice 87 2 1 (.agg [(.str []), (.int .i64 0)]) [(0, (.t 83))]), 0, none⟩, ⟨(some 85), (.append 87 2 24 (.t 76) (.t 84)), 1, none⟩, ⟨(some 86), (.faddr 1 (.t 15)), 2, none⟩, ⟨none, (.store 1 (.t 86) (.t 85)), 2, none⟩] (some [[], [0], [], [], [], [3, 4], [], [5, 6, 3, 4], [2, 7, 5, 6, 3, 4], [8, 2, 7, 5, 6, 3, 4], [1, 9, 0, 8, 2, 7, 5, 6, 3, 4], [0, 1, 2, 3, 4, 5, 6, 7, 8, 9, 10], [11, 10, 0, 1, 2, 3, 4, 5, 6, 7, 8, 9]])))) (.reg [⟨(some 87), (.bin .num .add (.t 71) (.c (.int .i64 1))), 0, none⟩, ⟨(some 71), (.mv (.t 87)), 0, none⟩] none))))))) (.seq (.seq (.reg [⟨(some 88), (.load true [(.int .i64), (.sl 2)] (.t 15)), 0, none⟩, ⟨(some 89), (.call (.c (.fn 67)) [(.t 88)]), 0, none⟩, ⟨(some 90), (.un .not (.t 89)), 2, none⟩] none) (.cond (.t 90) (.seq (.reg [⟨(some 91), (.build [(.int .i64 0), (.sl 0 true [])] []), 0, none⟩, ⟨none, (.store 2 (.t 4) (.t 91)), 0, none⟩, ⟨(some 5), (.mv (.c (.int .i64 3))), 0, none⟩] none) .ret) .skip)) (.seq (.reg [⟨(some 92), (.load true [(.int .i64), (.sl 2)] (.t 15)), 0, none⟩, ⟨none, (.store 2 (.t 4) (.t 92)), 0, none⟩, ⟨(some 5), (.mv (.c (.int .i64 0))), 0, none⟩] none) .ret)))))))))))))))
def rs_cutn : List IRes := [(.cell true 2 4), (.tmp 5)]
def T_cutn : Tab := tab [(28, .pure (preT (fun x : List Fact × Unit => factsSm x.1)) (valT (fun x : List Fact × Unit => valid7 x.1))), (68, .own pre_combN val_combN)]
theorem cutn_s {G : PV -> Prop} (E : ExtE) (fs : List Fact) (ms : List Int) (h : (Go.Pl.preT (fun (x : List Fact × Unit) => factsSm x.1) [(.sl 3 false (List.map enc fs))]) = true ∧ (∃ y0 : Bool, AV.pv (valT (fun (x : List Fact × Unit) => valid7 x.1) [(.sl 3 false (List.map enc fs))]) = AV.pv (enc y0) ∧ (if (!y0) = true then G ((.tup [(.agg [(.int .i64 0), (.sl 0 true [])]), (.int .i64 1)])) else ((pre_combN [(.pv (.sl 3 false (List.map enc fs))), (.pv (.sl 1 false (List.map enc ms)))] []) = true ∧ (G ((.tup [(.agg [(.int .i64 0), (.sl 0 true [])]), (.int .i64 18)]))))))) : GetsX T_cutn E 0 (endP' rs_cutn G) (.inl ic_cutn) [] (st0 93 [enc fs, enc ms]) := GetsX.mp (.req (.abs (Bool) (fun YY => AV.pv (enc YY)) (.ask (.nil) (.req (.keep (.lit (.lit (.lit (.lit (.lit (.nil))))))))))) h (by kernel_rfl)
def ic_cutra : IC := (.reg [⟨(some 44), (.mv (.t 9)), 0, none⟩, ⟨(some 45), (.mv (.t 11)), 0, none⟩, ⟨(some 46), (.bslice 9 1 1 (.str []) [(0, (.t 45))]), 0, none⟩, ⟨(some 47), (.append 9 1 16 (.t 44) (.t 46)), 1, none⟩, ⟨(some 48), (.mv (.t 10)), 2, none⟩, ⟨(some 49), (.mv (.t 12)), 2, none⟩, ⟨(some 50), (.bslice 3 1 1 (.int .i64 0) [(0, (.t 49))]), 2, none⟩, ⟨(some 51), (.append 3 1 8 (.t 48) (.t 50)), 3, none⟩, ⟨(some 9), (.mv (.t 47)), 4, none⟩, ⟨(some 10), (.mv (.t 51)), 4, none⟩] none)
def rs_cutra : List IRes := []
def T_cutra : Tab := tab [(28, .pure (preT (fun x : List Fact × Unit => factsSm x.1)) (valT (fun x : List Fact × Unit => valid7 x.1))), (68, .own pre_combY val_combY), (69, .pure (preT (fun x : List Int × Unit => decide (x.1.length <= 10000) && x.1.all inR)) (valT (fun x : List Int × Unit => gcdsP x.1))), (70, .pure (preT (fun _ : Int × Int × Unit => true)) (valT (fun x : Int × Int × Unit => divI x.1 x.2.1))), (71, .own pre_sorts val_sorts), (67, .pure (preT (fun x : Lin × Unit => linSm x.1)) (valT (fun x : Lin × Unit => validL x.1)))]
theorem cutra_r0 {G : AV × List AObj × List AObj -> Prop} (E : ExtE) (n : Int) (s : List UInt8) (c : Int)  (h : E 99 ⟨envJ 93 0 [(4, (.ptr 0 0)), (6, (.pv (.int .i64 n))), (7, (.map 1)), (9, (.row 3 1 0 1)), (10, (.row 4 1 0 1)), (37, (.map 1)), (38, (.ptr 2 0))], [(.obj (.box [(.pv (.int .i64 0)), (.pv (.sl 0 true []))])), .dead, .dead, (.obj (.row false 9 1 [(.str s)])), (.obj (.row false 3 1 [(.int .i64 c)]))]⟩ (fun x S' => AfX T_cutra E 3 (endO' 3 rs_cutra G) ic_cutra 99 x S')) : GetsX T_cutra E 3 (endO' 3 rs_cutra G) (.inl ic_cutra) [.blk 1, .seq (.ext 99 [4, 6, 7, 9, 10, 37, 38])] ⟨envJ 93 0 [(4, .ptr 0 0), (6, .pv (.int .i64 n)), (7, .map 1), (9, .pv (.sl 0 true [])), (10, .pv (.sl 0 true [])), (11, .pv (.str s)), (12, .pv (.int .i64 c)), (37, .map 1), (38, .ptr 2 0), (41, .pv (.tup [.str s, .int .i64 c])), (42, .pv (.str s)), (43, .pv (.int .i64 c))], [.obj (.box [.pv (.int .i64 0), .pv (.sl 0 true [])]), .dead, .dead]⟩ := GetsX.mo (.lit (.lit (.lit (.lit (.lit (.lit (.lit (.lit (.lit (.lit (.nil))))))))))) h (by kernel_rfl)
theorem cutrb_r0 {G : AV × List AObj × List AObj -> Prop} (E : ExtE) (n : Int) (s : List UInt8) (c : Int) (l : Nat) (xs : List (List UInt8)) (ys : List Int)  (h : (List.length (List.map PV.str xs) == l && l == l && decide ((l + List.length (List.drop 0 (List.take 1 [PV.str s]))) * 16 <= 1099511627776) && decide (l + List.length (List.drop 0 (List.take 1 [PV.str s])) <= 1099511627776)) = true ∧ ((List.length (List.map enc ys) == l && l == l && decide ((l + List.length (List.drop 0 (List.take 1 [PV.int .i64 c]))) * 8 <= 1099511627776) && decide (l + List.length (List.drop 0 (List.take 1 [PV.int .i64 c])) <= 1099511627776)) = true ∧ (E 99 ⟨envJ 93 0 [(4, (.ptr 0 0)), (6, (.pv (.int .i64 n))), (7, (.map 1)), (9, (.row 3 (l + List.length (List.drop 0 (List.take 1 [PV.str s]))) 0 (l + List.length (List.drop 0 (List.take 1 [PV.str s]))))), (10, (.row 4 (l + List.length (List.drop 0 (List.take 1 [PV.int .i64 c]))) 0 (l + List.length (List.drop 0 (List.take 1 [PV.int .i64 c]))))), (37, (.map 1)), (38, (.ptr 2 0))], [(.obj (.box [(.pv (.int .i64 0)), (.pv (.sl 0 true []))])), .dead, .dead, (.obj (.row false 9 1 (List.map PV.str xs ++ List.drop 0 (List.take 1 [PV.str s])))), (.obj (.row false 3 1 (List.map enc ys ++ List.drop 0 (List.take 1 [PV.int .i64 c]))))]⟩ (fun x S' => AfX T_cutra E 5 (endO' 5 rs_cutra G) ic_cutra 99 x S')))) : GetsX T_cutra E 5 (endO' 5 rs_cutra G) (.inl ic_cutra) [.blk 1, .seq (.ext 99 [4, 6, 7, 9, 10, 37, 38])] ⟨envJ 93 0 [(4, .ptr 0 0), (6, .pv (.int .i64 n)), (7, .map 1), (9, .row 3 l 0 l), (10, .row 4 l 0 l), (11, .pv (.str s)), (12, .pv (.int .i64 c)), (37, .map 1), (38, .ptr 2 0), (41, .pv (.tup [.str s, .int .i64 c])), (42, .pv (.str s)), (43, .pv (.int .i64 c))], [.obj (.box [.pv (.int .i64 0), .pv (.sl 0 true [])]), .dead, .dead, .obj (.row false 9 1 (xs.map .str)), .obj (.row false 3 1 (ys.map enc))]⟩ := GetsX.mo (.lit (.lit (.req (.lit (.lit (.req (.nil))))))) h (by kernel_rfl)
def ic_cuty : IC := ic_cutn
def rs_cuty : List IRes := [(.cell true 2 4), (.tmp 5)]
def T_cuty : Tab := tab [(28, .pure (preT (fun x : List Fact × Unit => factsSm x.1)) (valT (fun x : List Fact × Unit => valid7 x.1))), (68, .own pre_combY val_combY), (69, .pure (preT (fun x : List Int × Unit => decide (x.1.length <= 10000) && x.1.all inR)) (valT (fun x : List Int × Unit => gcdsP x.1))), (70, .pure (preT (fun _ : Int × Int × Unit => true)) (valT (fun x : Int × Int × Unit => divI x.1 x.2.1))), (71, .own pre_sorts val_sorts), (67, .pure (preT (fun x : Lin × Unit => linSm x.1)) (valT (fun x : Lin × Unit => validL x.1)))]
theorem cuty_s {G : PV -> Prop} (E : ExtE) (fs : List Fact) (ms : List Int) (h : (Go.Pl.preT (fun (x : List Fact × Unit) => factsSm x.1) [(.sl 3 false (List.map enc fs))]) = true ∧ (∃ y0 : Bool, AV.pv (valT (fun (x : List Fact × Unit) => valid7 x.1) [(.sl 3 false (List.map enc fs))]) = AV.pv (enc y0) ∧ (if (!y0) = true then G ((.tup [(.agg [(.int .i64 0), (.sl 0 true [])]), (.int .i64 1)])) else ((pre_combY [(.pv (.sl 3 false (List.map enc fs))), (.pv (.sl 1 false (List.map enc ms)))] []) = true ∧ (if ((↑(List.length (mapP (nzM (Prod.snd (combF (enc fs) (enc ms)))))) : Int) == 0) = true then G ((.tup [(.agg [(.int .i64 0), (.sl 0 true [])]), (.int .i64 18)])) else (E 0 ⟨envJ 93 0 [(4, (.ptr 0 0)), (6, (.pv (.int .i64 (Prod.fst (combF (enc fs) (enc ms)))))), (7, (.map 1)), (9, (.pv (.sl 0 true []))), (10, (.pv (.sl 0 true []))), (11, .undef), (12, .undef), (37, .undef), (38, .undef), (39, .undef), (40, .undef), (41, .undef), (42, .undef), (43, .undef), (44, .undef), (45, .undef), (46, .undef), (47, .undef), (48, .undef), (49, .undef), (50, .undef), (51, .undef)], [(.obj (.box [(.pv (.int .i64 0)), (.pv (.sl 0 true []))])), (.obj (.map (mapP (nzM (Prod.snd (combF (enc fs) (enc ms)))))))]⟩ (fun x S' => AfX T_cuty E 0 (endP' rs_cuty G) ic_cuty 0 x S'))))))) : GetsX T_cuty E 0 (endP' rs_cuty G) (.inl ic_cuty) [] (st0 93 [enc fs, enc ms]) := GetsX.mp (.req (.abs (Bool) (fun YY => AV.pv (enc YY)) (.ask (.nil) (.req (.keep (.lit (.lit (.lit (.lit (.lit (.ask (.nil) (.nil)))))))))))) h (by kernel_rfl)
theorem cuty_h0a {G : PV -> Prop} (E : ExtE) (fs : List Fact) (ms : List Int) (g k : Int) (m : List (Str × Int)) (l : Nat) (xs : List (List UInt8)) (i : Int) (h : if (decide (i < (↑l : Int))) = true then (decide (0 <= i) && decide (0 + Int.toNat i < l) && List.length (List.map PV.str xs) == l) = true ∧ ((List.length (List.map PV.str xs) == l && decide (0 + Int.toNat i < List.length (List.map PV.str xs))) = true ∧ ((decide (0 + List.length [Sh.str] <= List.length (PV.cells (List.getD (List.map PV.str xs) (0 + Int.toNat i) default))) && shFit (PV.cells (List.getD (List.map PV.str xs) (0 + Int.toNat i) default)) 0 [Sh.str]) = true ∧ ((lookOK (Sh.co Sh.str (List.getD (PV.cells (List.getD (List.map PV.str xs) (0 + Int.toNat i) default)) 0 default)) (mapP m) && Sh.fit (Sh.int .i64) (lookD (Sh.co Sh.str (List.getD (PV.cells (List.getD (List.map PV.str xs) (0 + Int.toNat i) default)) 0 default)) (PV.int .i64 0) (mapP m))) = true ∧ ((g != 0) = true ∧ (AtM T_cuty E 0 (endP' rs_cuty G) ic_cuty 0 93 [(4, (.ptr 0 0)), (7, (.map 1)), (13, (.pv (.int .i64 g))), (15, (.ptr 2 0)), (69, (.row 3 l 0 l)), (70, (.pv (.int .i64 (↑l : Int)))), (71, (.pv (.int .i64 (IntKind.wrap IntKind.i64 (i + 1)))))] [(.obj (.box [(.pv (.int .i64 0)), (.pv (.sl 0 true []))])), (.obj (.map (mapP m))), (.obj (.box [(.pv (.int .i64 k)), (.row 4 1 0 1)])), (.obj (.row false 9 1 (List.map PV.str xs))), (.obj (.row false 87 2 [(.agg [(.str (PV.asStr (List.getD (PV.cells (List.getD (List.map PV.str xs) (0 + Int.toNat i) default)) 0 default))), (.int .i64 (IntKind.wrap IntKind.i64 (Int.tdiv (PV.asInt (lookD (Sh.co Sh.str (List.getD (PV.cells (List.getD (List.map PV.str xs) (0 + Int.toNat i) default)) 0 default)) (PV.int .i64 0) (mapP m))) g)))])]))]))))) else (∃ y0 : Bool, AV.pv (valT (fun (x : Lin × Unit) => validL x.1) [(.agg [(.int .i64 k), (.sl 0 true [])])]) = AV.pv (enc y0) ∧ (if (!y0) = true then G ((.tup [(.agg [(.int .i64 0), (.sl 0 true [])]), (.int .i64 3)])) else (G ((.tup [(.agg [(.int .i64 k), (.sl 0 true [])]), (.int .i64 0)])))))) : AtM T_cuty E 0 (endP' rs_cuty G) ic_cuty 0 93 [(4, .ptr 0 0), (7, .map 1), (13, .pv (.int .i64 g)), (15, .ptr 2 0), (69, .row 3 l 0 l), (70, .pv (.int .i64 l)), (71, .pv (.int .i64 i))] [.obj (.box [.pv (.int .i64 0), .pv (.sl 0 true [])]), .obj (.map (mapP m)), .obj (.box [.pv (.int .i64 k), .pv (.sl 0 true [])]), .obj (.row false 9 1 (xs.map .str))] := GetsX.mp (.lit (.ask (.req (.keep (.req (.req (.req (.keep (.req (.lit (.lit (.lit (.lit (.lit (.lit (.nil)))))))))))))) (.lit (.abs (Bool) (fun YY => AV.pv (enc YY)) (.ask (.nil) (.nil)))))) h (by kernel_rfl)
theorem cuty_h0b {G : PV -> Prop} (E : ExtE) (fs : List Fact) (ms : List Int) (g k : Int) (m : List (Str × Int)) (l : Nat) (xs : List (List UInt8)) (i : Int) (q : Nat) (ts : List Coef) (h : if (decide (i < (↑l : Int))) = true then (decide (0 <= i) && decide (0 + Int.toNat i < l) && List.length (List.map PV.str xs) == l) = true ∧ ((List.length (List.map PV.str xs) == l && decide (0 + Int.toNat i < List.length (List.map PV.str xs))) = true ∧ ((decide (0 + List.length [Sh.str] <= List.length (PV.cells (List.getD (List.map PV.str xs) (0 + Int.toNat i) default))) && shFit (PV.cells (List.getD (List.map PV.str xs) (0 + Int.toNat i) default)) 0 [Sh.str]) = true ∧ ((lookOK (Sh.co Sh.str (List.getD (PV.cells (List.getD (List.map PV.str xs) (0 + Int.toNat i) default)) 0 default)) (mapP m) && Sh.fit (Sh.int .i64) (lookD (Sh.co Sh.str (List.getD (PV.cells (List.getD (List.map PV.str xs) (0 + Int.toNat i) default)) 0 default)) (PV.int .i64 0) (mapP m))) = true ∧ ((g != 0) = true ∧ ((List.length (List.map enc ts) == q && q == q && decide ((q + List.length (List.drop 0 (List.take 1 [PV.agg [Sh.co Sh.str (List.getD (PV.cells (List.getD (List.map PV.str xs) (0 + Int.toNat i) default)) 0 default), PV.int .i64 (IntKind.wrap IntKind.i64 (Int.tdiv (PV.asInt (lookD (Sh.co Sh.str (List.getD (PV.cells (List.getD (List.map PV.str xs) (0 + Int.toNat i) default)) 0 default)) (PV.int .i64 0) (mapP m))) g))]]))) * 24 <= 1099511627776) && decide (q + List.length (List.drop 0 (List.take 1 [PV.agg [Sh.co Sh.str (List.getD (PV.cells (List.getD (List.map PV.str xs) (0 + Int.toNat i) default)) 0 default), PV.int .i64 (IntKind.wrap IntKind.i64 (Int.tdiv (PV.asInt (lookD (Sh.co Sh.str (List.getD (PV.cells (List.getD (List.map PV.str xs) (0 + Int.toNat i) default)) 0 default)) (PV.int .i64 0) (mapP m))) g))]])) <= 1099511627776)) = true ∧ (AtM T_cuty E 0 (endP' rs_cuty G) ic_cuty 0 93 [(4, (.ptr 0 0)), (7, (.map 1)), (13, (.pv (.int .i64 g))), (15, (.ptr 2 0)), (69, (.row 3 l 0 l)), (70, (.pv (.int .i64 (↑l : Int)))), (71, (.pv (.int .i64 (IntKind.wrap IntKind.i64 (i + 1)))))] [(.obj (.box [(.pv (.int .i64 0)), (.pv (.sl 0 true []))])), (.obj (.map (mapP m))), (.obj (.box [(.pv (.int .i64 k)), (.row 4 (q + List.length (List.drop 0 (List.take 1 [PV.agg [Sh.co Sh.str (List.getD (PV.cells (List.getD (List.map PV.str xs) (0 + Int.toNat i) default)) 0 default), PV.int .i64 (IntKind.wrap IntKind.i64 (Int.tdiv (PV.asInt (lookD (Sh.co Sh.str (List.getD (PV.cells (List.getD (List.map PV.str xs) (0 + Int.toNat i) default)) 0 default)) (PV.int .i64 0) (mapP m))) g))]]))) 0 (q + List.length (List.drop 0 (List.take 1 [PV.agg [Sh.co Sh.str (List.getD (PV.cells (List.getD (List.map PV.str xs) (0 + Int.toNat i) default)) 0 default), PV.int .i64 (IntKind.wrap IntKind.i64 (Int.tdiv (PV.asInt (lookD (Sh.co Sh.str (List.getD (PV.cells (List.getD (List.map PV.str xs) (0 + Int.toNat i) default)) 0 default)) (PV.int .i64 0) (mapP m))) g))]]))))])), (.obj (.row false 9 1 (List.map PV.str xs))), (.obj (.row false 87 2 (List.map enc ts ++ List.drop 0 (List.take 1 [PV.agg [Sh.co Sh.str (List.getD (PV.cells (List.getD (List.map PV.str xs) (0 + Int.toNat i) default)) 0 default), PV.int .i64 (IntKind.wrap IntKind.i64 (Int.tdiv (PV.asInt (lookD (Sh.co Sh.str (List.getD (PV.cells (List.getD (List.map PV.str xs) (0 + Int.toNat i) default)) 0 default)) (PV.int .i64 0) (mapP m))) g))]]))))])))))) else ((List.length (List.map enc ts) == q) = true ∧ ((Go.Pl.preT (fun (x : Lin × Unit) => linSm x.1) [(.agg [(.int .i64 k), (.sl 2 false (List.drop 0 (List.take q (List.map enc ts))))])]) = true ∧ (∃ y0 : Bool, AV.pv (valT (fun (x : Lin × Unit) => validL x.1) [(.agg [(.int .i64 k), (.sl 2 false (List.drop 0 (List.take q (List.map enc ts))))])]) = AV.pv (enc y0) ∧ (if (!y0) = true then G ((.tup [(.agg [(.int .i64 0), (.sl 0 true [])]), (.int .i64 3)])) else ((List.length (List.map enc ts) == q) = true ∧ (G ((.tup [(.agg [(.int .i64 k), (.sl 2 false (List.drop 0 (List.take q (List.map enc ts))))]), (.int .i64 0)]))))))))) : AtM T_cuty E 0 (endP' rs_cuty G) ic_cuty 0 93 [(4, .ptr 0 0), (7, .map 1), (13, .pv (.int .i64 g)), (15, .ptr 2 0), (69, .row 3 l 0 l), (70, .pv (.int .i64 l)), (71, .pv (.int .i64 i))] [.obj (.box [.pv (.int .i64 0), .pv (.sl 0 true [])]), .obj (.map (mapP m)), .obj (.box [.pv (.int .i64 k), .row 4 q 0 q]), .obj (.row false 9 1 (xs.map .str)), .obj (.row false 87 2 (ts.map enc))] := GetsX.mp (.lit (.ask (.req (.keep (.req (.req (.req (.keep (.req (.lit (.lit (.req (.lit (.nil)))))))))))) (.req (.req (.abs (Bool) (fun YY => AV.pv (enc YY)) (.ask (.nil) (.req (.nil)))))))) h (by kernel_rfl)
theorem cuty_x0b {G : PV -> Prop} (E : ExtE) (fs : List Fact) (ms : List Int) (n : Int) (m : List (Str × Int)) (l : Nat) (xs : List (List UInt8)) (ys : List Int) (h : (List.length (List.map enc ys) == l) = true ∧ ((Go.Pl.preT (fun (x : List Int × Unit) => decide (List.length x.1 <= 10000) && List.all x.1 inR) [(.sl 1 false (List.drop 0 (List.take l (List.map enc ys))))]) = true ∧ (∃ y0 : Int × Int, AV.pv (valT (fun (x : List Int × Unit) => gcdsP x.1) [(.sl 1 false (List.drop 0 (List.take l (List.map enc ys))))]) = AV.pv (enc y0) ∧ (if (y0.2 != 0) = true then G ((.tup [(.agg [(.int .i64 0), (.sl 0 true [])]), (.int .i64 3)])) else (∃ y1 : Int × Int, AV.pv (valT (fun (x : Int × Int × Unit) => divI x.1 x.2.1) [(.int .i64 n), (.int .i64 y0.1)]) = AV.pv (enc y1) ∧ ((pre_sorts [(.row 0 l 0 l)] [(.row false 9 1 (List.map PV.str xs))]) = true ∧ (AtM T_cuty E 0 (endP' rs_cuty G) ic_cuty 0 93 [(4, (.ptr 0 0)), (7, (.map 1)), (13, (.pv (.int .i64 y0.1))), (15, (.ptr 2 0)), (69, (.row 3 l 0 l)), (70, (.pv (.int .i64 (↑(l - 0) : Int)))), (71, (.pv (.int .i64 0)))] [(.obj (.box [(.pv (.int .i64 0)), (.pv (.sl 0 true []))])), (.obj (.map (mapP m))), (.obj (.box [(.pv (.int .i64 y1.1)), (.pv (.sl 0 true []))])), (.obj (.row false 9 1 (List.map PV.str (sortS (List.map strOf (List.map PV.str xs))))))]))))))) : AfX T_cuty E 0 (endP' rs_cuty G) ic_cuty 0 .normal ⟨envJ 93 0 [(4, .ptr 0 0), (6, .pv (.int .i64 n)), (7, .map 1), (9, .row 3 l 0 l), (10, .row 4 l 0 l), (37, .map 1), (38, .ptr 2 0)], [.obj (.box [.pv (.int .i64 0), .pv (.sl 0 true [])]), .obj (.map (mapP m)), .dead, .obj (.row false 9 1 (xs.map .str)), .obj (.row false 3 1 (ys.map enc))]⟩ := GetsX.mp (.req (.req (.abs (Int × Int) (fun YY => AV.pv (enc YY)) (.lit (.ask (.nil) (.lit (.abs (Int × Int) (fun YY => AV.pv (enc YY)) (.req (.keep (.nil)))))))))) h (by kernel_rfl)
end Go.Pl

namespace Go.Pl
open Go.RowKit
open Enc (enc dec is)
open EncL (encL decL isL)
def cutP : MapParts := ⟨[⟨(some 37), (.mv (.t 7)), 0, none⟩], .t 37, 38, 39, 40, 41, 1, [⟨(some 42), (.extract (.t 41) 0), 0, none⟩, ⟨(some 43), (.extract (.t 41) 1), 0, none⟩, ⟨(some 11), (.mv (.t 42)), 0, none⟩, ⟨(some 12), (.mv (.t 43)), 0, none⟩], ic_cutra⟩
def cutE : ExtE := fun nn st q => nn = 0 ∧ MapE T_cuty 0 cutP st q
def kS (vis : List (PV × PV)) : List (List UInt8) := vis.map fun p => strOf p.1
def kI (vis : List (PV × PV)) : List Int := vis.map fun p => p.2.asInt
def cutH : Heap := [.obj (.box [.pv (.int .i64 0), .pv (.sl 0 true [])]), .dead, .dead]
def cutEnv (n : Int) (x y : AV) : List AV := envJ 93 0 [(4, .ptr 0 0), (6, .pv (.int .i64 n)), (7, .map 1), (9, x), (10, y), (37, .map 1), (38, .ptr 2 0)]
def cutI (n : Int) (vis : List (PV × PV)) (s : St) : Prop :=
 (vis = [] ∧ s = ⟨cutEnv n (.pv (.sl 0 true [])) (.pv (.sl 0 true [])), cutH⟩) ∨ (vis ≠ [] ∧ s = ⟨cutEnv n (.row 3 vis.length 0 vis.length) (.row 4 vis.length 0 vis.length), cutH ++ [.obj (.row false 9 1 ((kS vis).map .str)), .obj (.row false 3 1 ((kI vis).map enc))]⟩)
theorem tab_same : T_cutra = T_cuty := rfl
theorem cut_round (n : Int) (vis : List (PV × PV)) (s : List UInt8) (c : Int) (st : St) (hl : vis.length < 1000000) (h : cutI n vis st) :
  ∃ s2, runA T_cuty st.heap.length cutP.psE (grow ⟨((st.env.set 39 .junk).set 40 .junk).set 41 (.pv (.tup [.str s, .int .i64 c])), st.heap⟩ (news cutP.psE)) = some s2 ∧ ∃ F', (∀ x, ¬ F' x) ∧
   GetsX T_cuty (fun n' S' _ => n' = 99 ∧ cutI n (vis ++ [(.str s, .int .i64 c)]) S') st.heap.length F' (.inl ic_cutra) [.blk 1, .seq (.ext 99 [4, 6, 7, 9, 10, 37, 38])] s2 := by
 have hno : ∀ k, ∀ x, ¬ endO' k rs_cutra (fun _ => False) x := by rintro k x ⟨r, _, h⟩; exact h
 have eS : kS (vis ++ [(.str s, .int .i64 c)]) = kS vis ++ [s] := by simp [kS, strOf]
 have eI : kI (vis ++ [(.str s, .int .i64 c)]) = kI vis ++ [c] := by simp [kI, PV.asInt]
 have elen : (vis ++ [((.str s, .int .i64 c) : PV × PV)]).length = vis.length + 1 := by simp
 rw [<- tab_same]
 rcases h with ⟨h1, rfl⟩ | ⟨h1, rfl⟩
 ·refine ⟨_, by kernel_rfl, _, hno 3, cutra_r0 (G := fun _ => False) _ n s c ⟨rfl, .inr ⟨by simp, ?_⟩⟩⟩
  subst h1
  rfl
 ·have e1 : (kS vis).length = vis.length := by simp [kS]
  have e2 : (kI vis).length = vis.length := by simp [kI]
  refine ⟨_, by kernel_rfl, _, hno 5, cutrb_r0 (G := fun _ => False) _ n s c vis.length (kS vis) (kI vis) ⟨by simp [e1]; omega, by simp [e2]; omega, rfl, .inr ⟨by simp, ?_⟩⟩⟩
  rw [eS, eI, elen, List.map_append, List.map_append]
  rfl
theorem drop_take_map {α : Type} [Enc α] (l : List α) : List.drop 0 (List.take l.length (List.map enc l)) = List.map enc l := by rw [List.drop_zero, List.take_of_length_le (by simp)]
theorem cut_end (k : Int) (ts : List Coef) (H : Lin × Int) (hs : ts.all (fun t => decide (t.v.s.length <= 1000000)) = true) (hl : ts.length <= 1000000) (hH : H = if validL ⟨k, ts⟩ then (⟨k, ts⟩, 0) else (⟨0, []⟩, 3)) (q : Nat) (hq : q = ts.length) :
  List.length (List.map (enc : Coef -> PV) ts) = q ∧ preT (fun (x : Lin × Unit) => linSm (Prod.fst x)) [.agg [.int .i64 k, .sl 2 false (List.drop 0 (List.take q (List.map enc ts)))]] = true ∧
  ∃ y : Bool, AV.pv (valT (fun (x : Lin × Unit) => validL (Prod.fst x)) [.agg [.int .i64 k, .sl 2 false (List.drop 0 (List.take q (List.map enc ts)))]]) = AV.pv (enc y) ∧ (y = false -> Fits H (.tup [.agg [.int .i64 0, .sl 0 true []], .int .i64 3])) ∧ (y = true -> Fits H (.tup [.agg [.int .i64 k, .sl 2 false (List.drop 0 (List.take q (List.map enc ts)))], .int .i64 0])) := by
 subst hq
 rw [drop_take_map]
 refine ⟨by simp, pre_enc (⟨k, ts⟩, ()) rfl (by simp [linSm, linOk]; exact ⟨by omega, by simpa using hs⟩), ex_enc (⟨k, ts⟩, ()) rfl ⟨fun h => ?_, fun h => ?_⟩⟩
 ·have h : validL ⟨k, ts⟩ = false := h
  rw [hH, if_neg (by rw [h]; simp)]
  exact ⟨rfl, rfl⟩
 ·have h : validL ⟨k, ts⟩ = true := h
  rw [hH, if_pos h]
  exact fits_of (x := ((⟨k, ts⟩ : Lin), (0 : Int))) rfl
theorem cutT_take (m : List (Str × Int)) (g : Int) (xs : List (List UInt8)) (i : Nat) (h : i < xs.length) : cutT m g (xs.take (i + 1)) = cutT m g (xs.take i) ++ [⟨⟨xs[i]⟩, w64 ((atM m xs[i]).tdiv g)⟩] := by
 unfold cutT
 rw [List.take_add_one, List.getElem?_eq_getElem h, List.map_append]
 rfl
theorem str_z {xs : List (List UInt8)} {i : Nat} (h : i < xs.length) : List.getD (List.map PV.str xs) (0 + Int.toNat (i : Int)) default = .str xs[i] := by simp [List.getD, h]
theorem cut_loop (fs : List Fact) (ms : List Int) (g k : Int) (m : List (Str × Int)) (xs : List (List UInt8)) (hg : g ≠ 0) (hx : xs.length <= 100000) (hsx : ∀ x ∈ xs, x.length <= 1000000) (H : Lin × Int) (hH : H = if validL ⟨k, cutT m g xs⟩ then (⟨k, cutT m g xs⟩, 0) else (⟨0, []⟩, 3)) :
  ∀ (j i : Nat), j + i = xs.length -> 0 < i -> AtM T_cuty cutE 0 (endP' rs_cuty (Fits H)) ic_cuty 0 93 [(4, .ptr 0 0), (7, .map 1), (13, .pv (.int .i64 g)), (15, .ptr 2 0), (69, .row 3 xs.length 0 xs.length), (70, .pv (.int .i64 xs.length)), (71, .pv (.int .i64 i))]
   [.obj (.box [.pv (.int .i64 0), .pv (.sl 0 true [])]), .obj (.map (mapP m)), .obj (.box [.pv (.int .i64 k), .row 4 i 0 i]), .obj (.row false 9 1 (xs.map .str)), .obj (.row false 87 2 ((cutT m g (xs.take i)).map enc))] := by
 intro j
 induction j with
 | zero =>
  intro i hi h0
  refine cuty_h0b cutE fs ms g k m xs.length xs i i (cutT m g (xs.take i)) (iteF (lt_no' (by omega)) ?_)
  have ei : xs.take i = xs := List.take_of_length_le (by omega)
  rw [ei]
  have hall : (cutT m g xs).all (fun t => decide (t.v.s.length <= 1000000)) = true := by
   rw [List.all_eq_true]
   intro t ht
   simp only [cutT, List.mem_map] at ht
   obtain ⟨v, hv, rfl⟩ := ht
   simpa using hsx v hv
  obtain ⟨c1, c2, y, c3, c4, c5⟩ := cut_end k (cutT m g xs) H hall (by simp [cutT]; omega) hH i (by simp [cutT]; omega)
  exact ⟨beq_iff_eq.2 c1, c2, y, c3, iteN c4 fun h => ⟨beq_iff_eq.2 c1, c5 h⟩⟩
 | succ j ih =>
  intro i hi h0
  have hlt : i < xs.length := by omega
  refine cuty_h0b cutE fs ms g k m xs.length xs i i (cutT m g (xs.take i)) (iteT (lt_ok' hlt) ?_)
  simp only [str_z hlt]
  have ec : Sh.co Sh.str (List.getD (PV.cells (.str xs[i])) 0 default) = .str xs[i] := rfl
  simp only [ec, lookD_map]
  refine ⟨by simp; omega, by simp; omega, rfl, by rw [lookOK_map]; rfl, by simpa using hg, by simp [cutT]; omega, ?_⟩
  have h := ih (i + 1) (by omega) (by omega)
  rw [cutT_take m g xs i hlt, List.map_append] at h
  rw [next (by omega)]
  exact h
theorem cut_first (fs : List Fact) (ms : List Int) (g k : Int) (m : List (Str × Int)) (xs : List (List UInt8)) (hg : g ≠ 0) (hx : xs.length <= 100000) (h0 : 0 < xs.length) (hsx : ∀ x ∈ xs, x.length <= 1000000) (H : Lin × Int) (hH : H = if validL ⟨k, cutT m g xs⟩ then (⟨k, cutT m g xs⟩, 0) else (⟨0, []⟩, 3)) :
  AtM T_cuty cutE 0 (endP' rs_cuty (Fits H)) ic_cuty 0 93 [(4, .ptr 0 0), (7, .map 1), (13, .pv (.int .i64 g)), (15, .ptr 2 0), (69, .row 3 xs.length 0 xs.length), (70, .pv (.int .i64 xs.length)), (71, .pv (.int .i64 0))]
   [.obj (.box [.pv (.int .i64 0), .pv (.sl 0 true [])]), .obj (.map (mapP m)), .obj (.box [.pv (.int .i64 k), .pv (.sl 0 true [])]), .obj (.row false 9 1 (xs.map .str))] := by
 refine cuty_h0a cutE fs ms g k m xs.length xs 0 (iteT (by simp; omega) ?_)
 have hz : List.getD (List.map PV.str xs) (0 + Int.toNat 0) default = .str xs[0] := by simp [List.getD, h0]
 simp only [hz]
 have ec : Sh.co Sh.str (List.getD (PV.cells (.str xs[0])) 0 default) = .str xs[0] := rfl
 simp only [ec, lookD_map]
 refine ⟨by simp; omega, by simp; omega, rfl, by rw [lookOK_map]; rfl, by simpa using hg, ?_⟩
 have h := cut_loop fs ms g k m xs hg hx hsx H hH (xs.length - 1) 1 (by omega) (by omega)
 have et : cutT m g (xs.take 1) = [⟨⟨xs[0]⟩, w64 ((atM m xs[0]).tdiv g)⟩] := by
  have := cutT_take m g xs 0 h0
  simpa [cutT] using this
 rw [et] at h
 exact h
theorem hgne {m : List (Str × Int)} (hz : ∀ p ∈ m, p.2 ≠ 0) (hm : m ≠ []) : gcdsI (valsM m) ≠ 0 := by
 cases m with
 | nil => exact absurd rfl hm
 | cons p m => exact gcds_ne ⟨p.2, by simp [valsM], hz p (by simp)⟩
theorem cuty_run (fs : List Fact) (ms : List Int) (hf : factsSm fs = true) (hc : okC fs ms = true) (hb : valid7 fs = true -> (nzM (cfold fs ms).2).length <= 10000 ∧ (valsM (nzM (cfold fs ms).2)).all inR = true ∧ ∀ x ∈ keysM (nzM (cfold fs ms).2), x.length <= 1000000) :
  GetsM T_cuty cutE 0 (endP' rs_cuty (Fits (cutL fs ms))) ic_cuty [] (st0 93 [enc fs, enc ms]) := by
 refine cuty_s cutE fs ms ⟨pre_enc (fs, ()) rfl hf, ex_enc (fs, ()) rfl (iteN (fun hv => ?_) fun hv => ?_)⟩
 ·have hv : valid7 fs = false := hv
  have : cutL fs ms = (⟨0, []⟩, 1) := by simp [cutL, hv]
  rw [this]
  exact ⟨rfl, rfl⟩
 have hv : valid7 fs = true := hv
 obtain ⟨b1, b2, b3⟩ := hb hv
 have hcut : cutL fs ms = cutM (cfold fs ms).1 (nzM (cfold fs ms).2) := by simp [cutL, hv, hc]
 rw [hcut]
 have hcf : combF (enc fs) (enc ms) = cfold fs ms := by unfold combF; rw [Enc.dec_enc, Enc.dec_enc]
 refine ⟨?_, ?_⟩
 ·show pre_combF true (enc fs) (enc ms) = true
  simp only [factsSm, Bool.and_eq_true, decide_eq_true_eq, List.all_eq_true] at hf
  have h2 : fs.all (fun f => linOk f.l) = true := by
   rw [List.all_eq_true]
   intro f hfm
   have := hf.2 f hfm
   simp only [linSm, Bool.and_eq_true] at this
   exact this.1
  simp only [pre_combF, can_enc, Enc.dec_enc, hc, h2, decide_eq_true hf.1]
  rfl
 simp only [hcf]
 have hz0 : ∀ p ∈ nzM (cfold fs ms).2, p.2 ≠ 0 := fun p hp => by simpa using (List.mem_filter.1 hp).2
 generalize (cfold fs ms).1 = n
 generalize nzM (cfold fs ms).2 = m at b1 b2 b3 hz0 ⊢
 by_cases hm : m = []
 ·subst hm
  refine iteT rfl ?_
  exact ⟨rfl, rfl⟩
 refine iteF (by simp [mapP, hm]) ?_
 have elen : ∀ x y, (cutEnv n x y).length = 93 := fun x y => rfl
 refine ⟨rfl, ⟨(envJ 93 0 [(4, .ptr 0 0), (6, .pv (.int .i64 n)), (7, .map 1), (9, .pv (.sl 0 true [])), (10, .pv (.sl 0 true [])), (11, .undef), (12, .undef), (37, .undef), (38, .undef), (39, .undef), (40, .undef), (41, .undef), (42, .undef), (43, .undef), (44, .undef), (45, .undef), (46, .undef), (47, .undef), (48, .undef), (49, .undef), (50, .undef), (51, .undef)]).set 37 (.map 1),
   [.obj (.box [.pv (.int .i64 0), .pv (.sl 0 true [])]), .obj (.map (mapP m))]⟩, ⟨cutEnv n (.pv (.sl 0 true [])) (.pv (.sl 0 true [])), cutH⟩, 1, 2, 37, 1, mapP m, [4, 6, 7, 9, 10, 37, 38], [4, 6, 7, 9, 10, 37, 38], cutI n, by kernel_rfl, rfl, rfl, by kernel_rfl, rfl, by decide, rfl, .inl ⟨rfl, rfl⟩, ?_, ?_, ?_⟩
 ·intro vis s h
  rcases h with ⟨_, rfl⟩ | ⟨_, rfl⟩
  ·exact ⟨⟨rfl, by show 39 < _; rw [elen]; omega, by show 40 < _; rw [elen]; omega, by show 41 < _; rw [elen]; omega⟩, rfl⟩
  ·exact ⟨⟨rfl, by show 39 < _; rw [elen]; omega, by show 40 < _; rw [elen]; omega, by show 41 < _; rw [elen]; omega⟩, rfl⟩
 ·intro vis kv s rest hp hI
  have hin : kv ∈ mapP m := hp.mem_iff.2 (by simp)
  obtain ⟨p, _, rfl⟩ := List.mem_map.1 hin
  have hl := hp.length_eq
  simp [mapP] at hl
  exact cut_round n vis p.1.s p.2 s (by omega) hI
 ·intro vis s hp hI
  have hvl : vis.length = m.length := by have := hp.length_eq; simpa [mapP] using this
  have hpS : (kS vis).Perm (keysM m) := by
   have := hp.map (fun p : PV × PV => strOf p.1)
   have e : (mapP m).map (fun p : PV × PV => strOf p.1) = keysM m := by simp [mapP, keysM, strOf, Function.comp_def]
   rw [e] at this
   exact this
  have hpI : (kI vis).Perm (valsM m) := by
   have := hp.map (fun p : PV × PV => p.2.asInt)
   have e : (mapP m).map (fun p : PV × PV => p.2.asInt) = valsM m := by simp [mapP, valsM, PV.asInt, Function.comp_def]
   rw [e] at this
   exact this
  have hml : 0 < m.length := List.length_pos_iff.2 hm
  rcases hI with ⟨h1, rfl⟩ | ⟨h1, rfl⟩
  ·rw [h1] at hvl; simp at hvl; omega
  ·have eg : gcdsI (kI vis) = gcdsI (valsM m) := gcds_perm hpI
   have hg : gcdsI (valsM m) ≠ 0 := hgne hz0 hm
   have eS : sortS (kS vis) = namesS m := sortS_perm' hpS
   have eSl : (kS vis).length = vis.length := by simp [kS]
   have eIl : (kI vis).length = vis.length := by simp [kI]
   have hn : (namesS m).length = vis.length := by unfold namesS; rw [show (sortS (keysM m)).length = (keysM m).length from (List.mergeSort_perm _ _).length_eq]; simp [keysM]; omega
   have hallI : (kI vis).all inR = true := by
    rw [List.all_eq_true] at b2 ⊢
    intro x hx
    exact b2 x (hpI.mem_iff.1 hx)
   refine cuty_x0b cutE fs ms n m vis.length (kS vis) (kI vis) ?_
   have edt : List.drop 0 (List.take vis.length (List.map (enc : Int -> PV) (kI vis))) = (kI vis).map enc := by rw [<- eIl]; exact drop_take_map _
   rw [edt]
   refine ⟨by simp [eIl], pre_enc (kI vis, ()) rfl (by simp only [Bool.and_eq_true]; exact ⟨by simp [eIl]; omega, hallI⟩), ex_enc (kI vis, ()) rfl (iteF (by simp [gcdsP]) (ex_enc (n, (gcdsP (kI vis)).1, ()) rfl ⟨?_, ?_⟩))⟩
   ·have : (List.map PV.str (kS vis)).all isStrP = true := by simp [isStrP]
    simp only [pre_sorts, List.length_map, eSl, this, Bool.and_eq_true, beq_self_eq_true, true_and, decide_eq_true_eq]
    omega
   ·have e1 : List.map strOf (List.map PV.str (kS vis)) = kS vis := by rw [List.map_map]; exact List.map_id _
    have h := cut_first fs ms (gcdsI (valsM m)) (divI n (gcdsI (valsM m))).1 m (namesS m) hg (by omega) (by omega) (fun x hx => b3 x ((List.mergeSort_perm (keysM m) _).mem_iff.1 hx)) (cutM n m) (by unfold cutM; rw [if_neg hm])
    rw [e1, eS]
    rw [hn] at h
    have e2 : (gcdsP (kI vis)).1 = gcdsI (valsM m) := eg
    show AtM T_cuty cutE 0 _ ic_cuty 0 93 [(4, .ptr 0 0), (7, .map 1), (13, .pv (.int .i64 (gcdsP (kI vis)).1)), (15, .ptr 2 0), (69, .row 3 vis.length 0 vis.length), (70, .pv (.int .i64 ((vis.length - 0 : Nat) : Int))), (71, .pv (.int .i64 0))] [_, _, .obj (.box [.pv (.int .i64 (divI n (gcdsP (kI vis)).1).1), .pv (.sl 0 true [])]), _]
    rw [e2, Nat.sub_zero]
    exact h
theorem cutn_run {E : ExtE} (fs : List Fact) (ms : List Int) (hf : factsSm fs = true) (hc : okC fs ms = false) : GetsM T_cutn E 0 (endP' rs_cutn (Fits (cutL fs ms))) ic_cutn [] (st0 93 [enc fs, enc ms]) := by
 refine cutn_s E fs ms ⟨pre_enc (fs, ()) rfl hf, ex_enc (fs, ()) rfl (iteN (fun hv => ?_) fun hv => ⟨?_, ?_⟩)⟩
 ·have hv : valid7 fs = false := hv
  have : cutL fs ms = (⟨0, []⟩, 1) := by simp [cutL, hv]
  rw [this]
  exact ⟨rfl, rfl⟩
 ·show pre_combF false (enc fs) (enc ms) = true
  simp only [factsSm, Bool.and_eq_true, decide_eq_true_eq, List.all_eq_true] at hf
  have h2 : fs.all (fun f => linOk f.l) = true := by
   rw [List.all_eq_true]
   intro f hfm
   have := hf.2 f hfm
   simp only [linSm, Bool.and_eq_true] at this
   exact this.1
  simp only [pre_combF, can_enc, Enc.dec_enc, hc, h2, decide_eq_true hf.1]
  rfl
 ·have hv : valid7 fs = true := hv
  have : cutL fs ms = (⟨0, []⟩, 18) := by simp [cutL, hv, hc]
  rw [this]
  exact ⟨rfl, rfl⟩
end Go.Pl

namespace Go.Pl
open Go.RowKit
open Enc (enc dec is)
open EncL (encL decL isL)
def bareB (c : Cert) (n : Int) (b : Bool) : Bool := decide ((c.kids.length : Int) = n) && (if b then c.lin.t.isEmpty && decide (c.lin.k = 0) else c.mults.isEmpty)
def mapD (es : List (PV × PV)) : List (Str × Int) := es.map fun p => (⟨strOf p.1⟩, p.2.asInt)
def canE : PV × PV -> Bool
 | (.str _, .int .i64 _) => true
 | _ => false
def canM (es : List (PV × PV)) : Bool := es.all canE
theorem mapD_map (m : List (Str × Int)) : mapD (mapP m) = m := by
 simp only [mapD, mapP, List.map_map]
 exact List.map_id _
theorem canM_map (m : List (Str × Int)) : canM (mapP m) = true := by
 simp only [canM, mapP, List.all_map, List.all_eq_true]
 intro p _
 rfl
theorem canM_eq : ∀ {es : List (PV × PV)}, canM es = true -> ∃ m, es = mapP m
 | [], _ => ⟨[], rfl⟩
 | (a, b) :: es, h => by
  simp only [canM, List.all_cons, Bool.and_eq_true] at h
  obtain ⟨m, rfl⟩ := canM_eq (es := es) h.2
  match a, b, h.1 with
  | .str s, .int .i64 n, _ => exact ⟨(⟨s⟩, n) :: m, rfl⟩
def mapSm (m : List (Str × Int)) : Bool := decide (m.length < 1000000) && (keysM m).all fun x => decide (x.length <= 1000000)
def pre_res : List AV -> List AObj -> Bool
 | [.ptr 0 0], [.box [.pv (.int .i64 n), .map 1], .map es] => canM es && mapSm (mapD es)
 | _, _ => false
def val_res : List AV -> List AObj -> AV × List AObj × List AObj
 | _, [.box [.pv (.int .i64 n), .map 1], .map es] => (.pv (enc (resM n (mapD es))), [.box [.pv (.int .i64 n), .map 1], .map es], [])
 | _, _ => combN
def pre_add : List AV -> List AObj -> Bool
 | [.ptr 0 0, .pv l, .pv (.int .i64 k)], [.box [.pv (.int .i64 n), .map 1], .map es] => canM es && can Lin l && decide ((dec l : Lin).t.length <= 1000000)
 | _, _ => false
def addV (n : Int) (es : List (PV × PV)) (l : Lin) (k : Int) : AV × List AObj × List AObj := (.tup [], [.box [.pv (.int .i64 (w64 (n + w64 (k * l.k)))), .map 1], .map (mapP (addT k l.t (mapD es)))], [])
def val_add : List AV -> List AObj -> AV × List AObj × List AObj
 | [_, .pv l, .pv (.int .i64 k)], [.box [.pv (.int .i64 n), .map 1], .map es] => addV n es (dec l) k
 | _, _ => combN
def combineL (a b : Lin) (k : Int) : Lin × Int := if validL a then (if validL b then resM (w64 (w64 (0 + w64 (1 * a.k)) + w64 (k * b.k))) (addT k b.t (addT 1 a.t [])) else (⟨0, []⟩, 1)) else (⟨0, []⟩, 1)
def scaleL (l : Lin) (k : Int) : Lin × Int := combineL ⟨0, []⟩ l (max (-1000001) (min k 1000001))
def negL (g : Lin) : Lin × Int := if (scaleL g (-1)).2 = 0 then combineL (scaleL g (-1)).1 ⟨-1, []⟩ 1 else (⟨0, []⟩, (scaleL g (-1)).2)
def moreF (fs : List Fact) (l : Lin) : List Fact := fs ++ [⟨false, l⟩]
def moreP (fs l : PV) : List Fact := moreF (dec fs) (dec l)
def moreV (fs l : PV) : AV × List AObj × List AObj := (.row 1 (moreP fs l).length 0 (moreP fs l).length, [.box [.pv fs]], [.row false 83 3 ((moreP fs l).map enc)])
def pre_more : List AV -> List AObj -> Bool
 | [.pv l, .ptr 0 0], [.box [.pv fs]] => can Lin l && can (List Fact) fs && decide ((dec fs : List Fact).length <= 1000000)
 | _, _ => false
def val_more : List AV -> List AObj -> AV × List AObj × List AObj
 | [.pv l, _], [.box [.pv fs]] => moreV fs l
 | _, _ => combN
def sumN (fs : List Fact) (m : List Int) : Bool := okC fs m && (nzM (cfold fs m).2).isEmpty && decide ((cfold fs m).1 < 0)
mutual
def cSm : Cert -> Bool
 | .mk _ m l ks => decide (m.length <= 9223372036854775807) && linSm l && decide (ks.length <= 9223372036854775807) && cSms ks
def cSms : List Cert -> Bool
 | [] => true
 | c :: cs => cSm c && cSms cs
end
mutual
theorem cSm_ok : ∀ {c : Cert}, cSm c = true -> cOk c = true
 | .mk k m l ks, h => by
  simp only [cSm, cOk, linSm, Bool.and_eq_true] at h ⊢
  exact ⟨⟨⟨h.1.1.1, h.1.1.2.1⟩, h.1.2⟩, cSms_ok h.2⟩
theorem cSms_ok : ∀ {cs : List Cert}, cSms cs = true -> cOks cs = true
 | [], _ => rfl
 | c :: cs, h => by
  simp only [cSms, cOks, Bool.and_eq_true] at h ⊢
  exact ⟨cSm_ok h.1, cSms_ok h.2⟩
end
def refC (fs : List Fact) : Cert -> Bool
 | .mk k m l ks =>
  if k = 1 then bareB (.mk k m l ks) 0 true && sumN fs m
  else if k = 2 then match h : ks with
   | [c] => bareB (.mk k m l ks) 1 true && (decide ((cutL fs m).2 = 0) && refC (moreF fs (cutL fs m).1) c)
   | _ => false
  else if k = 3 then match h : ks with
   | [a, b] => bareB (.mk k m l ks) 2 false && (decide ((negL l).2 = 0) && (refC (moreF fs l) a && refC (moreF fs (negL l).1) b))
   | _ => false
  else false
termination_by c => depC c
decreasing_by all_goals subst h; simp only [depC, depCs]; omega
theorem refC1 (fs : List Fact) (m : List Int) (l : Lin) (ks : List Cert) : refC fs (.mk 1 m l ks) = (bareB (.mk 1 m l ks) 0 true && sumN fs m) := (refC.eq_def _ _).trans (if_pos rfl)
theorem refC2 (fs : List Fact) (m : List Int) (l : Lin) (c : Cert) : refC fs (.mk 2 m l [c]) = (bareB (.mk 2 m l [c]) 1 true && (decide ((cutL fs m).2 = 0) && refC (moreF fs (cutL fs m).1) c)) := (refC.eq_def _ _).trans ((if_neg (by decide)).trans (if_pos rfl))
theorem refC3 (fs : List Fact) (m : List Int) (l : Lin) (a b : Cert) : refC fs (.mk 3 m l [a, b]) = (bareB (.mk 3 m l [a, b]) 2 false && (decide ((negL l).2 = 0) && (refC (moreF fs l) a && refC (moreF fs (negL l).1) b))) := (refC.eq_def _ _).trans ((if_neg (by decide)).trans ((if_neg (by decide)).trans (if_pos rfl)))
theorem refC2n (fs : List Fact) (m : List Int) (l : Lin) (ks : List Cert) (h : bareB (.mk 2 m l ks) 1 true = false) : refC fs (.mk 2 m l ks) = false := by
 match ks, h with
 | [c], h => rw [refC2, h]; rfl
 | [], _ => exact (refC.eq_def _ _).trans ((if_neg (by decide)).trans (if_pos rfl))
 | _ :: _ :: _, _ => exact (refC.eq_def _ _).trans ((if_neg (by decide)).trans (if_pos rfl))
theorem refC3n (fs : List Fact) (m : List Int) (l : Lin) (ks : List Cert) (h : bareB (.mk 3 m l ks) 2 false = false) : refC fs (.mk 3 m l ks) = false := by
 match ks, h with
 | [a, b], h => rw [refC3, h]; rfl
 | [], _ => exact (refC.eq_def _ _).trans ((if_neg (by decide)).trans ((if_neg (by decide)).trans (if_pos rfl)))
 | [_], _ => exact (refC.eq_def _ _).trans ((if_neg (by decide)).trans ((if_neg (by decide)).trans (if_pos rfl)))
 | _ :: _ :: _ :: _, _ => exact (refC.eq_def _ _).trans ((if_neg (by decide)).trans ((if_neg (by decide)).trans (if_pos rfl)))
theorem refC0 (fs : List Fact) (k : Int) (m : List Int) (l : Lin) (ks : List Cert) (h1 : k ≠ 1) (h2 : k ≠ 2) (h3 : k ≠ 3) : refC fs (.mk k m l ks) = false := (refC.eq_def _ _).trans ((if_neg h1).trans ((if_neg h2).trans (if_neg h3)))
theorem name_len {s : Str} (h : nameB s = true) : s.s.length <= 30 := by
 unfold nameB at h
 split at h
 ·cases h
 ·rename_i c r hs
  rw [hs]
  split at h
  ·simp only [Bool.and_eq_true, decide_eq_true_eq] at h
   have := h.2
   simp only [List.length_cons]
   omega
  ·simp only [Bool.and_eq_true, decide_eq_true_eq] at h
   have := h.2
   simp only [List.length_cons]
   omega
theorem valid_len {l : Lin} (h : validL l = true) : l.t.length <= 12 := by
 simp only [validL, Bool.and_eq_true, decide_eq_true_eq] at h
 exact h.2
theorem valid_coef {l : Lin} (h : validL l = true) {t : Coef} (ht : t ∈ l.t) : nameB t.v = true ∧ t.c ≠ 0 ∧ -1000000 <= t.c ∧ t.c <= 1000000 := by
 simp only [validL, Bool.and_eq_true, decide_eq_true_eq, List.all_eq_true] at h
 have := h.1.1.1 t ht
 simp only [coefIn, Bool.and_eq_true, decide_eq_true_eq] at this
 exact ⟨this.1.1, this.1.2, this.2⟩
theorem valid_k {l : Lin} (h : validL l = true) : -1000000 <= l.k ∧ l.k <= 1000000 := by
 simp only [validL, coefIn, Bool.and_eq_true, decide_eq_true_eq] at h
 exact h.1.2
theorem valid_sm {l : Lin} (h : validL l = true) : linSm l = true := by
 have h1 := valid_len h
 simp only [linSm, linOk, Bool.and_eq_true, decide_eq_true_eq, List.all_eq_true]
 refine ⟨by omega, fun t ht => ?_⟩
 have := name_len (valid_coef h ht).1
 omega
theorem addT_keys (k : Int) : ∀ (l : List Coef) (m : List (Str × Int)) (x : List UInt8), x ∈ keysM (addT k l m) -> x ∈ keysM m ∨ ∃ t ∈ l, t.v.s = x
 | [], m, x, h => .inl h
 | t :: l, m, x, h => by
  rw [addT] at h
  rcases addT_keys k l _ x h with h | ⟨u, hu, rfl⟩
  ·rcases upd_keys t.v (IntKind.i64.wrap (atM m t.v.s + IntKind.i64.wrap (k * t.c))) m with e | ⟨_, e⟩
   ·rw [e] at h; exact .inl h
   ·rw [e, List.mem_append] at h
    rcases h with h | h
    ·exact .inl h
    ·exact .inr ⟨t, by simp, (List.mem_singleton.1 h).symm⟩
  ·exact .inr ⟨u, by simp [hu], rfl⟩
theorem res_valid {n : Int} {m : List (Str × Int)} (h : (resM n m).2 = 0) : validL (resM n m).1 = true := by
 unfold resM at h ⊢
 split
 ·assumption
 ·rename_i h'
  rw [if_neg h'] at h
  cases h
theorem comb_valid {a b : Lin} {k : Int} (h : (combineL a b k).2 = 0) : validL a = true ∧ validL b = true ∧ validL (combineL a b k).1 = true := by
 unfold combineL at h ⊢
 cases ha : validL a
 ·rw [ha, if_neg (by decide)] at h; cases h
 cases hb : validL b
 ·rw [ha, hb, if_pos rfl, if_neg (by decide)] at h; cases h
 rw [ha, hb, if_pos rfl, if_pos rfl] at h
 rw [if_pos rfl, if_pos rfl]
 exact ⟨rfl, rfl, res_valid h⟩
theorem neg_valid {l : Lin} (h : (negL l).2 = 0) : validL l = true ∧ validL (negL l).1 = true := by
 unfold negL at h ⊢
 by_cases h1 : (scaleL l (-1)).2 = 0
 ·rw [if_pos h1] at h ⊢
  exact ⟨(comb_valid h1).2.1, (comb_valid h).2.2⟩
 ·rw [if_neg h1] at h
  exact absurd h h1
theorem cut_valid {fs : List Fact} {m : List Int} (h : (cutL fs m).2 = 0) : validL (cutL fs m).1 = true := by
 have key : ∀ (n : Int) (M : List (Str × Int)), (cutM n M).2 = 0 -> validL (cutM n M).1 = true := by
  intro n M h
  unfold cutM at h ⊢
  split
  ·rename_i h1
   rw [if_pos h1] at h; cases h
  ·rename_i h1
   rw [if_neg h1] at h
   split
   ·assumption
   ·rename_i h2
    rw [if_neg h2] at h; cases h
 unfold cutL at h ⊢
 cases h1 : valid7 fs
 ·rw [h1, if_neg (by decide)] at h; cases h
 cases h2 : okC fs m
 ·rw [h1, h2, if_pos rfl, if_neg (by decide)] at h; cases h
 rw [h1, h2, if_pos rfl, if_pos rfl] at h
 rw [if_pos rfl, if_pos rfl]
 exact key _ _ h
def checkC (fs : List Fact) (c : Cert) : Int := if valid7 fs then (if (fs.length : Int) > 100 then 3 else if sizeC c > 1000 then 3 else if refC fs c then 0 else 18) else 1
end Go.Pl

namespace Go.Pl
open Go.RowKit
open Enc (enc dec is)
open EncL (encL decL isL)
theorem w64_id {n : Int} (h1 : -9223372036854775808 <= n) (h2 : n <= 9223372036854775807) : w64 n = n := wrap64 h1 h2
def bndM (m : List (Str × Int)) (B : Int) : Prop := ∀ p ∈ m, -B <= p.2 ∧ p.2 <= B
theorem atM_bnd {m : List (Str × Int)} {B : Int} (hB : 0 <= B) (h : bndM m B) (s : List UInt8) : -B <= atM m s ∧ atM m s <= B := by
 unfold atM
 cases e : m.find? fun p => p.1.s == s with
 | none => simp; omega
 | some p =>
  have := h p (List.mem_of_find?_eq_some e)
  simpa using this
theorem upd_mem {s : Str} {c : Int} {p : Str × Int} : ∀ {m : List (Str × Int)}, p ∈ updM s c m -> p.2 = c ∨ p ∈ m
 | [], h => by simp [updM] at h; left; rw [h]
 | q :: m, h => by
  rw [updM] at h
  split at h
  ·rcases List.mem_cons.1 h with rfl | h
   ·exact .inl rfl
   ·exact .inr (by simp [h])
  ·rcases List.mem_cons.1 h with rfl | h
   ·exact .inr (by simp)
   ·exact (upd_mem h).imp id fun h => by simp [h]
theorem mul_bnd {k c : Int} (hk1 : -1000000000 <= k) (hk2 : k <= 1000000000) (hc1 : -1000000 <= c) (hc2 : c <= 1000000) : -1000000000000000 <= k * c ∧ k * c <= 1000000000000000 := by
 have h : (k * c).natAbs <= 1000000000 * 1000000 := by
  rw [Int.natAbs_mul]
  exact Nat.mul_le_mul (by omega) (by omega)
 omega
theorem addT_bnd {k : Int} (hk1 : -1000000000 <= k) (hk2 : k <= 1000000000) : ∀ (l : List Coef) (m : List (Str × Int)) (B : Int), 0 <= B -> B + l.length * 1000000000000000 <= 4000000000000000000 -> (∀ t ∈ l, -1000000 <= t.c ∧ t.c <= 1000000) -> bndM m B -> bndM (addT k l m) (B + l.length * 1000000000000000)
 | [], m, B, _, _, _, h => by simpa [addT] using h
 | t :: l, m, B, hB, hl, ht, h => by
  rw [addT]
  have h1 := ht t (by simp)
  have h2 := mul_bnd hk1 hk2 h1.1 h1.2
  have h3 := atM_bnd hB h t.v.s
  have e : (((t :: l).length : Nat) : Int) * 1000000000000000 = 1000000000000000 + (l.length : Int) * 1000000000000000 := by rw [List.length_cons]; omega
  rw [e] at hl ⊢
  have w1 : IntKind.i64.wrap (k * t.c) = k * t.c := w64_id (by omega) (by omega)
  have w2 : IntKind.i64.wrap (atM m t.v.s + k * t.c) = atM m t.v.s + k * t.c := w64_id (by omega) (by omega)
  rw [w1, w2]
  have := addT_bnd hk1 hk2 l (updM t.v (atM m t.v.s + k * t.c) m) (B + 1000000000000000) (by omega) (by omega) (fun u hu => ht u (by simp [hu])) (fun p hp => by
   rcases upd_mem hp with e | hp
   ·rw [e]; omega
   ·have := h p hp; omega)
  rw [show B + (1000000000000000 + (l.length : Int) * 1000000000000000) = B + 1000000000000000 + (l.length : Int) * 1000000000000000 by omega]
  exact this
def factIn (f : Fact) : Prop := f.l.t.length <= 12 ∧ (∀ t ∈ f.l.t, -1000000 <= t.c ∧ t.c <= 1000000 ∧ t.v.s.length <= 30) ∧ -1000000 <= f.l.k ∧ f.l.k <= 1000000
theorem valid_in {f : Fact} (h : validL f.l = true) : factIn f := ⟨valid_len h, fun t ht => by have := valid_coef h ht; exact ⟨this.2.2.1, this.2.2.2, name_len this.1⟩, valid_k h⟩
theorem fold_bnd : ∀ (qs : List (Int × Fact)) (n : Int) (m : List (Str × Int)) (B : Int), 0 <= B -> B + qs.length * 12000000000000000 <= 4000000000000000000 -> (∀ q ∈ qs, okQ q = true ∧ factIn q.2) -> bndM m B -> (∀ x ∈ keysM m, x.length <= 30) ->
  bndM (qs.foldl cstep (n, m)).2 (B + qs.length * 12000000000000000) ∧ (∀ x ∈ keysM (qs.foldl cstep (n, m)).2, x.length <= 30) ∧ (qs.foldl cstep (n, m)).2.length <= m.length + 12 * qs.length
 | [], n, m, B, _, _, _, h, hk => by simp; exact ⟨h, hk⟩
 | q :: qs, n, m, B, hB, hl, hq, h, hk => by
  obtain ⟨hq1, hq2, hq3, hq4⟩ := hq q (by simp)
  simp only [okQ, Bool.and_eq_true, Bool.not_eq_true', decide_eq_false_iff_not] at hq1
  have e : (((q :: qs).length : Nat) : Int) * 12000000000000000 = 12000000000000000 + (qs.length : Int) * 12000000000000000 := by rw [List.length_cons]; omega
  rw [e] at hl ⊢
  have hb := addT_bnd (k := q.1) (by omega) (by omega) q.2.l.t m B hB (by omega) (fun t ht => ⟨(hq3 t ht).1, (hq3 t ht).2.1⟩) h
  have ih := fold_bnd qs (w64 (n + w64 (q.1 * q.2.l.k))) (addT q.1 q.2.l.t m) (B + 12000000000000000) (by omega) (by omega) (fun r hr => hq r (by simp [hr])) (fun p hp => by have := hb p hp; omega) (fun x hx => by
   rcases addT_keys _ _ _ _ hx with hx | ⟨t, ht, rfl⟩
   ·exact hk x hx
   ·exact (hq3 t ht).2.2)
  rw [List.foldl_cons]
  have hlen := addT_len q.1 q.2.l.t m
  refine ⟨?_, ih.2.1, ?_⟩
  ·rw [show B + (12000000000000000 + (qs.length : Int) * 12000000000000000) = B + 12000000000000000 + (qs.length : Int) * 12000000000000000 by omega]
   exact ih.1
  ·have := ih.2.2
   simp only [cstep, List.length_cons] at this ⊢
   omega
theorem zip_ok {fs : List Fact} {ms : List Int} (hv : valid7 fs = true) (hc : okC fs ms = true) : ∀ q ∈ ms.zip fs, okQ q = true ∧ factIn q.2 := by
 simp only [okC, Bool.and_eq_true, List.all_eq_true] at hc
 simp only [valid7, List.all_eq_true] at hv
 exact fun q hq => ⟨hc.2 q hq, valid_in (hv q.2 (List.of_mem_zip hq).2)⟩
theorem cut_hb {fs : List Fact} {ms : List Int} (hn : fs.length <= 300) (hc : okC fs ms = true) (hv : valid7 fs = true) : (nzM (cfold fs ms).2).length <= 10000 ∧ (valsM (nzM (cfold fs ms).2)).all inR = true ∧ ∀ x ∈ keysM (nzM (cfold fs ms).2), x.length <= 1000000 := by
 have hz : (ms.zip fs).length <= 300 := by rw [List.length_zip]; omega
 obtain ⟨h1, h2, h3⟩ := fold_bnd (ms.zip fs) 0 [] 0 (by omega) (by omega) (zip_ok hv hc) (by intro p hp; cases hp) (by intro x hx; cases hx)
 have hsub : ∀ p ∈ nzM (cfold fs ms).2, p ∈ (cfold fs ms).2 := fun p hp => (List.mem_filter.1 hp).1
 refine ⟨?_, ?_, ?_⟩
 ·have : (nzM (cfold fs ms).2).length <= (cfold fs ms).2.length := List.length_filter_le _ _
  have h3 : (cfold fs ms).2.length <= ([] : List (Str × Int)).length + 12 * (ms.zip fs).length := h3
  simp only [List.length_nil] at h3
  omega
 ·rw [List.all_eq_true]
  intro x hx
  obtain ⟨p, hp, rfl⟩ := List.mem_map.1 hx
  have := h1 p (hsub p hp)
  simp only [inR, Bool.and_eq_true, decide_eq_true_eq]
  omega
 ·intro x hx
  obtain ⟨p, hp, rfl⟩ := List.mem_map.1 hx
  have := h2 p.1.s (List.mem_map.2 ⟨p, hsub p hp, rfl⟩)
  omega
end Go.Pl

namespace Go.Pl
open Go.RowKit
open Enc (enc dec is)
open EncL (encL decL isL)
theorem pre_comb_eq {ok : Bool} {a b : PV} (h : pre_combF ok a b = true) : ∃ (fs : List Fact) (ms : List Int), a = enc fs ∧ b = enc ms ∧ fs.length <= 9223372036854775807 ∧ fs.all (fun f => linOk f.l) = true ∧ okC fs ms = ok := by
 simp only [pre_combF, Bool.and_eq_true, decide_eq_true_eq, beq_iff_eq] at h
 obtain ⟨⟨⟨⟨h1, h2⟩, h3⟩, h4⟩, h5⟩ := h
 obtain ⟨fs, rfl⟩ := can_eq h1
 obtain ⟨ms, rfl⟩ := can_eq h2
 simp only [Enc.dec_enc] at h3 h4 h5
 exact ⟨fs, ms, rfl, rfl, h3, h4, h5⟩
theorem combV_eq (fs : List Fact) (ms : List Int) : combV fs ms = if okC fs ms then combY (cfold fs ms) else combN := by
 unfold combV combR okC cfold
 by_cases h : ms.length = fs.length
 ·simp only [h, if_true, decide_true, Bool.true_and]
 ·simp only [if_neg h, decide_eq_false h, Bool.false_and]
  rfl
theorem combY_run : ∀ args os, pre_combY args os = true -> GetsM T_comb combE os.length (endO' os.length rs_comb fun r => r = val_combY args os) ic_comb [] (st0O nt_comb args os) := by
 intro args os h
 unfold pre_combY at h
 split at h
 ·rename_i a b
  obtain ⟨fs, ms, rfl, rfl, h1, h2, h3⟩ := pre_comb_eq h
  have hv : val_combY [.pv (enc fs), .pv (enc ms)] [] = combV fs ms := by
   show combY (combF (enc fs) (enc ms)) = _
   have e : combF (enc fs) (enc ms) = cfold fs ms := by unfold combF; rw [Enc.dec_enc, Enc.dec_enc]
   rw [e, combV_eq, h3, if_pos rfl]
  rw [hv]
  exact comb_run fs ms h1 h2
 ·cases h
theorem combN_run : ∀ args os, pre_combN args os = true -> GetsM T_comb combE os.length (endO' os.length rs_comb fun r => r = val_combN args os) ic_comb [] (st0O nt_comb args os) := by
 intro args os h
 unfold pre_combN at h
 split at h
 ·rename_i a b
  obtain ⟨fs, ms, rfl, rfl, h1, h2, h3⟩ := pre_comb_eq h
  have hv : val_combN [.pv (enc fs), .pv (enc ms)] [] = combV fs ms := by
   show combN = _
   rw [combV_eq, h3]
   rfl
  rw [hv]
  exact comb_run fs ms h1 h2
 ·cases h
theorem combY_len : ∀ args os, pre_combY args os = true -> (val_combY args os).2.1.length = os.length := by
 intro args os h
 unfold pre_combY at h
 split at h
 ·rfl
 ·cases h
theorem combN_len : ∀ args os, pre_combN args os = true -> (val_combN args os).2.1.length = os.length := by
 intro args os h
 unfold pre_combN at h
 split at h
 ·rfl
 ·cases h
theorem add_run : ∀ args os, pre_add args os = true -> Gets T_ladd os.length (endO' os.length rs_ladd fun r => r = val_add args os) ic_ladd [] (st0O nt_ladd args os) := by
 intro args os h
 unfold pre_add at h
 split at h
 ·rename_i l k n es
  simp only [Bool.and_eq_true, decide_eq_true_eq] at h
  obtain ⟨⟨h1, h2⟩, h3⟩ := h
  obtain ⟨m, rfl⟩ := canM_eq h1
  obtain ⟨l, rfl⟩ := can_eq h2
  rw [Enc.dec_enc] at h3
  have hv : val_add [.ptr 0 0, .pv (enc l), .pv (.int .i64 k)] [.box [.pv (.int .i64 n), .map 1], .map (mapP m)] = addW (IntKind.i64.wrap (n + IntKind.i64.wrap (k * l.k))) (addT k l.t m) := by
   show addV n (mapP m) (dec (enc l)) k = _
   rw [Enc.dec_enc, addV, mapD_map]
   rfl
  rw [hv]
  exact ladd_run n m l k h3
 ·cases h
theorem kz_map : ∀ m : List (Str × Int), kz (mapP m) = keysM (nzM m)
 | [] => rfl
 | (s, c) :: m => by
  have ih := kz_map m
  simp only [kz, mapP, keysM, nzM] at ih ⊢
  by_cases h : c = 0
  ·subst h
   simp [ih]
  ·simp [h, ih]
theorem names_terms (m : List (Str × Int)) : coefsM m (namesM m) = termsM m := by
 unfold coefsM namesM termsM
 rw [kz_map]
 rfl
def val_resW : List AV -> List AObj -> AV × List AObj × List AObj
 | _, [.box [.pv (.int .i64 n), .map 1], .map es] => resW n (mapD es) (termsM (mapD es))
 | _, _ => combN
theorem resW_run : ∀ args os, pre_res args os = true -> GetsM T_resx resE os.length (endO' os.length rs_resx fun r => r = val_resW args os) ic_resx [] (st0O nt_resx args os) := by
 intro args os h
 unfold pre_res at h
 split at h
 ·rename_i n es
  simp only [Bool.and_eq_true, mapSm, decide_eq_true_eq, List.all_eq_true] at h
  obtain ⟨h1, h2, h3⟩ := h
  obtain ⟨m, rfl⟩ := canM_eq h1
  rw [mapD_map] at h2 h3
  have hv : val_resW [.ptr 0 0] [.box [.pv (.int .i64 n), .map 1], .map (mapP m)] = resW n m (coefsM m (namesM m)) := by
   show resW n (mapD (mapP m)) (termsM (mapD (mapP m))) = _
   rw [mapD_map, names_terms]
  rw [hv]
  refine resx_run n m h2 fun x hx => h3 x ?_
  have hx : x ∈ kz (mapP m) := (List.mergeSort_perm _ _).mem_iff.1 hx
  rw [kz_map] at hx
  obtain ⟨p, hp, rfl⟩ := List.mem_map.1 hx
  exact List.mem_map.2 ⟨p, (List.mem_filter.1 hp).1, rfl⟩
 ·cases h
theorem resW_len : ∀ args os, pre_res args os = true -> (val_resW args os).2.1.length = os.length := by
 intro args os h
 unfold pre_res at h
 split at h
 ·show (resW _ _ _).2.1.length = _
  unfold resW
  split
  ·split <;> rfl
  ·rfl
 ·cases h
theorem sub_nolin (n c : Int) : Sub (.tup [.agg [.int .i64 n, .sl 0 true []], .int .i64 c]) (enc (((⟨n, []⟩ : Lin), c) : Lin × Int)) := .pair (.agg_cons (.refl _) (.agg_cons (Sub.sl0 _ _ _) .agg_nil)) (.refl _)
theorem res_frz {P : Program} {f : Nat} (h : OwnOK P f pre_res val_resW) : OwnOK P f pre_res val_res := by
 refine h.frz fun args os hp => ?_
 unfold pre_res at hp
 split at hp
 ·rename_i n es
  have hv : val_resW [.ptr 0 0] [.box [.pv (.int .i64 n), .map 1], .map es] = resW n (mapD es) (termsM (mapD es)) := rfl
  have hv' : val_res [.ptr 0 0] [.box [.pv (.int .i64 n), .map 1], .map es] = (.pv (enc (resM n (mapD es))), [.box [.pv (.int .i64 n), .map 1], .map es], []) := rfl
  simp only [Bool.and_eq_true] at hp
  obtain ⟨m, rfl⟩ := canM_eq hp.1
  rw [hv, hv', mapD_map]
  unfold resW resM
  generalize termsM m = l
  by_cases hl : validL ⟨n, l⟩ = true
  ·rw [if_pos hl, if_pos hl]
   by_cases hz : l.isEmpty = true
   ·rw [if_pos hz]
    obtain rfl : l = [] := by simpa using hz
    exact ⟨_, _, _, _, _, _, _, _, rfl, rfl, rfl, sub_nolin n 0, rfl⟩
   ·rw [if_neg hz]
    refine ⟨_, _, _, .tup [.agg [.int .i64 n, .sl 2 false (l.map enc)], .int .i64 0], [.obj (.box [.pv (.int .i64 n), .map 1]), .obj (.map (mapP m)), .obj (.row true 87 2 (l.map enc))], _, _, _, rfl, ?_, rfl, .refl _, rfl⟩
    have e : List.drop 0 (List.take l.length (List.map (enc : Coef -> PV) l)) = l.map enc := by rw [List.drop_zero, List.take_of_length_le (by simp)]
    simp only [frz, frzL, HM.run_bind, objs, List.map_cons, List.map_nil, List.cons_append, List.nil_append]
    simp [HM.run, HM.req]
    exact List.take_of_length_le (by simp)
  ·rw [if_neg hl, if_neg hl]
   exact ⟨_, _, _, _, _, _, _, _, rfl, rfl, rfl, sub_nolin 0 3, rfl⟩
 ·cases hp
end Go.Pl

namespace Go.Pl
open Go.RowKit
open Enc (enc dec is)
open EncL (encL decL isL)
set_option maxRecDepth 100000
def ic_cv1 : IC := (.seq (.reg [⟨(some 1), (.box 3 (.t 0)), 0, none⟩, ⟨(some 2), (.mv (.c (.bool false))), 1, none⟩] none) (.seq (.reg [⟨(some 3), (.faddr 1 (.t 1)), 0, none⟩, ⟨(some 4), (.load true [(.int .i64), (.sl 2)] (.t 3)), 0, none⟩, ⟨(some 5), (.call (.c (.fn 67)) [(.t 4)]), 0, none⟩, ⟨(some 6), (.un .not (.t 5)), 2, none⟩, ⟨(some 2), (.mv (.t 6)), 2, none⟩] none) .ret))
def rs_cv1 : List IRes := [(.tmp 2)]
abbrev nt_cv1 : Nat := 7
def T_cv1 : Tab := tab [(67, .pure (preT (fun x : Lin × Unit => linSm x.1)) (valT (fun x : Lin × Unit => validL x.1)))]
theorem cv1_s {G : PV -> Prop} (f : Fact) (h : (Go.Pl.preT (fun (x : Lin × Unit) => linSm x.1) [(.agg [(.int .i64 (Lin.k (Fact.l f))), (.sl 2 false (List.map enc (Lin.t (Fact.l f))))])]) = true ∧ (∃ y0 : Bool, AV.pv (valT (fun (x : Lin × Unit) => validL x.1) [(.agg [(.int .i64 (Lin.k (Fact.l f))), (.sl 2 false (List.map enc (Lin.t (Fact.l f))))])]) = AV.pv (enc y0) ∧ (G ((.bool !y0))))) : Gets T_cv1 0 (endP' rs_cv1 G) ic_cv1 [] (st0 7 [enc f]) := Gets.tp (.req (.abs (Bool) (fun YY => AV.pv (enc YY)) (.nil))) h (by kernel_rfl)
def ic_ixv : IC := (.seq (.reg [⟨(some 4), (.mv (.c (.int .i64 0))), 0, none⟩] none) (.seq (.seq (.reg [⟨(some 6), (.mv (.t 0)), 0, none⟩, ⟨(some 7), (.len 1 (.t 6)), 0, none⟩, ⟨(some 8), (.mv (.c (.int .i64 0))), 0, none⟩] none) (.block 0 (.loop [8, 7, 1, 0] (.seq (.reg [⟨(some 9), (.bin .num .lss (.t 8) (.t 7)), 0, none⟩] none) (.seq (.cond (.t 9) .skip (.exit 0)) (.seq (.block 1 (.seq (.reg [⟨(some 10), (.mv (.t 8)), 0, none⟩, ⟨(some 5), (.mv (.t 10)), 0, none⟩] none) (.seq (.reg [⟨(some 11), (.mv (.t 1)), 0, none⟩, ⟨(some 12), (.mv (.t 0)), 0, none⟩, ⟨(some 13), (.mv (.t 5)), 0, none⟩, ⟨(some 14), (.iaddr 3 (.t 12) (.t 13)), 0, none⟩, ⟨(some 15), (.load true [.bool, (.int .i64), (.sl 2)] (.t 14)), 0, none⟩, ⟨(some 16), (.call (.t 11) [(.t 15)]), 0, none⟩] none) (.cond (.t 16) (.seq (.reg [⟨(some 17), (.mv (.t 5)), 0, none⟩, ⟨(some 4), (.mv (.t 17)), 0, none⟩] none) .ret) .skip)))) (.reg [⟨(some 18), (.bin .num .add (.t 8) (.c (.int .i64 1))), 0, none⟩, ⟨(some 8), (.mv (.t 18)), 0, none⟩] none))))))) (.seq (.reg [⟨(some 4), (.mv (.c (.int .i64 (-1)))), 0, none⟩] none) .ret)))
def rs_ixv : List IRes := [(.tmp 4)]
abbrev nt_ixv : Nat := 19
def T_ixv : Tab := tab [(76, .pure (preT (fun x : Fact × Unit => linSm x.1.l)) (valT (fun x : Fact × Unit => !(validL x.1.l))))]
theorem ixv_s {G : PV -> Prop} (l : List Fact) (h : At T_ixv 0 (endP' rs_ixv G) ic_ixv 0 19 [(0, (.pv (.sl 3 false (List.map enc l)))), (1, (.pv (.fn 76))), (7, (.pv (.int .i64 (↑(List.length (List.map enc l)) : Int)))), (8, (.pv (.int .i64 0)))] []) : Gets T_ixv 0 (endP' rs_ixv G) ic_ixv [] (st0 19 [enc l, .fn 76]) := Gets.tp (.nil) h (by kernel_rfl)
theorem ixv_h0 {G : PV -> Prop} (l : List Fact) (i : Int) (h : if (decide (i < (↑(List.length l) : Int))) = true then (decide (0 <= i) && decide (Int.toNat i < List.length (List.map enc l)) && Enc.sz Fact == 3) = true ∧ (∃ y0 : Fact, AV.pv (PV.rptr (PV.cells (List.getD (List.map enc l) (Int.toNat i) default))) = AV.pv (PV.rptr (PV.cells ((enc) y0))) ∧ ((Go.Pl.preT (fun (x : Fact × Unit) => linSm (Fact.l x.1)) [(.agg [(.bool (PV.asBool (List.getD (PV.cells (enc y0)) 0 default))), (.int .i64 (PV.asInt (List.getD (PV.cells (enc y0)) (0 + 1) default))), (.sl 2 false (PV.asXs (List.getD (PV.cells (enc y0)) (0 + 1 + 1) default)))])]) = true ∧ (∃ y1 : Bool, AV.pv (valT (fun (x : Fact × Unit) => !validL (Fact.l x.1)) [(.agg [(.bool (PV.asBool (List.getD (PV.cells (enc y0)) 0 default))), (.int .i64 (PV.asInt (List.getD (PV.cells (enc y0)) (0 + 1) default))), (.sl 2 false (PV.asXs (List.getD (PV.cells (enc y0)) (0 + 1 + 1) default)))])]) = AV.pv (enc y1) ∧ (if (y1) = true then G ((.int .i64 i)) else (At T_ixv 0 (endP' rs_ixv G) ic_ixv 0 19 [(0, (.pv (.sl 3 false (List.map enc l)))), (1, (.pv (.fn 76))), (7, (.pv (.int .i64 (↑(List.length l) : Int)))), (8, (.pv (.int .i64 (IntKind.wrap IntKind.i64 (i + 1)))))] []))))) else (G ((.int .i64 (-1))))) : At T_ixv 0 (endP' rs_ixv G) ic_ixv 0 19 [(0, .pv (enc l)), (1, .pv (.fn 76)), (7, .pv (.int .i64 l.length)), (8, .pv (.int .i64 i))] [] := At.tp (.lit (.ask (.req (.abs (Fact) (fun YY => AV.pv (PV.rptr (PV.cells ((enc) YY)))) (.lit (.req (.abs (Bool) (fun YY => AV.pv (enc YY)) (.ask (.nil) (.lit (.nil)))))))) (.nil))) h (by kernel_rfl)
def ic_cfv : IC := (.seq (.reg [⟨(some 4), (.mv (.c (.bool false))), 0, none⟩] none) (.seq (.reg [⟨(some 5), (.mv (.t 0)), 0, none⟩, ⟨(some 6), (.mv (.t 1)), 0, none⟩, ⟨(some 7), (.call (.c (.fn 126)) [(.t 5), (.t 6)]), 0, none⟩, ⟨(some 8), (.bin .num .geq (.t 7) (.c (.int .i64 0))), 2, none⟩, ⟨(some 4), (.mv (.t 8)), 2, none⟩] none) .ret))
def rs_cfv : List IRes := [(.tmp 4)]
abbrev nt_cfv : Nat := 9
def T_cfv : Tab := tab [(126, .pure (preT (fun x : List Fact × FnV 76 × Unit => factsSm x.1)) (valT (fun x : List Fact × FnV 76 × Unit => ixFind (fun f : Fact => !(validL f.l)) x.1)))]
theorem cfv_s {G : PV -> Prop} (l : List Fact) (h : (Go.Pl.preT (fun (x : List Fact × FnV 76 × Unit) => factsSm x.1) [(.sl 3 false (List.map enc l)), (.fn 76)]) = true ∧ (∃ y0 : Int, AV.pv (valT (fun (x : List Fact × FnV 76 × Unit) => ixFind (fun (f : Fact) => !validL (Fact.l f)) x.1) [(.sl 3 false (List.map enc l)), (.fn 76)]) = AV.pv (enc y0) ∧ (G ((.bool (decide (y0 ≥ 0))))))) : Gets T_cfv 0 (endP' rs_cfv G) ic_cfv [] (st0 9 [enc l, .fn 76]) := Gets.tp (.req (.abs (Int) (fun YY => AV.pv (enc YY)) (.lit (.nil)))) h (by kernel_rfl)
def ic_cvalid : IC := (.seq (.reg [⟨(some 2), (.mv (.c (.bool false))), 0, none⟩] none) (.seq (.reg [⟨(some 3), (.mv (.t 0)), 0, none⟩, ⟨(some 4), (.call (.c (.fn 75)) [(.t 3), (.c (.fn 76))]), 0, none⟩, ⟨(some 5), (.un .not (.t 4)), 2, none⟩, ⟨(some 2), (.mv (.t 5)), 2, none⟩] none) .ret))
def rs_cvalid : List IRes := [(.tmp 2)]
abbrev nt_cvalid : Nat := 6
def T_cvalid : Tab := tab [(75, .pure (preT (fun x : List Fact × FnV 76 × Unit => factsSm x.1)) (valT (fun x : List Fact × FnV 76 × Unit => x.1.any fun f : Fact => !(validL f.l))))]
theorem cvalid_s {G : PV -> Prop} (l : List Fact) (h : (Go.Pl.preT (fun (x : List Fact × FnV 76 × Unit) => factsSm x.1) [(.sl 3 false (List.map enc l)), (.fn 76)]) = true ∧ (∃ y0 : Bool, AV.pv (valT (fun (x : List Fact × FnV 76 × Unit) => List.any x.1 fun (f : Fact) => !validL (Fact.l f)) [(.sl 3 false (List.map enc l)), (.fn 76)]) = AV.pv (enc y0) ∧ (G ((.bool !y0))))) : Gets T_cvalid 0 (endP' rs_cvalid G) ic_cvalid [] (st0 6 [enc l]) := Gets.tp (.req (.abs (Bool) (fun YY => AV.pv (enc YY)) (.nil))) h (by kernel_rfl)
end Go.Pl

namespace Go.Pl
open Go.RowKit
open Enc (enc dec is)
open EncL (encL decL isL)
theorem cv1_run : ∀ a : Fact × Unit, linSm a.1.l = true -> Gets T_cv1 0 (endP' rs_cv1 (Fits (!(validL a.1.l)))) ic_cv1 [] (st0 nt_cv1 (encL a)) := by
 rintro ⟨f, ⟨⟩⟩ h
 exact cv1_s f ⟨pre_enc (f.l, ()) rfl h, ex_enc (f.l, ()) rfl (fitB rfl)⟩
theorem factsSm_mem {l : List Fact} (h : factsSm l = true) : l.length <= 9223372036854775807 ∧ ∀ f ∈ l, linSm f.l = true := by
 simp only [factsSm, Bool.and_eq_true, decide_eq_true_eq, List.all_eq_true] at h
 exact h
theorem ixv_loop (l : List Fact) (h : factsSm l = true) : ∀ (m i : Nat), m + i = l.length -> (∀ j (hj : j < l.length), j < i -> (!(validL l[j].l)) = false) ->
  At T_ixv 0 (endP' rs_ixv (Fits (ixFind (fun f : Fact => !(validL f.l)) l))) ic_ixv 0 19 [(0, .pv (enc l)), (1, .pv (.fn 76)), (7, .pv (.int .i64 l.length)), (8, .pv (.int .i64 i))] [] := by
 obtain ⟨hl, hs⟩ := factsSm_mem h
 intro m
 induction m with
 | zero =>
  intro i hi hno
  refine ixv_h0 l i (iteF (lt_no' (by omega)) (fitI ?_))
  rw [ix_none _ _ (fun j hj => hno j hj (by omega))]
 | succ m ih =>
  intro i hi hno
  have hlt : i < l.length := by omega
  refine ixv_h0 l i (iteT (lt_ok' hlt) ⟨idx_ok hlt rfl, el_ex hlt ⟨pre_enc (l[i], ()) rfl (hs _ (List.getElem_mem hlt)), ex_enc (l[i], ()) rfl (iteB (fun hb => ?_) fun hb => ?_)⟩⟩)
  ·exact fitI (ix_step (fun f : Fact => !(validL f.l)) l i hlt hno hb).symm
  ·rw [next (by omega)]
   refine ih (i + 1) (by omega) fun j hj hji => ?_
   by_cases e : j = i
   ·subst e; exact hb
   ·exact hno j hj (by omega)
theorem ixv_run : ∀ a : List Fact × FnV 76 × Unit, factsSm a.1 = true -> Gets T_ixv 0 (endP' rs_ixv (Fits (ixFind (fun f : Fact => !(validL f.l)) a.1))) ic_ixv [] (st0 nt_ixv (encL a)) := by
 rintro ⟨l, g, ⟨⟩⟩ h
 refine ixv_s l ?_
 rw [List.length_map]
 exact ixv_loop l h l.length 0 (by omega) (fun j hj h => by omega)
theorem cfv_run : ∀ a : List Fact × FnV 76 × Unit, factsSm a.1 = true -> Gets T_cfv 0 (endP' rs_cfv (Fits (a.1.any fun f : Fact => !(validL f.l)))) ic_cfv [] (st0 nt_cfv (encL a)) := by
 rintro ⟨l, g, ⟨⟩⟩ h
 exact cfv_s l ⟨pre_enc (l, {}, ()) rfl h, ex_enc (l, {}, ()) rfl (fitB (ixFind_nonneg _ _))⟩
theorem any_not (l : List Fact) (p : Fact -> Bool) : (!(l.any fun f => !(p f))) = l.all p := by
 induction l with
 | nil => rfl
 | cons x l ih => simp only [List.any_cons, List.all_cons, Bool.not_or, Bool.not_not, ih]
theorem cvalid_run : ∀ a : List Fact × Unit, factsSm a.1 = true -> Gets T_cvalid 0 (endP' rs_cvalid (Fits (valid7 a.1))) ic_cvalid [] (st0 nt_cvalid (encL a)) := by
 rintro ⟨l, ⟨⟩⟩ h
 exact cvalid_s l ⟨pre_enc (l, {}, ()) rfl h, ex_enc (l, {}, ()) rfl (fitB (any_not l _))⟩
end Go.Pl

namespace Go.Pl
open Go.RowKit
open Enc (enc dec is)
open EncL (encL decL isL)
set_option maxRecDepth 100000
def ic_combine : IC := (.seq (.reg [⟨(some 3), (.box 2 (.t 0)), 0, none⟩, ⟨(some 4), (.box 2 (.t 1)), 1, none⟩, ⟨(some 6), (.alloc (.agg [(.int .i64 0), (.sl 0 true [])])), 2, none⟩, ⟨(some 7), (.mv (.c (.int .i64 0))), 3, none⟩] none) (.seq (.seq (.reg [⟨(some 9), (.load true [(.int .i64), (.sl 2)] (.t 3)), 0, none⟩, ⟨(some 10), (.call (.c (.fn 67)) [(.t 9)]), 0, none⟩, ⟨(some 11), (.un .not (.t 10)), 2, none⟩, ⟨(some 12), (.mv (.t 11)), 2, none⟩, ⟨(some 13), (.load true [(.int .i64), (.sl 2)] (.t 4)), 2, (some (12, false))⟩, ⟨(some 14), (.call (.c (.fn 67)) [(.t 13)]), 2, (some (12, false))⟩, ⟨(some 15), (.un .not (.t 14)), 4, (some (12, false))⟩, ⟨(some 16), (.pick (.t 12) (.c (.bool true)) (.t 15)), 4, none⟩] none) (.cond (.t 16) (.seq (.reg [⟨(some 17), (.build [(.int .i64 0), (.sl 0 true [])] []), 0, none⟩, ⟨none, (.store 2 (.t 6) (.t 17)), 0, none⟩, ⟨(some 7), (.mv (.c (.int .i64 1))), 0, none⟩] none) .ret) .skip)) (.seq (.reg [⟨(some 18), .mkmap, 0, none⟩, ⟨(some 19), (.build [(.int .i64 0), .nilmap] [(1, (1, (.t 18)))]), 1, none⟩, ⟨(some 8), (.alloc (.agg [(.int .i64 0), .nilmap])), 1, none⟩, ⟨none, (.store 2 (.t 8) (.t 19)), 2, none⟩] none) (.seq (.reg [⟨(some 20), (.load true [(.int .i64), (.sl 2)] (.t 3)), 0, none⟩, ⟨(some 21), (.call (.c (.fn 108)) [(.t 8), (.t 20), (.c (.int .i64 1))]), 0, none⟩] none) (.seq (.reg [⟨(some 22), (.load true [(.int .i64), (.sl 2)] (.t 4)), 0, none⟩, ⟨(some 23), (.mv (.t 2)), 0, none⟩, ⟨(some 24), (.call (.c (.fn 108)) [(.t 8), (.t 22), (.t 23)]), 0, none⟩] none) (.seq (.reg [⟨(some 25), (.call (.c (.fn 85)) [(.t 8)]), 0, none⟩, ⟨(some 26), (.extract (.t 25) 0), 2, none⟩, ⟨(some 27), (.extract (.t 25) 1), 2, none⟩, ⟨none, (.store 2 (.t 6) (.t 26)), 2, none⟩, ⟨(some 7), (.mv (.t 27)), 2, none⟩] none) .ret))))))
def rs_combine : List IRes := [(.cell true 2 6), (.tmp 7)]
abbrev nt_combine : Nat := 28
def T_combine : Tab := tab [(67, .pure (preT (fun x : Lin × Unit => linSm x.1)) (valT (fun x : Lin × Unit => validL x.1))), (108, .own pre_add val_add), (85, .own pre_res val_res)]
theorem combine_s {G : PV -> Prop} (a b : Lin) (k : Int) (h : (Go.Pl.preT (fun (x : Lin × Unit) => linSm x.1) [(.agg [(.int .i64 a.k), (.sl 2 false (List.map enc a.t))])]) = true ∧ (∃ y0 : Bool, AV.pv (valT (fun (x : Lin × Unit) => validL x.1) [(.agg [(.int .i64 a.k), (.sl 2 false (List.map enc a.t))])]) = AV.pv (enc y0) ∧ (if (!y0) = true then G ((.tup [(.agg [(.int .i64 0), (.sl 0 true [])]), (.int .i64 1)])) else ((Go.Pl.preT (fun (x : Lin × Unit) => linSm x.1) [(.agg [(.int .i64 b.k), (.sl 2 false (List.map enc b.t))])]) = true ∧ (∃ y1 : Bool, AV.pv (valT (fun (x : Lin × Unit) => validL x.1) [(.agg [(.int .i64 b.k), (.sl 2 false (List.map enc b.t))])]) = AV.pv (enc y1) ∧ (if (!y1) = true then G ((.tup [(.agg [(.int .i64 0), (.sl 0 true [])]), (.int .i64 1)])) else ((pre_add [(.ptr 0 0), (.pv (.agg [(.int .i64 a.k), (.sl 2 false (List.map enc a.t))])), (.pv (.int .i64 1))] [(.box [(.pv (.int .i64 0)), (.map 1)]), (.map [])]) = true ∧ ((pre_add [(.ptr 0 0), (.pv (.agg [(.int .i64 b.k), (.sl 2 false (List.map enc b.t))])), (.pv (.int .i64 k))] [(.box [(.pv (.int .i64 (w64 (0 + w64 (1 * Lin.k (dec (PV.agg [enc a.k, enc a.t]))))))), (.map 1)]), (.map (mapP (addT 1 (Lin.t (dec (PV.agg [enc a.k, enc a.t]))) (mapD []))))]) = true ∧ ((pre_res [(.ptr 0 0)] [(.box [(.pv (.int .i64 (w64 (w64 (0 + w64 (1 * Lin.k (dec (PV.agg [enc a.k, enc a.t])))) + w64 (k * Lin.k (dec (PV.agg [enc b.k, enc b.t]))))))), (.map 1)]), (.map (mapP (addT k (Lin.t (dec (PV.agg [enc b.k, enc b.t]))) (mapD (mapP (addT 1 (Lin.t (dec (PV.agg [enc a.k, enc a.t]))) (mapD [])))))))]) = true ∧ (G ((.tup [(.agg [(.int .i64 (Lin.k (Prod.fst (resM (w64 (w64 (0 + w64 (1 * Lin.k (dec (PV.agg [enc a.k, enc a.t])))) + w64 (k * Lin.k (dec (PV.agg [enc b.k, enc b.t]))))) (mapD (mapP (addT k (Lin.t (dec (PV.agg [enc b.k, enc b.t]))) (mapD (mapP (addT 1 (Lin.t (dec (PV.agg [enc a.k, enc a.t]))) (mapD []))))))))))), (.sl 2 false (List.map enc (Lin.t (Prod.fst (resM (w64 (w64 (0 + w64 (1 * Lin.k (dec (PV.agg [enc a.k, enc a.t])))) + w64 (k * Lin.k (dec (PV.agg [enc b.k, enc b.t]))))) (mapD (mapP (addT k (Lin.t (dec (PV.agg [enc b.k, enc b.t]))) (mapD (mapP (addT 1 (Lin.t (dec (PV.agg [enc a.k, enc a.t]))) (mapD []))))))))))))]), (.int .i64 (Prod.snd (resM (w64 (w64 (0 + w64 (1 * Lin.k (dec (PV.agg [enc a.k, enc a.t])))) + w64 (k * Lin.k (dec (PV.agg [enc b.k, enc b.t]))))) (mapD (mapP (addT k (Lin.t (dec (PV.agg [enc b.k, enc b.t]))) (mapD (mapP (addT 1 (Lin.t (dec (PV.agg [enc a.k, enc a.t]))) (mapD []))))))))))])))))))))))) : Gets T_combine 0 (endP' rs_combine G) ic_combine [] (st0 28 [enc a, enc b, enc k]) := Gets.tp (.req (.abs (Bool) (fun YY => AV.pv (enc YY)) (.ask (.lit (.lit (.lit (.lit (.nil))))) (.lit (.req (.abs (Bool) (fun YY => AV.pv (enc YY)) (.lit (.lit (.ask (.nil) (.req (.keep (.req (.keep (.req (.keep (.nil)))))))))))))))) h (by kernel_rfl)
def ic_ladd2 : IC := (.seq (.reg [⟨(some 2), (.box 2 (.t 0)), 0, none⟩, ⟨(some 3), (.box 2 (.t 1)), 1, none⟩, ⟨(some 4), (.alloc (.agg [(.int .i64 0), (.sl 0 true [])])), 2, none⟩, ⟨(some 5), (.mv (.c (.int .i64 0))), 3, none⟩] none) (.seq (.reg [⟨(some 6), (.load true [(.int .i64), (.sl 2)] (.t 2)), 0, none⟩, ⟨(some 7), (.load true [(.int .i64), (.sl 2)] (.t 3)), 0, none⟩, ⟨(some 8), (.call (.c (.fn 96)) [(.t 6), (.t 7), (.c (.int .i64 1))]), 0, none⟩, ⟨(some 9), (.extract (.t 8) 0), 2, none⟩, ⟨(some 10), (.extract (.t 8) 1), 2, none⟩, ⟨none, (.store 2 (.t 4) (.t 9)), 2, none⟩, ⟨(some 5), (.mv (.t 10)), 2, none⟩] none) .ret))
def rs_ladd2 : List IRes := [(.cell true 2 4), (.tmp 5)]
abbrev nt_ladd2 : Nat := 11
def T_ladd2 : Tab := tab [(96, .pure (preT (fun x : Lin × Lin × Int × Unit => linSm x.1 && linSm x.2.1)) (valT (fun x : Lin × Lin × Int × Unit => combineL x.1 x.2.1 x.2.2.1)))]
theorem ladd2_s {G : PV -> Prop} (a b : Lin) (h : (Go.Pl.preT (fun (x : Lin × Lin × Int × Unit) => linSm x.1 && linSm x.2.1) [(.agg [(.int .i64 a.k), (.sl 2 false (List.map enc a.t))]), (.agg [(.int .i64 b.k), (.sl 2 false (List.map enc b.t))]), (.int .i64 1)]) = true ∧ (∃ y0 : Lin × Int, AV.pv (valT (fun (x : Lin × Lin × Int × Unit) => combineL x.1 x.2.1 x.2.2.1) [(.agg [(.int .i64 a.k), (.sl 2 false (List.map enc a.t))]), (.agg [(.int .i64 b.k), (.sl 2 false (List.map enc b.t))]), (.int .i64 1)]) = AV.pv (enc y0) ∧ (G ((.tup [(.agg [(.int .i64 y0.1.k), (.sl 2 false (List.map enc y0.1.t))]), (.int .i64 y0.2)]))))) : Gets T_ladd2 0 (endP' rs_ladd2 G) ic_ladd2 [] (st0 11 [enc a, enc b]) := Gets.tp (.req (.abs (Lin × Int) (fun YY => AV.pv (enc YY)) (.nil))) h (by kernel_rfl)
def ic_lscale : IC := (.seq (.reg [⟨(some 2), (.box 2 (.t 0)), 0, none⟩, ⟨(some 4), (.alloc (.agg [(.int .i64 0), (.sl 0 true [])])), 1, none⟩, ⟨(some 5), (.mv (.c (.int .i64 0))), 2, none⟩] none) (.seq (.reg [⟨(some 6), (.build [(.int .i64 0), (.sl 0 true [])] []), 0, none⟩, ⟨(some 7), (.load true [(.int .i64), (.sl 2)] (.t 2)), 0, none⟩, ⟨(some 8), (.mv (.t 1)), 0, none⟩, ⟨(some 9), (.mm false (.t 8) (.c (.int .i64 1000001))), 0, none⟩, ⟨(some 10), (.mm true (.c (.int .i64 (-1000001))) (.t 9)), 0, none⟩, ⟨(some 11), (.call (.c (.fn 96)) [(.t 6), (.t 7), (.t 10)]), 0, none⟩, ⟨(some 12), (.extract (.t 11) 0), 2, none⟩, ⟨(some 13), (.extract (.t 11) 1), 2, none⟩, ⟨none, (.store 2 (.t 4) (.t 12)), 2, none⟩, ⟨(some 5), (.mv (.t 13)), 2, none⟩] none) .ret))
def rs_lscale : List IRes := [(.cell true 2 4), (.tmp 5)]
abbrev nt_lscale : Nat := 14
def T_lscale : Tab := tab [(96, .pure (preT (fun x : Lin × Lin × Int × Unit => linSm x.1 && linSm x.2.1)) (valT (fun x : Lin × Lin × Int × Unit => combineL x.1 x.2.1 x.2.2.1)))]
theorem lscale_s {G : PV -> Prop} (a : Lin) (k : Int) (h : (Go.Pl.preT (fun (x : Lin × Lin × Int × Unit) => linSm x.1 && linSm x.2.1) [(.agg [(.int .i64 0), (.sl 0 true [])]), (.agg [(.int .i64 a.k), (.sl 2 false (List.map enc a.t))]), (.int .i64 (if true = true then if (if false = true then if 1000001 > k then 1000001 else k else if 1000001 < k then 1000001 else k) > (-1000001 : Int) then if false = true then if 1000001 > k then 1000001 else k else if 1000001 < k then 1000001 else k else (-1000001 : Int) else if (if false = true then if 1000001 > k then 1000001 else k else if 1000001 < k then 1000001 else k) < (-1000001 : Int) then if false = true then if 1000001 > k then 1000001 else k else if 1000001 < k then 1000001 else k else (-1000001 : Int)))]) = true ∧ (∃ y0 : Lin × Int, AV.pv (valT (fun (x : Lin × Lin × Int × Unit) => combineL x.1 x.2.1 x.2.2.1) [(.agg [(.int .i64 0), (.sl 0 true [])]), (.agg [(.int .i64 a.k), (.sl 2 false (List.map enc a.t))]), (.int .i64 (if true = true then if (if false = true then if 1000001 > k then 1000001 else k else if 1000001 < k then 1000001 else k) > (-1000001 : Int) then if false = true then if 1000001 > k then 1000001 else k else if 1000001 < k then 1000001 else k else (-1000001 : Int) else if (if false = true then if 1000001 > k then 1000001 else k else if 1000001 < k then 1000001 else k) < (-1000001 : Int) then if false = true then if 1000001 > k then 1000001 else k else if 1000001 < k then 1000001 else k else (-1000001 : Int)))]) = AV.pv (enc y0) ∧ (G ((.tup [(.agg [(.int .i64 y0.1.k), (.sl 2 false (List.map enc y0.1.t))]), (.int .i64 y0.2)]))))) : Gets T_lscale 0 (endP' rs_lscale G) ic_lscale [] (st0 14 [enc a, enc k]) := Gets.tp (.req (.abs (Lin × Int) (fun YY => AV.pv (enc YY)) (.nil))) h (by kernel_rfl)
def ic_negate : IC := (.seq (.reg [⟨(some 1), (.box 2 (.t 0)), 0, none⟩, ⟨(some 2), (.alloc (.agg [(.int .i64 0), (.sl 0 true [])])), 1, none⟩, ⟨(some 3), (.mv (.c (.int .i64 0))), 2, none⟩] none) (.seq (.reg [⟨(some 7), (.load true [(.int .i64), (.sl 2)] (.t 1)), 0, none⟩, ⟨(some 8), (.call (.c (.fn 46)) [(.t 7), (.c (.int .i64 (-1)))]), 0, none⟩, ⟨(some 6), (.mv (.t 8)), 2, none⟩, ⟨(some 9), (.extract (.t 6) 0), 2, none⟩, ⟨(some 10), (.extract (.t 6) 1), 2, none⟩, ⟨(some 4), (.alloc (.agg [(.int .i64 0), (.sl 0 true [])])), 2, none⟩, ⟨none, (.store 2 (.t 4) (.t 9)), 3, none⟩, ⟨(some 5), (.mv (.t 10)), 3, none⟩] none) (.seq (.seq (.reg [⟨(some 11), (.mv (.t 5)), 0, none⟩, ⟨(some 12), (.bin .num .neq (.t 11) (.c (.int .i64 0))), 0, none⟩] none) (.cond (.t 12) (.seq (.reg [⟨(some 13), (.build [(.int .i64 0), (.sl 0 true [])] []), 0, none⟩, ⟨(some 14), (.mv (.t 5)), 0, none⟩, ⟨none, (.store 2 (.t 2) (.t 13)), 0, none⟩, ⟨(some 3), (.mv (.t 14)), 0, none⟩] none) .ret) .skip)) (.seq (.reg [⟨(some 15), (.load true [(.int .i64), (.sl 2)] (.t 4)), 0, none⟩, ⟨(some 16), (.call (.c (.fn 65)) [(.c (.int .i64 (-1)))]), 0, none⟩, ⟨(some 17), (.call (.c (.fn 42)) [(.t 15), (.t 16)]), 2, none⟩, ⟨(some 18), (.extract (.t 17) 0), 4, none⟩, ⟨(some 19), (.extract (.t 17) 1), 4, none⟩, ⟨none, (.store 2 (.t 2) (.t 18)), 4, none⟩, ⟨(some 3), (.mv (.t 19)), 4, none⟩] (some [[], [], [0, 1], [2, 0, 1], [2, 0, 1], [3, 2, 0, 1, 4], [4, 5, 0, 1, 2, 3]])) .ret))))
def rs_negate : List IRes := [(.cell true 2 2), (.tmp 3)]
abbrev nt_negate : Nat := 20
def T_negate : Tab := tab [(46, .pure (preT (fun x : Lin × Int × Unit => linSm x.1)) (valT (fun x : Lin × Int × Unit => scaleL x.1 x.2.1))), (42, .pure (preT (fun x : Lin × Lin × Unit => linSm x.1 && linSm x.2.1)) (valT (fun x : Lin × Lin × Unit => combineL x.1 x.2.1 1))), (65, .pure (preT (fun _ : Int × Unit => true)) (valT (fun x : Int × Unit => (⟨x.1, []⟩ : Lin))))]
theorem negate_s {G : PV -> Prop} (g : Lin) (h : (Go.Pl.preT (fun (x : Lin × Int × Unit) => linSm x.1) [(.agg [(.int .i64 g.k), (.sl 2 false (List.map enc g.t))]), (.int .i64 (-1))]) = true ∧ (∃ y0 : Lin × Int, AV.pv (valT (fun (x : Lin × Int × Unit) => scaleL x.1 x.2.1) [(.agg [(.int .i64 g.k), (.sl 2 false (List.map enc g.t))]), (.int .i64 (-1))]) = AV.pv (enc y0) ∧ (if (y0.2 != 0) = true then G ((.tup [(.agg [(.int .i64 0), (.sl 0 true [])]), (.int .i64 y0.2)])) else (∃ y1 : Lin, AV.pv (valT (fun (x : Int × Unit) => Lin.mk x.1 []) [(.int .i64 (-1))]) = AV.pv (enc y1) ∧ ((Go.Pl.preT (fun (x : Lin × Lin × Unit) => linSm x.1 && linSm x.2.1) [(.agg [(.int .i64 y0.1.k), (.sl 2 false (List.map enc y0.1.t))]), (.agg [(.int .i64 y1.k), (.sl 2 false (List.map enc y1.t))])]) = true ∧ (∃ y2 : Lin × Int, AV.pv (valT (fun (x : Lin × Lin × Unit) => combineL x.1 x.2.1 1) [(.agg [(.int .i64 y0.1.k), (.sl 2 false (List.map enc y0.1.t))]), (.agg [(.int .i64 y1.k), (.sl 2 false (List.map enc y1.t))])]) = AV.pv (enc y2) ∧ (G ((.tup [(.agg [(.int .i64 y2.1.k), (.sl 2 false (List.map enc y2.1.t))]), (.int .i64 y2.2)]))))))))) : Gets T_negate 0 (endP' rs_negate G) ic_negate [] (st0 20 [enc g]) := Gets.tp (.req (.abs (Lin × Int) (fun YY => AV.pv (enc YY)) (.lit (.ask (.nil) (.lit (.abs (Lin) (fun YY => AV.pv (enc YY)) (.req (.abs (Lin × Int) (fun YY => AV.pv (enc YY)) (.nil))))))))) h (by kernel_rfl)
def ic_more : IC := (.seq (.reg [⟨(some 2), (.box 2 (.t 0)), 0, none⟩, ⟨(some 3), (.mv (.c (.sl 0 true []))), 1, none⟩] none) (.seq (.reg [⟨(some 4), (.load false [(.sl 3)] (.t 1)), 0, none⟩, ⟨(some 5), (.load false [(.sl 3)] (.t 1)), 0, none⟩, ⟨(some 6), (.len 1 (.t 5)), 0, none⟩, ⟨(some 7), (.load false [(.sl 3)] (.t 1)), 0, none⟩, ⟨(some 8), (.len 1 (.t 7)), 0, none⟩, ⟨(some 9), (.slc 3 (.t 4) none (some (.t 6)) (some (.t 8))), 0, none⟩, ⟨(some 10), (.load true [(.int .i64), (.sl 2)] (.t 2)), 0, none⟩, ⟨(some 11), (.build [(.bool false), (.int .i64 0), (.sl 0 true [])] [(1, (2, (.t 10)))]), 0, none⟩, ⟨(some 12), (.bslice 83 3 1 (.agg [(.bool false), (.int .i64 0), (.sl 0 true [])]) [(0, (.t 11))]), 0, none⟩, ⟨(some 13), (.append 83 3 40 (.t 9) (.t 12)), 1, none⟩, ⟨(some 3), (.mv (.t 13)), 2, none⟩] (some [[], [], [1], [], [3], [0, 2, 4, 1, 3], [], [6], [7, 6], [5, 8, 0, 2, 4, 1, 3, 7, 6], [9, 0, 1, 2, 3, 4, 5, 6, 7, 8]])) .ret))
def rs_more : List IRes := [(.tmp 3)]
abbrev nt_more : Nat := 14
def T_more : Tab := tab []
theorem more_s {G : AV × List AObj × List AObj -> Prop} (l : Lin) (fs : List Fact) (h : (true && decide (0 <= (↑(List.length (List.map enc fs)) : Int)) && decide (0 <= (↑(List.length (List.map enc fs)) : Int)) && (List.isEmpty (List.map enc fs) || Enc.sz Fact == 3) && decide (0 <= Int.toNat (↑(List.length (List.map enc fs)) : Int)) && decide (Int.toNat (↑(List.length (List.map enc fs)) : Int) <= Int.toNat (↑(List.length (List.map enc fs)) : Int)) && decide (Int.toNat (↑(List.length (List.map enc fs)) : Int) <= List.length (List.map enc fs))) = true ∧ ((decide (Int.toNat (↑(List.length (List.map enc fs)) : Int) = Int.toNat (↑(List.length (List.map enc fs)) : Int))) = true ∧ (((List.isEmpty (List.drop 0 (List.take (Int.toNat (↑(List.length (List.map enc fs)) : Int)) (List.map enc fs))) || Enc.sz Fact == 3) && decide ((List.length (List.drop 0 (List.take (Int.toNat (↑(List.length (List.map enc fs)) : Int)) (List.map enc fs))) + List.length (List.drop 0 (List.take 1 [PV.agg [PV.bool false, enc l.k, enc l.t]]))) * 40 <= 1099511627776) && decide (List.length (List.drop 0 (List.take (Int.toNat (↑(List.length (List.map enc fs)) : Int)) (List.map enc fs))) + List.length (List.drop 0 (List.take 1 [PV.agg [PV.bool false, enc l.k, enc l.t]])) <= 1099511627776)) = true ∧ (G (((.row 1 (List.length (List.drop 0 (List.take (Int.toNat (↑(List.length (List.map enc fs)) : Int)) (List.map enc fs))) + List.length (List.drop 0 (List.take 1 [PV.agg [PV.bool false, enc l.k, enc l.t]]))) 0 (List.length (List.drop 0 (List.take (Int.toNat (↑(List.length (List.map enc fs)) : Int)) (List.map enc fs))) + List.length (List.drop 0 (List.take 1 [PV.agg [PV.bool false, enc l.k, enc l.t]])))), ([(.box [(.pv (.sl 3 false (List.map enc fs)))])], [(.row false 83 3 (List.drop 0 (List.take (Int.toNat (↑(List.length (List.map enc fs)) : Int)) (List.map enc fs)) ++ List.drop 0 (List.take 1 [PV.agg [PV.bool false, enc l.k, enc l.t]])))]))))))) : Gets T_more 1 (endO' 1 rs_more G) ic_more [] (st0O 14 [.pv (enc l), .ptr 0 0] [.box [.pv (enc fs)]]) := Gets.to (.req (.lit (.lit (.req (.lit (.req (.nil))))))) h (by kernel_rfl)
def ic_refy : IC := (.seq (.reg [⟨(some 2), (.box 1 (.t 0)), 0, none⟩, ⟨(some 3), (.box 5 (.t 1)), 1, none⟩, ⟨(some 4), (.mv (.c (.bool false))), 2, none⟩] none) (.seq (.reg [⟨(some 13), (.mkfn 113 [] [(.t 2)]), 0, none⟩, ⟨(some 5), (.mv (.t 13)), 0, none⟩] none) (.seq (.seq (.reg [⟨(some 14), (.faddr 0 (.t 3)), 0, none⟩, ⟨(some 15), (.load false [(.int .i64)] (.t 14)), 0, none⟩] none) (.block 0 (.seq (.reg [⟨(some 17), (.bin .num .eql (.t 15) (.c (.int .i64 1))), 0, none⟩, ⟨(some 16), (.mv (.t 17)), 0, none⟩] none) (.cond (.t 16) (.seq (.reg [⟨(some 19), (.load false [(.sl 3)] (.t 2)), 0, none⟩, ⟨(some 20), (.faddr 1 (.t 3)), 0, none⟩, ⟨(some 21), (.load false [(.sl 1)] (.t 20)), 0, none⟩, ⟨(some 22), (.call (.c (.fn 68)) [(.t 19), (.t 21)]), 0, none⟩, ⟨(some 18), (.mv (.t 22)), 2, none⟩, ⟨(some 23), (.extract (.t 18) 0), 2, none⟩, ⟨(some 24), (.extract (.t 18) 1), 2, none⟩, ⟨(some 25), (.extract (.t 18) 2), 2, none⟩, ⟨(some 6), (.mv (.t 23)), 2, none⟩, ⟨(some 7), (.mv (.t 24)), 2, none⟩, ⟨(some 8), (.mv (.t 25)), 2, none⟩] none) (.seq (.reg [⟨(some 26), (.load true [(.int .i64), (.sl 1), (.int .i64), (.sl 2), (.sl 5)] (.t 3)), 0, none⟩, ⟨(some 27), (.call (.c (.fn 114)) [(.t 26), (.c (.int .i64 0)), (.c (.bool true))]), 0, none⟩, ⟨(some 28), (.mv (.t 27)), 2, none⟩, ⟨(some 29), (.mv (.t 8)), 2, (some (28, true))⟩, ⟨(some 30), (.pick (.t 28) (.t 29) (.c (.bool false))), 2, none⟩, ⟨(some 31), (.mv (.t 30)), 2, none⟩, ⟨(some 32), (.mv (.t 7)), 2, (some (31, true))⟩, ⟨(some 33), (.len 2 (.t 32)), 2, (some (31, true))⟩, ⟨(some 34), (.bin .num .eql (.t 33) (.c (.int .i64 0))), 2, (some (31, true))⟩, ⟨(some 35), (.pick (.t 31) (.t 34) (.c (.bool false))), 2, none⟩, ⟨(some 36), (.mv (.t 35)), 2, none⟩, ⟨(some 37), (.mv (.t 6)), 2, (some (36, true))⟩, ⟨(some 38), (.bin .num .lss (.t 37) (.c (.int .i64 0))), 2, (some (36, true))⟩, ⟨(some 39), (.pick (.t 36) (.t 38) (.c (.bool false))), 2, none⟩, ⟨(some 4), (.mv (.t 39)), 2, none⟩] none) .ret)) (.seq (.reg [⟨(some 41), (.bin .num .eql (.t 15) (.c (.int .i64 2))), 0, none⟩, ⟨(some 40), (.mv (.t 41)), 0, none⟩] none) (.cond (.t 40) (.seq (.seq (.reg [⟨(some 42), (.load true [(.int .i64), (.sl 1), (.int .i64), (.sl 2), (.sl 5)] (.t 3)), 0, none⟩, ⟨(some 43), (.call (.c (.fn 114)) [(.t 42), (.c (.int .i64 1)), (.c (.bool true))]), 0, none⟩, ⟨(some 44), (.un .not (.t 43)), 2, none⟩] none) (.cond (.t 44) (.seq (.reg [⟨(some 4), (.mv (.c (.bool false))), 0, none⟩] none) .ret) .skip)) (.seq (.reg [⟨(some 46), (.load false [(.sl 3)] (.t 2)), 0, none⟩, ⟨(some 47), (.faddr 1 (.t 3)), 0, none⟩, ⟨(some 48), (.load false [(.sl 1)] (.t 47)), 0, none⟩, ⟨(some 49), (.call (.c (.fn 26)) [(.t 46), (.t 48)]), 0, none⟩, ⟨(some 45), (.mv (.t 49)), 2, none⟩, ⟨(some 50), (.extract (.t 45) 0), 2, none⟩, ⟨(some 51), (.extract (.t 45) 1), 2, none⟩, ⟨(some 9), (.alloc (.agg [(.int .i64 0), (.sl 0 true [])])), 2, none⟩, ⟨none, (.store 2 (.t 9) (.t 50)), 3, none⟩, ⟨(some 10), (.mv (.t 51)), 3, none⟩] none) (.seq (.reg [⟨(some 52), (.mv (.t 10)), 0, none⟩, ⟨(some 53), (.bin .num .eql (.t 52) (.c (.int .i64 0))), 0, none⟩, ⟨(some 54), (.mv (.t 53)), 0, none⟩, ⟨(some 55), (.mv (.t 5)), 0, (some (54, true))⟩, ⟨(some 56), (.load true [(.int .i64), (.sl 2)] (.t 9)), 0, (some (54, true))⟩, ⟨(some 57), (.call (.t 55) [(.t 56)]), 0, (some (54, true))⟩, ⟨(some 58), (.faddr 4 (.t 3)), 2, (some (54, true))⟩, ⟨(some 59), (.load false [(.sl 5)] (.t 58)), 2, (some (54, true))⟩, ⟨(some 60), (.iaddr 5 (.t 59) (.c (.int .i64 0))), 2, (some (54, true))⟩, ⟨(some 61), (.load true [(.int .i64), (.sl 1), (.int .i64), (.sl 2), (.sl 5)] (.t 60)), 2, (some (54, true))⟩, ⟨(some 62), (.call (.c (.fn 62)) [(.t 57), (.t 61)]), 2, (some (54, true))⟩, ⟨(some 63), (.pick (.t 54) (.t 62) (.c (.bool false))), 4, none⟩, ⟨(some 4), (.mv (.t 63)), 4, none⟩] (some [[], [0], [1, 0], [2, 1, 0], [2, 1, 0], [3, 4, 2, 1, 0], [2, 1, 0], [6, 2, 1, 0], [7, 2, 6, 1, 0], [8, 2, 7, 6, 1, 0], [5, 9, 2, 3, 4, 1, 0, 8, 7, 6], [2, 10, 1, 0, 5, 9, 3, 4, 8, 7, 6], [11, 10, 0, 1, 2, 3, 4, 5, 6, 7, 8, 9]])) .ret))) (.seq (.reg [⟨(some 65), (.bin .num .eql (.t 15) (.c (.int .i64 3))), 0, none⟩, ⟨(some 64), (.mv (.t 65)), 0, none⟩] none) (.cond (.t 64) (.seq (.seq (.reg [⟨(some 66), (.load true [(.int .i64), (.sl 1), (.int .i64), (.sl 2), (.sl 5)] (.t 3)), 0, none⟩, ⟨(some 67), (.call (.c (.fn 114)) [(.t 66), (.c (.int .i64 2)), (.c (.bool false))]), 0, none⟩, ⟨(some 68), (.un .not (.t 67)), 2, none⟩] none) (.cond (.t 68) (.seq (.reg [⟨(some 4), (.mv (.c (.bool false))), 0, none⟩] none) .ret) .skip)) (.seq (.reg [⟨(some 70), (.faddr 2 (.t 3)), 0, none⟩, ⟨(some 71), (.load true [(.int .i64), (.sl 2)] (.t 70)), 0, none⟩, ⟨(some 72), (.call (.c (.fn 21)) [(.t 71)]), 0, none⟩, ⟨(some 69), (.mv (.t 72)), 2, none⟩, ⟨(some 73), (.extract (.t 69) 0), 2, none⟩, ⟨(some 74), (.extract (.t 69) 1), 2, none⟩, ⟨(some 11), (.alloc (.agg [(.int .i64 0), (.sl 0 true [])])), 2, none⟩, ⟨none, (.store 2 (.t 11) (.t 73)), 3, none⟩, ⟨(some 12), (.mv (.t 74)), 3, none⟩] none) (.seq (.reg [⟨(some 75), (.mv (.t 12)), 0, none⟩, ⟨(some 76), (.bin .num .eql (.t 75) (.c (.int .i64 0))), 0, none⟩, ⟨(some 77), (.mv (.t 76)), 0, none⟩, ⟨(some 78), (.mv (.t 5)), 0, (some (77, true))⟩, ⟨(some 79), (.faddr 2 (.t 3)), 0, (some (77, true))⟩, ⟨(some 80), (.load true [(.int .i64), (.sl 2)] (.t 79)), 0, (some (77, true))⟩, ⟨(some 81), (.call (.t 78) [(.t 80)]), 0, (some (77, true))⟩, ⟨(some 82), (.faddr 4 (.t 3)), 2, (some (77, true))⟩, ⟨(some 83), (.load false [(.sl 5)] (.t 82)), 2, (some (77, true))⟩, ⟨(some 84), (.iaddr 5 (.t 83) (.c (.int .i64 0))), 2, (some (77, true))⟩, ⟨(some 85), (.load true [(.int .i64), (.sl 1), (.int .i64), (.sl 2), (.sl 5)] (.t 84)), 2, (some (77, true))⟩, ⟨(some 86), (.call (.c (.fn 62)) [(.t 81), (.t 85)]), 2, (some (77, true))⟩, ⟨(some 87), (.pick (.t 77) (.t 86) (.c (.bool false))), 4, none⟩, ⟨(some 88), (.mv (.t 87)), 4, none⟩, ⟨(some 89), (.mv (.t 5)), 4, (some (88, true))⟩, ⟨(some 90), (.load true [(.int .i64), (.sl 2)] (.t 11)), 4, (some (88, true))⟩, ⟨(some 91), (.call (.t 89) [(.t 90)]), 4, (some (88, true))⟩, ⟨(some 92), (.faddr 4 (.t 3)), 6, (some (88, true))⟩, ⟨(some 93), (.load false [(.sl 5)] (.t 92)), 6, (some (88, true))⟩, ⟨(some 94), (.iaddr 5 (.t 93) (.c (.int .i64 1))), 6, (some (88, true))⟩, ⟨(some 95), (.load true [(.int .i64), (.sl 1), (.int .i64), (.sl 2), (.sl 5)] (.t 94)), 6, (some (88, true))⟩, ⟨(some 96), (.call (.c (.fn 62)) [(.t 91), (.t 95)]), 6, (some (88, true))⟩, ⟨(some 97), (.pick (.t 88) (.t 96) (.c (.bool false))), 8, none⟩, ⟨(some 4), (.mv (.t 97)), 8, none⟩] (some [[], [0], [1, 0], [2, 1, 0], [2, 1, 0], [4, 2, 1, 0], [3, 5, 2, 1, 0, 4], [2, 1, 0], [7, 2, 1, 0], [8, 2, 7, 1, 0], [9, 2, 8, 7, 1, 0], [6, 10, 2, 3, 5, 1, 0, 4, 9, 8, 7], [2, 11, 1, 0, 6, 10, 3, 5, 4, 9, 8, 7], [12, 11, 2, 1, 0, 6, 10, 3, 5, 4, 9, 8, 7], [13, 12, 11, 2, 1, 0, 6, 10, 3, 5, 4, 9, 8, 7], [13, 12, 11, 2, 1, 0, 6, 10, 3, 5, 4, 9, 8, 7], [14, 15, 13, 12, 11, 2, 1, 0, 6, 10, 3, 5, 4, 9, 8, 7], [13, 12, 11, 2, 1, 0, 6, 10, 3, 5, 4, 9, 8, 7], [17, 13, 12, 11, 2, 1, 0, 6, 10, 3, 5, 4, 9, 8, 7], [18, 13, 17, 12, 11, 2, 1, 0, 6, 10, 3, 5, 4, 9, 8, 7], [19, 13, 18, 17, 12, 11, 2, 1, 0, 6, 10, 3, 5, 4, 9, 8, 7], [16, 20, 13, 14, 15, 12, 11, 2, 1, 0, 6, 10, 3, 5, 4, 9, 8, 7, 19, 18, 17], [13, 21, 12, 11, 2, 1, 0, 6, 10, 3, 5, 4, 9, 8, 7, 16, 20, 14, 15, 19, 18, 17], [22, 21, 0, 1, 2, 3, 4, 5, 6, 7, 8, 9, 10, 11, 12, 13, 14, 15, 16, 17, 18, 19, 20]])) .ret))) .skip)))))))) (.seq (.reg [⟨(some 4), (.mv (.c (.bool false))), 0, none⟩] none) .ret))))
def rs_refy : List IRes := [(.tmp 4)]
abbrev nt_refy : Nat := 98
def T_refy (N : Nat) : Tab := tab [(62, .pure (preT (fun x : List Fact × Cert × Unit => factsSm x.1 && valid7 x.1 && cSm x.2.1 && decide (x.1.length + depC x.2.1 <= 300) && decide (depC x.2.1 < N))) (valT (fun x : List Fact × Cert × Unit => refC x.1 x.2.1))), (113, .own pre_more val_more), (68, .own pre_combY val_combY), (114, .pure (preT (fun _ : Cert × Int × Bool × Unit => true)) (valT (fun x : Cert × Int × Bool × Unit => bareB x.1 x.2.1 x.2.2.1))), (26, .pure (preT (fun x : List Fact × List Int × Unit => factsSm x.1 && decide (x.1.length <= 300))) (valT (fun x : List Fact × List Int × Unit => cutL x.1 x.2.1))), (21, .pure (preT (fun x : Lin × Unit => linSm x.1)) (valT (fun x : Lin × Unit => negL x.1)))]
theorem refy_s {G : PV -> Prop} (N : Nat) (fs : List Fact) (k : Int) (m : List Int) (l : Lin) (ks : List Cert) (h : if (k == 1) = true then (pre_combY [(.pv (.sl 3 false (List.map enc fs))), (.pv (.sl 1 false (List.map enc m)))] []) = true ∧ ((Go.Pl.preT (fun (x : Cert × Int × Bool × Unit) => true) [(.agg [(.int .i64 k), (.sl 1 false (List.map enc m)), (.int .i64 l.k), (.sl 2 false (List.map enc l.t)), (.sl 5 false (List.map enc ks))]), (.int .i64 0), (.bool true)]) = true ∧ (∃ y0 : Bool, AV.pv (valT (fun (x : Cert × Int × Bool × Unit) => bareB x.1 x.2.1 x.2.2.1) [(.agg [(.int .i64 k), (.sl 1 false (List.map enc m)), (.int .i64 l.k), (.sl 2 false (List.map enc l.t)), (.sl 5 false (List.map enc ks))]), (.int .i64 0), (.bool true)]) = AV.pv (enc y0) ∧ (if (y0) = true then if ((↑(List.length (mapP (nzM (Prod.snd (combF (enc fs) (enc m)))))) : Int) == 0) = true then G ((.bool (decide (Prod.fst (combF (enc fs) (enc m)) < 0)))) else (G ((.bool false))) else (G ((.bool false)))))) else (if (k == 2) = true then (Go.Pl.preT (fun (x : Cert × Int × Bool × Unit) => true) [(.agg [(.int .i64 k), (.sl 1 false (List.map enc m)), (.int .i64 l.k), (.sl 2 false (List.map enc l.t)), (.sl 5 false (List.map enc ks))]), (.int .i64 1), (.bool true)]) = true ∧ (∃ y1 : Bool, AV.pv (valT (fun (x : Cert × Int × Bool × Unit) => bareB x.1 x.2.1 x.2.2.1) [(.agg [(.int .i64 k), (.sl 1 false (List.map enc m)), (.int .i64 l.k), (.sl 2 false (List.map enc l.t)), (.sl 5 false (List.map enc ks))]), (.int .i64 1), (.bool true)]) = AV.pv (enc y1) ∧ (if (!y1) = true then G ((.bool false)) else ((Go.Pl.preT (fun (x : List Fact × List Int × Unit) => factsSm x.1 && decide (List.length x.1 <= 300)) [(.sl 3 false (List.map enc fs)), (.sl 1 false (List.map enc m))]) = true ∧ (∃ y2 : Lin × Int, AV.pv (valT (fun (x : List Fact × List Int × Unit) => cutL x.1 x.2.1) [(.sl 3 false (List.map enc fs)), (.sl 1 false (List.map enc m))]) = AV.pv (enc y2) ∧ (if (y2.2 == 0) = true then (pre_more [(.pv (.agg [(.int .i64 y2.1.k), (.sl 2 false (List.map enc y2.1.t))])), (.ptr 0 0)] [(.box [(.pv (.sl 3 false (List.map enc fs)))])]) = true ∧ ((decide (0 <= 0) && decide (Int.toNat 0 < List.length (List.map enc ks)) && Enc.sz Cert == 5) = true ∧ (∃ y3 : Cert, AV.pv (PV.rptr (PV.cells (List.getD (List.map enc ks) (Int.toNat 0) default))) = AV.pv (PV.rptr (PV.cells ((enc) y3))) ∧ ((decide (0 + List.length [Sh.int .i64, Sh.sl 1, Sh.int .i64, Sh.sl 2, Sh.sl 5] <= List.length (PV.cells (enc y3))) && shFit (PV.cells (enc y3)) 0 [Sh.int .i64, Sh.sl 1, Sh.int .i64, Sh.sl 2, Sh.sl 5]) = true ∧ ((List.length (List.map enc (moreP (enc fs) (PV.agg [enc y2.1.k, enc y2.1.t]))) == List.length (moreP (enc fs) (PV.agg [enc y2.1.k, enc y2.1.t]))) = true ∧ ((Go.Pl.preT (fun (x : List Fact × Cert × Unit) => factsSm x.1 && valid7 x.1 && cSm x.2.1 && decide (List.length x.1 + depC x.2.1 <= 300) && decide (depC x.2.1 < N)) [(.sl 3 false (List.drop 0 (List.take (List.length (moreP (enc fs) (PV.agg [enc y2.1.k, enc y2.1.t]))) (List.map enc (moreP (enc fs) (PV.agg [enc y2.1.k, enc y2.1.t])))))), (.agg [(.int .i64 (PV.asInt (List.getD (PV.cells (enc y3)) 0 default))), (.sl 1 (PV.asT (List.getD (PV.cells (enc y3)) (0 + 1) default)) (PV.asXs (List.getD (PV.cells (enc y3)) (0 + 1) default))), (.int .i64 (PV.asInt (List.getD (PV.cells (enc y3)) (0 + 1 + 1) default))), (.sl 2 (PV.asT (List.getD (PV.cells (enc y3)) (0 + 1 + 1 + 1) default)) (PV.asXs (List.getD (PV.cells (enc y3)) (0 + 1 + 1 + 1) default))), (.sl 5 (PV.asT (List.getD (PV.cells (enc y3)) (0 + 1 + 1 + 1 + 1) default)) (PV.asXs (List.getD (PV.cells (enc y3)) (0 + 1 + 1 + 1 + 1) default)))])]) = true ∧ (∃ y4 : Bool, AV.pv (valT (fun (x : List Fact × Cert × Unit) => refC x.1 x.2.1) [(.sl 3 false (List.drop 0 (List.take (List.length (moreP (enc fs) (PV.agg [enc y2.1.k, enc y2.1.t]))) (List.map enc (moreP (enc fs) (PV.agg [enc y2.1.k, enc y2.1.t])))))), (.agg [(.int .i64 (PV.asInt (List.getD (PV.cells (enc y3)) 0 default))), (.sl 1 (PV.asT (List.getD (PV.cells (enc y3)) (0 + 1) default)) (PV.asXs (List.getD (PV.cells (enc y3)) (0 + 1) default))), (.int .i64 (PV.asInt (List.getD (PV.cells (enc y3)) (0 + 1 + 1) default))), (.sl 2 (PV.asT (List.getD (PV.cells (enc y3)) (0 + 1 + 1 + 1) default)) (PV.asXs (List.getD (PV.cells (enc y3)) (0 + 1 + 1 + 1) default))), (.sl 5 (PV.asT (List.getD (PV.cells (enc y3)) (0 + 1 + 1 + 1 + 1) default)) (PV.asXs (List.getD (PV.cells (enc y3)) (0 + 1 + 1 + 1 + 1) default)))])]) = AV.pv (enc y4) ∧ (G ((.bool y4))))))))) else (G ((.bool false)))))))) else (if (k == 3) = true then (Go.Pl.preT (fun (x : Cert × Int × Bool × Unit) => true) [(.agg [(.int .i64 k), (.sl 1 false (List.map enc m)), (.int .i64 l.k), (.sl 2 false (List.map enc l.t)), (.sl 5 false (List.map enc ks))]), (.int .i64 2), (.bool false)]) = true ∧ (∃ y5 : Bool, AV.pv (valT (fun (x : Cert × Int × Bool × Unit) => bareB x.1 x.2.1 x.2.2.1) [(.agg [(.int .i64 k), (.sl 1 false (List.map enc m)), (.int .i64 l.k), (.sl 2 false (List.map enc l.t)), (.sl 5 false (List.map enc ks))]), (.int .i64 2), (.bool false)]) = AV.pv (enc y5) ∧ (if (!y5) = true then G ((.bool false)) else ((Go.Pl.preT (fun (x : Lin × Unit) => linSm x.1) [(.agg [(.int .i64 l.k), (.sl 2 false (List.map enc l.t))])]) = true ∧ (∃ y6 : Lin × Int, AV.pv (valT (fun (x : Lin × Unit) => negL x.1) [(.agg [(.int .i64 l.k), (.sl 2 false (List.map enc l.t))])]) = AV.pv (enc y6) ∧ (if (y6.2 == 0) = true then (pre_more [(.pv (.agg [(.int .i64 l.k), (.sl 2 false (List.map enc l.t))])), (.ptr 0 0)] [(.box [(.pv (.sl 3 false (List.map enc fs)))])]) = true ∧ ((decide (0 <= 0) && decide (Int.toNat 0 < List.length (List.map enc ks)) && Enc.sz Cert == 5) = true ∧ (∃ y7 : Cert, AV.pv (PV.rptr (PV.cells (List.getD (List.map enc ks) (Int.toNat 0) default))) = AV.pv (PV.rptr (PV.cells ((enc) y7))) ∧ ((decide (0 + List.length [Sh.int .i64, Sh.sl 1, Sh.int .i64, Sh.sl 2, Sh.sl 5] <= List.length (PV.cells (enc y7))) && shFit (PV.cells (enc y7)) 0 [Sh.int .i64, Sh.sl 1, Sh.int .i64, Sh.sl 2, Sh.sl 5]) = true ∧ ((List.length (List.map enc (moreP (enc fs) (PV.agg [enc l.k, enc l.t]))) == List.length (moreP (enc fs) (PV.agg [enc l.k, enc l.t]))) = true ∧ ((Go.Pl.preT (fun (x : List Fact × Cert × Unit) => factsSm x.1 && valid7 x.1 && cSm x.2.1 && decide (List.length x.1 + depC x.2.1 <= 300) && decide (depC x.2.1 < N)) [(.sl 3 false (List.drop 0 (List.take (List.length (moreP (enc fs) (PV.agg [enc l.k, enc l.t]))) (List.map enc (moreP (enc fs) (PV.agg [enc l.k, enc l.t])))))), (.agg [(.int .i64 (PV.asInt (List.getD (PV.cells (enc y7)) 0 default))), (.sl 1 (PV.asT (List.getD (PV.cells (enc y7)) (0 + 1) default)) (PV.asXs (List.getD (PV.cells (enc y7)) (0 + 1) default))), (.int .i64 (PV.asInt (List.getD (PV.cells (enc y7)) (0 + 1 + 1) default))), (.sl 2 (PV.asT (List.getD (PV.cells (enc y7)) (0 + 1 + 1 + 1) default)) (PV.asXs (List.getD (PV.cells (enc y7)) (0 + 1 + 1 + 1) default))), (.sl 5 (PV.asT (List.getD (PV.cells (enc y7)) (0 + 1 + 1 + 1 + 1) default)) (PV.asXs (List.getD (PV.cells (enc y7)) (0 + 1 + 1 + 1 + 1) default)))])]) = true ∧ (∃ y8 : Bool, AV.pv (valT (fun (x : List Fact × Cert × Unit) => refC x.1 x.2.1) [(.sl 3 false (List.drop 0 (List.take (List.length (moreP (enc fs) (PV.agg [enc l.k, enc l.t]))) (List.map enc (moreP (enc fs) (PV.agg [enc l.k, enc l.t])))))), (.agg [(.int .i64 (PV.asInt (List.getD (PV.cells (enc y7)) 0 default))), (.sl 1 (PV.asT (List.getD (PV.cells (enc y7)) (0 + 1) default)) (PV.asXs (List.getD (PV.cells (enc y7)) (0 + 1) default))), (.int .i64 (PV.asInt (List.getD (PV.cells (enc y7)) (0 + 1 + 1) default))), (.sl 2 (PV.asT (List.getD (PV.cells (enc y7)) (0 + 1 + 1 + 1) default)) (PV.asXs (List.getD (PV.cells (enc y7)) (0 + 1 + 1 + 1) default))), (.sl 5 (PV.asT (List.getD (PV.cells (enc y7)) (0 + 1 + 1 + 1 + 1) default)) (PV.asXs (List.getD (PV.cells (enc y7)) (0 + 1 + 1 + 1 + 1) default)))])]) = AV.pv (enc y8) ∧ (if (y8) = true then (pre_more [(.pv (.agg [(.int .i64 y6.1.k), (.sl 2 false (List.map enc y6.1.t))])), (.ptr 0 0)] [(.box [(.pv (.sl 3 false (List.map enc fs)))])]) = true ∧ ((decide (0 <= 1) && decide (Int.toNat 1 < List.length (List.map enc ks)) && Enc.sz Cert == 5) = true ∧ (∃ y9 : Cert, AV.pv (PV.rptr (PV.cells (List.getD (List.map enc ks) (Int.toNat 1) default))) = AV.pv (PV.rptr (PV.cells ((enc) y9))) ∧ ((decide (0 + List.length [Sh.int .i64, Sh.sl 1, Sh.int .i64, Sh.sl 2, Sh.sl 5] <= List.length (PV.cells (enc y9))) && shFit (PV.cells (enc y9)) 0 [Sh.int .i64, Sh.sl 1, Sh.int .i64, Sh.sl 2, Sh.sl 5]) = true ∧ ((List.length (List.map enc (moreP (enc fs) (PV.agg [enc y6.1.k, enc y6.1.t]))) == List.length (moreP (enc fs) (PV.agg [enc y6.1.k, enc y6.1.t]))) = true ∧ ((Go.Pl.preT (fun (x : List Fact × Cert × Unit) => factsSm x.1 && valid7 x.1 && cSm x.2.1 && decide (List.length x.1 + depC x.2.1 <= 300) && decide (depC x.2.1 < N)) [(.sl 3 false (List.drop 0 (List.take (List.length (moreP (enc fs) (PV.agg [enc y6.1.k, enc y6.1.t]))) (List.map enc (moreP (enc fs) (PV.agg [enc y6.1.k, enc y6.1.t])))))), (.agg [(.int .i64 (PV.asInt (List.getD (PV.cells (enc y9)) 0 default))), (.sl 1 (PV.asT (List.getD (PV.cells (enc y9)) (0 + 1) default)) (PV.asXs (List.getD (PV.cells (enc y9)) (0 + 1) default))), (.int .i64 (PV.asInt (List.getD (PV.cells (enc y9)) (0 + 1 + 1) default))), (.sl 2 (PV.asT (List.getD (PV.cells (enc y9)) (0 + 1 + 1 + 1) default)) (PV.asXs (List.getD (PV.cells (enc y9)) (0 + 1 + 1 + 1) default))), (.sl 5 (PV.asT (List.getD (PV.cells (enc y9)) (0 + 1 + 1 + 1 + 1) default)) (PV.asXs (List.getD (PV.cells (enc y9)) (0 + 1 + 1 + 1 + 1) default)))])]) = true ∧ (∃ y10 : Bool, AV.pv (valT (fun (x : List Fact × Cert × Unit) => refC x.1 x.2.1) [(.sl 3 false (List.drop 0 (List.take (List.length (moreP (enc fs) (PV.agg [enc y6.1.k, enc y6.1.t]))) (List.map enc (moreP (enc fs) (PV.agg [enc y6.1.k, enc y6.1.t])))))), (.agg [(.int .i64 (PV.asInt (List.getD (PV.cells (enc y9)) 0 default))), (.sl 1 (PV.asT (List.getD (PV.cells (enc y9)) (0 + 1) default)) (PV.asXs (List.getD (PV.cells (enc y9)) (0 + 1) default))), (.int .i64 (PV.asInt (List.getD (PV.cells (enc y9)) (0 + 1 + 1) default))), (.sl 2 (PV.asT (List.getD (PV.cells (enc y9)) (0 + 1 + 1 + 1) default)) (PV.asXs (List.getD (PV.cells (enc y9)) (0 + 1 + 1 + 1) default))), (.sl 5 (PV.asT (List.getD (PV.cells (enc y9)) (0 + 1 + 1 + 1 + 1) default)) (PV.asXs (List.getD (PV.cells (enc y9)) (0 + 1 + 1 + 1 + 1) default)))])]) = AV.pv (enc y10) ∧ (G ((.bool y10))))))))) else (G ((.bool false)))))))))) else (G ((.bool false)))))))) else (G ((.bool false)))))) : Gets (T_refy N) 0 (endP' rs_refy G) ic_refy [] (st0 98 [enc fs, .agg [enc k, enc m, enc l.k, enc l.t, enc ks]]) := Gets.tp (.lit (.ask (.req (.keep (.req (.abs (Bool) (fun YY => AV.pv (enc YY)) (.ask (.lit (.lit (.lit (.lit (.lit (.lit (.ask (.lit (.lit (.lit (.nil)))) (.lit (.lit (.nil)))))))))) (.lit (.lit (.lit (.lit (.lit (.lit (.lit (.lit (.nil)))))))))))))) (.lit (.ask (.req (.abs (Bool) (fun YY => AV.pv (enc YY)) (.ask (.nil) (.req (.abs (Lin × Int) (fun YY => AV.pv (enc YY)) (.lit (.ask (.lit (.lit (.req (.keep (.lit (.lit (.lit (.req (.abs (Cert) (fun YY => AV.pv (PV.rptr (PV.cells ((enc) YY)))) (.lit (.req (.lit (.req (.req (.abs (Bool) (fun YY => AV.pv (enc YY)) (.lit (.nil))))))))))))))))) (.lit (.lit (.lit (.lit (.lit (.lit (.lit (.lit (.nil)))))))))))))))) (.lit (.ask (.req (.abs (Bool) (fun YY => AV.pv (enc YY)) (.ask (.nil) (.req (.abs (Lin × Int) (fun YY => AV.pv (enc YY)) (.lit (.ask (.lit (.lit (.lit (.req (.keep (.lit (.lit (.lit (.req (.abs (Cert) (fun YY => AV.pv (PV.rptr (PV.cells ((enc) YY)))) (.lit (.req (.lit (.req (.req (.abs (Bool) (fun YY => AV.pv (enc YY)) (.lit (.ask (.lit (.lit (.req (.keep (.lit (.lit (.lit (.req (.abs (Cert) (fun YY => AV.pv (PV.rptr (PV.cells ((enc) YY)))) (.lit (.req (.lit (.req (.req (.abs (Bool) (fun YY => AV.pv (enc YY)) (.lit (.nil))))))))))))))))) (.lit (.lit (.lit (.lit (.lit (.lit (.lit (.lit (.nil))))))))))))))))))))))))))) (.lit (.lit (.lit (.lit (.lit (.lit (.lit (.lit (.lit (.lit (.lit (.lit (.lit (.lit (.lit (.lit (.lit (.lit (.nil)))))))))))))))))))))))))) (.nil))))))) h (by kernel_rfl)
def ic_refn : IC := ic_refy
def rs_refn : List IRes := [(.tmp 4)]
abbrev nt_refn : Nat := 98
def T_refn (N : Nat) : Tab := tab [(62, .pure (preT (fun x : List Fact × Cert × Unit => factsSm x.1 && valid7 x.1 && cSm x.2.1 && decide (x.1.length + depC x.2.1 <= 300) && decide (depC x.2.1 < N))) (valT (fun x : List Fact × Cert × Unit => refC x.1 x.2.1))), (113, .own pre_more val_more), (68, .own pre_combN val_combN), (114, .pure (preT (fun _ : Cert × Int × Bool × Unit => true)) (valT (fun x : Cert × Int × Bool × Unit => bareB x.1 x.2.1 x.2.2.1))), (26, .pure (preT (fun x : List Fact × List Int × Unit => factsSm x.1 && decide (x.1.length <= 300))) (valT (fun x : List Fact × List Int × Unit => cutL x.1 x.2.1))), (21, .pure (preT (fun x : Lin × Unit => linSm x.1)) (valT (fun x : Lin × Unit => negL x.1)))]
theorem refn_s {G : PV -> Prop} (N : Nat) (fs : List Fact) (k : Int) (m : List Int) (l : Lin) (ks : List Cert) (h : if (k == 1) = true then (pre_combN [(.pv (.sl 3 false (List.map enc fs))), (.pv (.sl 1 false (List.map enc m)))] []) = true ∧ ((Go.Pl.preT (fun (x : Cert × Int × Bool × Unit) => true) [(.agg [(.int .i64 k), (.sl 1 false (List.map enc m)), (.int .i64 l.k), (.sl 2 false (List.map enc l.t)), (.sl 5 false (List.map enc ks))]), (.int .i64 0), (.bool true)]) = true ∧ (∃ y0 : Bool, AV.pv (valT (fun (x : Cert × Int × Bool × Unit) => bareB x.1 x.2.1 x.2.2.1) [(.agg [(.int .i64 k), (.sl 1 false (List.map enc m)), (.int .i64 l.k), (.sl 2 false (List.map enc l.t)), (.sl 5 false (List.map enc ks))]), (.int .i64 0), (.bool true)]) = AV.pv (enc y0) ∧ (if (y0) = true then G ((.bool false)) else (G ((.bool false)))))) else (if (k == 2) = true then (Go.Pl.preT (fun (x : Cert × Int × Bool × Unit) => true) [(.agg [(.int .i64 k), (.sl 1 false (List.map enc m)), (.int .i64 l.k), (.sl 2 false (List.map enc l.t)), (.sl 5 false (List.map enc ks))]), (.int .i64 1), (.bool true)]) = true ∧ (∃ y1 : Bool, AV.pv (valT (fun (x : Cert × Int × Bool × Unit) => bareB x.1 x.2.1 x.2.2.1) [(.agg [(.int .i64 k), (.sl 1 false (List.map enc m)), (.int .i64 l.k), (.sl 2 false (List.map enc l.t)), (.sl 5 false (List.map enc ks))]), (.int .i64 1), (.bool true)]) = AV.pv (enc y1) ∧ (if (!y1) = true then G ((.bool false)) else ((Go.Pl.preT (fun (x : List Fact × List Int × Unit) => factsSm x.1 && decide (List.length x.1 <= 300)) [(.sl 3 false (List.map enc fs)), (.sl 1 false (List.map enc m))]) = true ∧ (∃ y2 : Lin × Int, AV.pv (valT (fun (x : List Fact × List Int × Unit) => cutL x.1 x.2.1) [(.sl 3 false (List.map enc fs)), (.sl 1 false (List.map enc m))]) = AV.pv (enc y2) ∧ (if (y2.2 == 0) = true then (pre_more [(.pv (.agg [(.int .i64 y2.1.k), (.sl 2 false (List.map enc y2.1.t))])), (.ptr 0 0)] [(.box [(.pv (.sl 3 false (List.map enc fs)))])]) = true ∧ ((decide (0 <= 0) && decide (Int.toNat 0 < List.length (List.map enc ks)) && Enc.sz Cert == 5) = true ∧ (∃ y3 : Cert, AV.pv (PV.rptr (PV.cells (List.getD (List.map enc ks) (Int.toNat 0) default))) = AV.pv (PV.rptr (PV.cells ((enc) y3))) ∧ ((decide (0 + List.length [Sh.int .i64, Sh.sl 1, Sh.int .i64, Sh.sl 2, Sh.sl 5] <= List.length (PV.cells (enc y3))) && shFit (PV.cells (enc y3)) 0 [Sh.int .i64, Sh.sl 1, Sh.int .i64, Sh.sl 2, Sh.sl 5]) = true ∧ ((List.length (List.map enc (moreP (enc fs) (PV.agg [enc y2.1.k, enc y2.1.t]))) == List.length (moreP (enc fs) (PV.agg [enc y2.1.k, enc y2.1.t]))) = true ∧ ((Go.Pl.preT (fun (x : List Fact × Cert × Unit) => factsSm x.1 && valid7 x.1 && cSm x.2.1 && decide (List.length x.1 + depC x.2.1 <= 300) && decide (depC x.2.1 < N)) [(.sl 3 false (List.drop 0 (List.take (List.length (moreP (enc fs) (PV.agg [enc y2.1.k, enc y2.1.t]))) (List.map enc (moreP (enc fs) (PV.agg [enc y2.1.k, enc y2.1.t])))))), (.agg [(.int .i64 (PV.asInt (List.getD (PV.cells (enc y3)) 0 default))), (.sl 1 (PV.asT (List.getD (PV.cells (enc y3)) (0 + 1) default)) (PV.asXs (List.getD (PV.cells (enc y3)) (0 + 1) default))), (.int .i64 (PV.asInt (List.getD (PV.cells (enc y3)) (0 + 1 + 1) default))), (.sl 2 (PV.asT (List.getD (PV.cells (enc y3)) (0 + 1 + 1 + 1) default)) (PV.asXs (List.getD (PV.cells (enc y3)) (0 + 1 + 1 + 1) default))), (.sl 5 (PV.asT (List.getD (PV.cells (enc y3)) (0 + 1 + 1 + 1 + 1) default)) (PV.asXs (List.getD (PV.cells (enc y3)) (0 + 1 + 1 + 1 + 1) default)))])]) = true ∧ (∃ y4 : Bool, AV.pv (valT (fun (x : List Fact × Cert × Unit) => refC x.1 x.2.1) [(.sl 3 false (List.drop 0 (List.take (List.length (moreP (enc fs) (PV.agg [enc y2.1.k, enc y2.1.t]))) (List.map enc (moreP (enc fs) (PV.agg [enc y2.1.k, enc y2.1.t])))))), (.agg [(.int .i64 (PV.asInt (List.getD (PV.cells (enc y3)) 0 default))), (.sl 1 (PV.asT (List.getD (PV.cells (enc y3)) (0 + 1) default)) (PV.asXs (List.getD (PV.cells (enc y3)) (0 + 1) default))), (.int .i64 (PV.asInt (List.getD (PV.cells (enc y3)) (0 + 1 + 1) default))), (.sl 2 (PV.asT (List.getD (PV.cells (enc y3)) (0 + 1 + 1 + 1) default)) (PV.asXs (List.getD (PV.cells (enc y3)) (0 + 1 + 1 + 1) default))), (.sl 5 (PV.asT (List.getD (PV.cells (enc y3)) (0 + 1 + 1 + 1 + 1) default)) (PV.asXs (List.getD (PV.cells (enc y3)) (0 + 1 + 1 + 1 + 1) default)))])]) = AV.pv (enc y4) ∧ (G ((.bool y4))))))))) else (G ((.bool false)))))))) else (if (k == 3) = true then (Go.Pl.preT (fun (x : Cert × Int × Bool × Unit) => true) [(.agg [(.int .i64 k), (.sl 1 false (List.map enc m)), (.int .i64 l.k), (.sl 2 false (List.map enc l.t)), (.sl 5 false (List.map enc ks))]), (.int .i64 2), (.bool false)]) = true ∧ (∃ y5 : Bool, AV.pv (valT (fun (x : Cert × Int × Bool × Unit) => bareB x.1 x.2.1 x.2.2.1) [(.agg [(.int .i64 k), (.sl 1 false (List.map enc m)), (.int .i64 l.k), (.sl 2 false (List.map enc l.t)), (.sl 5 false (List.map enc ks))]), (.int .i64 2), (.bool false)]) = AV.pv (enc y5) ∧ (if (!y5) = true then G ((.bool false)) else ((Go.Pl.preT (fun (x : Lin × Unit) => linSm x.1) [(.agg [(.int .i64 l.k), (.sl 2 false (List.map enc l.t))])]) = true ∧ (∃ y6 : Lin × Int, AV.pv (valT (fun (x : Lin × Unit) => negL x.1) [(.agg [(.int .i64 l.k), (.sl 2 false (List.map enc l.t))])]) = AV.pv (enc y6) ∧ (if (y6.2 == 0) = true then (pre_more [(.pv (.agg [(.int .i64 l.k), (.sl 2 false (List.map enc l.t))])), (.ptr 0 0)] [(.box [(.pv (.sl 3 false (List.map enc fs)))])]) = true ∧ ((decide (0 <= 0) && decide (Int.toNat 0 < List.length (List.map enc ks)) && Enc.sz Cert == 5) = true ∧ (∃ y7 : Cert, AV.pv (PV.rptr (PV.cells (List.getD (List.map enc ks) (Int.toNat 0) default))) = AV.pv (PV.rptr (PV.cells ((enc) y7))) ∧ ((decide (0 + List.length [Sh.int .i64, Sh.sl 1, Sh.int .i64, Sh.sl 2, Sh.sl 5] <= List.length (PV.cells (enc y7))) && shFit (PV.cells (enc y7)) 0 [Sh.int .i64, Sh.sl 1, Sh.int .i64, Sh.sl 2, Sh.sl 5]) = true ∧ ((List.length (List.map enc (moreP (enc fs) (PV.agg [enc l.k, enc l.t]))) == List.length (moreP (enc fs) (PV.agg [enc l.k, enc l.t]))) = true ∧ ((Go.Pl.preT (fun (x : List Fact × Cert × Unit) => factsSm x.1 && valid7 x.1 && cSm x.2.1 && decide (List.length x.1 + depC x.2.1 <= 300) && decide (depC x.2.1 < N)) [(.sl 3 false (List.drop 0 (List.take (List.length (moreP (enc fs) (PV.agg [enc l.k, enc l.t]))) (List.map enc (moreP (enc fs) (PV.agg [enc l.k, enc l.t])))))), (.agg [(.int .i64 (PV.asInt (List.getD (PV.cells (enc y7)) 0 default))), (.sl 1 (PV.asT (List.getD (PV.cells (enc y7)) (0 + 1) default)) (PV.asXs (List.getD (PV.cells (enc y7)) (0 + 1) default))), (.int .i64 (PV.asInt (List.getD (PV.cells (enc y7)) (0 + 1 + 1) default))), (.sl 2 (PV.asT (List.getD (PV.cells (enc y7)) (0 + 1 + 1 + 1) default)) (PV.asXs (List.getD (PV.cells (enc y7)) (0 + 1 + 1 + 1) default))), (.sl 5 (PV.asT (List.getD (PV.cells (enc y7)) (0 + 1 + 1 + 1 + 1) default)) (PV.asXs (List.getD (PV.cells (enc y7)) (0 + 1 + 1 + 1 + 1) default)))])]) = true ∧ (∃ y8 : Bool, AV.pv (valT (fun (x : List Fact × Cert × Unit) => refC x.1 x.2.1) [(.sl 3 false (List.drop 0 (List.take (List.length (moreP (enc fs) (PV.agg [enc l.k, enc l.t]))) (List.map enc (moreP (enc fs) (PV.agg [enc l.k, enc l.t])))))), (.agg [(.int .i64 (PV.asInt (List.getD (PV.cells (enc y7)) 0 default))), (.sl 1 (PV.asT (List.getD (PV.cells (enc y7)) (0 + 1) default)) (PV.asXs (List.getD (PV.cells (enc y7)) (0 + 1) default))), (.int .i64 (PV.asInt (List.getD (PV.cells (enc y7)) (0 + 1 + 1) default))), (.sl 2 (PV.asT (List.getD (PV.cells (enc y7)) (0 + 1 + 1 + 1) default)) (PV.asXs (List.getD (PV.cells (enc y7)) (0 + 1 + 1 + 1) default))), (.sl 5 (PV.asT (List.getD (PV.cells (enc y7)) (0 + 1 + 1 + 1 + 1) default)) (PV.asXs (List.getD (PV.cells (enc y7)) (0 + 1 + 1 + 1 + 1) default)))])]) = AV.pv (enc y8) ∧ (if (y8) = true then (pre_more [(.pv (.agg [(.int .i64 y6.1.k), (.sl 2 false (List.map enc y6.1.t))])), (.ptr 0 0)] [(.box [(.pv (.sl 3 false (List.map enc fs)))])]) = true ∧ ((decide (0 <= 1) && decide (Int.toNat 1 < List.length (List.map enc ks)) && Enc.sz Cert == 5) = true ∧ (∃ y9 : Cert, AV.pv (PV.rptr (PV.cells (List.getD (List.map enc ks) (Int.toNat 1) default))) = AV.pv (PV.rptr (PV.cells ((enc) y9))) ∧ ((decide (0 + List.length [Sh.int .i64, Sh.sl 1, Sh.int .i64, Sh.sl 2, Sh.sl 5] <= List.length (PV.cells (enc y9))) && shFit (PV.cells (enc y9)) 0 [Sh.int .i64, Sh.sl 1, Sh.int .i64, Sh.sl 2, Sh.sl 5]) = true ∧ ((List.length (List.map enc (moreP (enc fs) (PV.agg [enc y6.1.k, enc y6.1.t]))) == List.length (moreP (enc fs) (PV.agg [enc y6.1.k, enc y6.1.t]))) = true ∧ ((Go.Pl.preT (fun (x : List Fact × Cert × Unit) => factsSm x.1 && valid7 x.1 && cSm x.2.1 && decide (List.length x.1 + depC x.2.1 <= 300) && decide (depC x.2.1 < N)) [(.sl 3 false (List.drop 0 (List.take (List.length (moreP (enc fs) (PV.agg [enc y6.1.k, enc y6.1.t]))) (List.map enc (moreP (enc fs) (PV.agg [enc y6.1.k, enc y6.1.t])))))), (.agg [(.int .i64 (PV.asInt (List.getD (PV.cells (enc y9)) 0 default))), (.sl 1 (PV.asT (List.getD (PV.cells (enc y9)) (0 + 1) default)) (PV.asXs (List.getD (PV.cells (enc y9)) (0 + 1) default))), (.int .i64 (PV.asInt (List.getD (PV.cells (enc y9)) (0 + 1 + 1) default))), (.sl 2 (PV.asT (List.getD (PV.cells (enc y9)) (0 + 1 + 1 + 1) default)) (PV.asXs (List.getD (PV.cells (enc y9)) (0 + 1 + 1 + 1) default))), (.sl 5 (PV.asT (List.getD (PV.cells (enc y9)) (0 + 1 + 1 + 1 + 1) default)) (PV.asXs (List.getD (PV.cells (enc y9)) (0 + 1 + 1 + 1 + 1) default)))])]) = true ∧ (∃ y10 : Bool, AV.pv (valT (fun (x : List Fact × Cert × Unit) => refC x.1 x.2.1) [(.sl 3 false (List.drop 0 (List.take (List.length (moreP (enc fs) (PV.agg [enc y6.1.k, enc y6.1.t]))) (List.map enc (moreP (enc fs) (PV.agg [enc y6.1.k, enc y6.1.t])))))), (.agg [(.int .i64 (PV.asInt (List.getD (PV.cells (enc y9)) 0 default))), (.sl 1 (PV.asT (List.getD (PV.cells (enc y9)) (0 + 1) default)) (PV.asXs (List.getD (PV.cells (enc y9)) (0 + 1) default))), (.int .i64 (PV.asInt (List.getD (PV.cells (enc y9)) (0 + 1 + 1) default))), (.sl 2 (PV.asT (List.getD (PV.cells (enc y9)) (0 + 1 + 1 + 1) default)) (PV.asXs (List.getD (PV.cells (enc y9)) (0 + 1 + 1 + 1) default))), (.sl 5 (PV.asT (List.getD (PV.cells (enc y9)) (0 + 1 + 1 + 1 + 1) default)) (PV.asXs (List.getD (PV.cells (enc y9)) (0 + 1 + 1 + 1 + 1) default)))])]) = AV.pv (enc y10) ∧ (G ((.bool y10))))))))) else (G ((.bool false)))))))))) else (G ((.bool false)))))))) else (G ((.bool false)))))) : Gets (T_refn N) 0 (endP' rs_refn G) ic_refn [] (st0 98 [enc fs, .agg [enc k, enc m, enc l.k, enc l.t, enc ks]]) := Gets.tp (.lit (.ask (.req (.keep (.req (.abs (Bool) (fun YY => AV.pv (enc YY)) (.ask (.lit (.lit (.lit (.lit (.lit (.lit (.lit (.lit (.nil))))))))) (.lit (.lit (.lit (.lit (.lit (.lit (.lit (.lit (.nil)))))))))))))) (.lit (.ask (.req (.abs (Bool) (fun YY => AV.pv (enc YY)) (.ask (.nil) (.req (.abs (Lin × Int) (fun YY => AV.pv (enc YY)) (.lit (.ask (.lit (.lit (.req (.keep (.lit (.lit (.lit (.req (.abs (Cert) (fun YY => AV.pv (PV.rptr (PV.cells ((enc) YY)))) (.lit (.req (.lit (.req (.req (.abs (Bool) (fun YY => AV.pv (enc YY)) (.lit (.nil))))))))))))))))) (.lit (.lit (.lit (.lit (.lit (.lit (.lit (.lit (.nil)))))))))))))))) (.lit (.ask (.req (.abs (Bool) (fun YY => AV.pv (enc YY)) (.ask (.nil) (.req (.abs (Lin × Int) (fun YY => AV.pv (enc YY)) (.lit (.ask (.lit (.lit (.lit (.req (.keep (.lit (.lit (.lit (.req (.abs (Cert) (fun YY => AV.pv (PV.rptr (PV.cells ((enc) YY)))) (.lit (.req (.lit (.req (.req (.abs (Bool) (fun YY => AV.pv (enc YY)) (.lit (.ask (.lit (.lit (.req (.keep (.lit (.lit (.lit (.req (.abs (Cert) (fun YY => AV.pv (PV.rptr (PV.cells ((enc) YY)))) (.lit (.req (.lit (.req (.req (.abs (Bool) (fun YY => AV.pv (enc YY)) (.lit (.nil))))))))))))))))) (.lit (.lit (.lit (.lit (.lit (.lit (.lit (.lit (.nil))))))))))))))))))))))))))) (.lit (.lit (.lit (.lit (.lit (.lit (.lit (.lit (.lit (.lit (.lit (.lit (.lit (.lit (.lit (.lit (.lit (.lit (.nil)))))))))))))))))))))))))) (.nil))))))) h (by kernel_rfl)
def ic_check : IC := (.seq (.reg [⟨(some 3), (.box 5 (.t 1)), 0, none⟩, ⟨(some 4), (.mv (.c (.int .i64 0))), 1, none⟩] none) (.seq (.block 0 (.seq (.reg [⟨(some 6), (.mv (.t 0)), 0, none⟩, ⟨(some 7), (.call (.c (.fn 28)) [(.t 6)]), 0, none⟩, ⟨(some 8), (.un .not (.t 7)), 2, none⟩, ⟨(some 5), (.mv (.t 8)), 2, none⟩] none) (.cond (.t 5) (.seq (.reg [⟨(some 4), (.mv (.c (.int .i64 1))), 0, none⟩] none) .ret) (.seq (.reg [⟨(some 10), (.mv (.t 0)), 0, none⟩, ⟨(some 11), (.len 1 (.t 10)), 0, none⟩, ⟨(some 12), (.bin .num .gtr (.t 11) (.c (.int .i64 100))), 0, none⟩, ⟨(some 13), (.mv (.t 12)), 0, none⟩, ⟨(some 14), (.load true [(.int .i64), (.sl 1), (.int .i64), (.sl 2), (.sl 5)] (.t 3)), 0, (some (13, false))⟩, ⟨(some 15), (.call (.c (.fn 17)) [(.t 14)]), 0, (some (13, false))⟩, ⟨(some 16), (.bin .num .gtr (.t 15) (.c (.int .i64 1000))), 2, (some (13, false))⟩, ⟨(some 17), (.pick (.t 13) (.c (.bool true)) (.t 16)), 2, none⟩, ⟨(some 9), (.mv (.t 17)), 2, none⟩] none) (.cond (.t 9) (.seq (.reg [⟨(some 4), (.mv (.c (.int .i64 3))), 0, none⟩] none) .ret) (.seq (.reg [⟨(some 19), (.mv (.t 0)), 0, none⟩, ⟨(some 20), (.load true [(.int .i64), (.sl 1), (.int .i64), (.sl 2), (.sl 5)] (.t 3)), 0, none⟩, ⟨(some 21), (.call (.c (.fn 62)) [(.t 19), (.t 20)]), 0, none⟩, ⟨(some 22), (.un .not (.t 21)), 2, none⟩, ⟨(some 18), (.mv (.t 22)), 2, none⟩] none) (.cond (.t 18) (.seq (.reg [⟨(some 4), (.mv (.c (.int .i64 18))), 0, none⟩] none) .ret) .skip))))))) (.seq (.reg [⟨(some 4), (.mv (.c (.int .i64 0))), 0, none⟩] none) .ret)))
def rs_check : List IRes := [(.tmp 4)]
abbrev nt_check : Nat := 23
def T_check : Tab := tab [(28, .pure (preT (fun x : List Fact × Unit => factsSm x.1)) (valT (fun x : List Fact × Unit => valid7 x.1))), (17, .pure (preT (fun x : Cert × Unit => cOk x.1)) (valT (fun x : Cert × Unit => sizeC x.1))), (62, .pure (preT (fun x : List Fact × Cert × Unit => factsSm x.1 && valid7 x.1 && cSm x.2.1 && decide (x.1.length + depC x.2.1 <= 300))) (valT (fun x : List Fact × Cert × Unit => refC x.1 x.2.1)))]
theorem check_s {G : PV -> Prop} (fs : List Fact) (k : Int) (m : List Int) (l : Lin) (ks : List Cert) (h : (Go.Pl.preT (fun (x : List Fact × Unit) => factsSm x.1) [(.sl 3 false (List.map enc fs))]) = true ∧ (∃ y0 : Bool, AV.pv (valT (fun (x : List Fact × Unit) => valid7 x.1) [(.sl 3 false (List.map enc fs))]) = AV.pv (enc y0) ∧ (if (!y0) = true then G ((.int .i64 1)) else (if (decide ((↑(List.length (List.map enc fs)) : Int) > 100)) = true then G ((.int .i64 3)) else ((Go.Pl.preT (fun (x : Cert × Unit) => cOk x.1) [(.agg [(.int .i64 k), (.sl 1 false (List.map enc m)), (.int .i64 l.k), (.sl 2 false (List.map enc l.t)), (.sl 5 false (List.map enc ks))])]) = true ∧ (∃ y1 : Int, AV.pv (valT (fun (x : Cert × Unit) => sizeC x.1) [(.agg [(.int .i64 k), (.sl 1 false (List.map enc m)), (.int .i64 l.k), (.sl 2 false (List.map enc l.t)), (.sl 5 false (List.map enc ks))])]) = AV.pv (enc y1) ∧ (if (decide (y1 > 1000)) = true then G ((.int .i64 3)) else ((Go.Pl.preT (fun (x : List Fact × Cert × Unit) => factsSm x.1 && valid7 x.1 && cSm x.2.1 && decide (List.length x.1 + depC x.2.1 <= 300)) [(.sl 3 false (List.map enc fs)), (.agg [(.int .i64 k), (.sl 1 false (List.map enc m)), (.int .i64 l.k), (.sl 2 false (List.map enc l.t)), (.sl 5 false (List.map enc ks))])]) = true ∧ (∃ y2 : Bool, AV.pv (valT (fun (x : List Fact × Cert × Unit) => refC x.1 x.2.1) [(.sl 3 false (List.map enc fs)), (.agg [(.int .i64 k), (.sl 1 false (List.map enc m)), (.int .i64 l.k), (.sl 2 false (List.map enc l.t)), (.sl 5 false (List.map enc ks))])]) = AV.pv (enc y2) ∧ (if (!y2) = true then G ((.int .i64 18)) else (G ((.int .i64 0))))))))))))) : Gets T_check 0 (endP' rs_check G) ic_check [] (st0 23 [enc fs, .agg [enc k, enc m, enc l.k, enc l.t, enc ks]]) := Gets.tp (.req (.abs (Bool) (fun YY => AV.pv (enc YY)) (.ask (.nil) (.lit (.ask (.lit (.lit (.lit (.lit (.nil))))) (.lit (.req (.abs (Int) (fun YY => AV.pv (enc YY)) (.lit (.lit (.lit (.ask (.nil) (.req (.abs (Bool) (fun YY => AV.pv (enc YY)) (.ask (.nil) (.nil)))))))))))))))) h (by kernel_rfl)
end Go.Pl

namespace Go.Pl
open Go.RowKit
open Enc (enc dec is)
open EncL (encL decL isL)
theorem sums_sm (k : Int) {a b : Lin} (ha : validL a = true) (hb : validL b = true) : mapSm (addT k b.t (addT 1 a.t [])) = true := by
 have h1 := valid_len ha
 have h2 := valid_len hb
 have h3 := addT_len k b.t (addT 1 a.t [])
 have h4 := addT_len 1 a.t []
 simp only [mapSm, Bool.and_eq_true, decide_eq_true_eq, List.all_eq_true]
 have hz : ([] : List (Str × Int)).length = 0 := rfl
 refine ⟨by omega, fun x hx => ?_⟩
 rcases addT_keys _ _ _ _ hx with hx | ⟨t, ht, rfl⟩
 ·rcases addT_keys _ _ _ _ hx with hx | ⟨t, ht, rfl⟩
  ·cases hx
  ·have := name_len (valid_coef ha ht).1; omega
 ·have := name_len (valid_coef hb ht).1; omega
theorem dec_lin_eq (a : Lin) : (dec (PV.agg [enc a.k, enc a.t]) : Lin) = a := Enc.dec_enc a
theorem combine_run : ∀ a : Lin × Lin × Int × Unit, (linSm a.1 && linSm a.2.1) = true -> Gets T_combine 0 (endP' rs_combine (Fits (combineL a.1 a.2.1 a.2.2.1))) ic_combine [] (st0 nt_combine (encL a)) := by
 rintro ⟨a, b, k, ⟨⟩⟩ h
 simp only [Bool.and_eq_true] at h
 refine combine_s a b k ⟨pre_enc (a, ()) rfl h.1, ex_enc (a, ()) rfl (iteN (fun ha => ?_) fun ha => ⟨pre_enc (b, ()) rfl h.2, ex_enc (b, ()) rfl (iteN (fun hb => ?_) fun hb => ?_)⟩)⟩
 ·have ha : validL a = false := ha
  simp only [combineL, ha]
  exact ⟨rfl, rfl⟩
 ·have ha : validL a = true := ha
  have hb : validL b = false := hb
  simp only [combineL, ha, hb]
  exact ⟨rfl, rfl⟩
 have ha : validL a = true := ha
 have hb : validL b = true := hb
 have h1 := valid_len ha
 have h2 := valid_len hb
 have e0 : mapD [] = [] := rfl
 simp only [dec_lin_eq, mapD_map, e0]
 have c1 : can Lin (PV.agg [PV.int .i64 a.k, PV.sl 2 false (List.map enc a.t)]) = true := can_enc a
 have c2 : can Lin (PV.agg [PV.int .i64 b.k, PV.sl 2 false (List.map enc b.t)]) = true := can_enc b
 have d1 : (dec (PV.agg [PV.int .i64 a.k, PV.sl 2 false (List.map enc a.t)]) : Lin) = a := Enc.dec_enc a
 have d2 : (dec (PV.agg [PV.int .i64 b.k, PV.sl 2 false (List.map enc b.t)]) : Lin) = b := Enc.dec_enc b
 refine ⟨?_, ?_, ?_, ?_⟩
 ·simp only [pre_add, c1, d1]
  simp [canM]; omega
 ·simp only [pre_add, c2, d2, canM_map]
  simp; omega
 ·simp only [pre_res, canM_map, mapD_map, sums_sm k ha hb]
  rfl
 ·simp only [combineL, ha, hb, if_true]
  exact fits_of rfl
theorem ladd2_run : ∀ a : Lin × Lin × Unit, (linSm a.1 && linSm a.2.1) = true -> Gets T_ladd2 0 (endP' rs_ladd2 (Fits (combineL a.1 a.2.1 1))) ic_ladd2 [] (st0 nt_ladd2 (encL a)) := by
 rintro ⟨a, b, ⟨⟩⟩ h
 exact ladd2_s a b ⟨pre_enc (a, b, 1, ()) rfl h, ex_enc (a, b, 1, ()) rfl (fits_of rfl)⟩
theorem clamp_eq (k : Int) : (if true = true then if (if false = true then if 1000001 > k then 1000001 else k else if 1000001 < k then 1000001 else k) > (-1000001 : Int) then if false = true then if 1000001 > k then 1000001 else k else if 1000001 < k then 1000001 else k else (-1000001 : Int) else if (if false = true then if 1000001 > k then 1000001 else k else if 1000001 < k then 1000001 else k) < (-1000001 : Int) then if false = true then if 1000001 > k then 1000001 else k else if 1000001 < k then 1000001 else k else (-1000001 : Int)) = max (-1000001) (min k 1000001) := by
 simp only [if_true, Bool.false_eq_true, if_false]
 by_cases h1 : (1000001 : Int) < k
 ·rw [if_pos h1, if_pos (by omega)]; omega
 ·rw [if_neg h1]
  by_cases h2 : k > -1000001
  ·rw [if_pos h2]; omega
  ·rw [if_neg h2]; omega
theorem lscale_run : ∀ a : Lin × Int × Unit, linSm a.1 = true -> Gets T_lscale 0 (endP' rs_lscale (Fits (scaleL a.1 a.2.1))) ic_lscale [] (st0 nt_lscale (encL a)) := by
 rintro ⟨a, k, ⟨⟩⟩ h
 have h : linSm a = true := h
 refine lscale_s a k ?_
 rw [clamp_eq]
 have hz : linSm ⟨0, []⟩ = true := rfl
 have ez : (PV.agg [PV.int .i64 0, PV.sl 0 true []]) = PV.agg [PV.int .i64 0, PV.sl 0 true []] := rfl
 refine ⟨pre_val (a := ((⟨0, []⟩ : Lin), a, max (-1000001) (min k 1000001), ())) ?_ ?_ (by show (linSm _ && linSm a) = true; rw [h, hz]; rfl), ex_val ((⟨0, []⟩ : Lin), a, max (-1000001) (min k 1000001), ()) ?_ (fits_of rfl)⟩
 ·simp; exact .inr rfl
 ·exact congrArg (fun x => ((⟨0, []⟩ : Lin), x, max (-1000001) (min k 1000001), ())) (Enc.dec_enc a)
 ·exact congrArg (fun x => ((⟨0, []⟩ : Lin), x, max (-1000001) (min k 1000001), ())) (Enc.dec_enc a)
theorem negate_run : ∀ a : Lin × Unit, linSm a.1 = true -> Gets T_negate 0 (endP' rs_negate (Fits (negL a.1))) ic_negate [] (st0 nt_negate (encL a)) := by
 rintro ⟨g, ⟨⟩⟩ h
 refine negate_s g ⟨pre_enc (g, -1, ()) rfl h, ex_enc (g, -1, ()) rfl (iteC (fun h1 => ?_) fun h1 => ?_)⟩
 ·have h1 : (scaleL g (-1)).2 ≠ 0 := by simpa using h1
  simp only [negL, if_neg h1]
  exact ⟨rfl, rfl⟩
 ·have h1 : (scaleL g (-1)).2 = 0 := by simpa using h1
  have hv := (comb_valid h1).2.2
  refine ex_enc ((-1 : Int), ()) rfl ⟨pre_enc ((scaleL g (-1)).1, ⟨-1, []⟩, ()) rfl ?_, ex_enc ((scaleL g (-1)).1, ⟨-1, []⟩, ()) rfl (fits_of ?_)⟩
  ·show (linSm (scaleL g (-1)).1 && linSm ⟨-1, []⟩) = true
   rw [show linSm (scaleL g (-1)).1 = true from valid_sm hv]; rfl
  ·simp only [negL, if_pos h1]
theorem moreP_enc (fs : List Fact) (l : Lin) : moreP (enc fs) (enc l) = moreF fs l := by unfold moreP; rw [Enc.dec_enc, Enc.dec_enc]
theorem moreP_agg (fs : List Fact) (l : Lin) : moreP (enc fs) (PV.agg [enc l.k, enc l.t]) = moreF fs l := moreP_enc fs l
theorem more_run : ∀ args os, pre_more args os = true -> Gets T_more os.length (endO' os.length rs_more fun r => r = val_more args os) ic_more [] (st0O nt_more args os) := by
 intro args os h
 unfold pre_more at h
 split at h
 ·rename_i l fs
  simp only [Bool.and_eq_true, decide_eq_true_eq] at h
  obtain ⟨⟨hl, hf⟩, h1⟩ := h
  obtain ⟨l, rfl⟩ := can_eq hl
  obtain ⟨fs, rfl⟩ := can_eq hf
  rw [Enc.dec_enc] at h1
  have ev : val_more [.pv (enc l), .ptr 0 0] [.box [.pv (enc fs)]] = moreV (enc fs) (enc l) := rfl
  rw [ev]
  have e1 : List.drop 0 (List.take (Int.toNat (fs.length : Int)) (List.map (enc : Fact -> PV) fs)) = fs.map enc := by rw [List.drop_zero]; exact List.take_of_length_le (by simp)
  have e2 : List.drop 0 (List.take 1 [PV.agg [PV.bool false, enc l.k, enc l.t]]) = [enc (⟨false, l⟩ : Fact)] := rfl
  refine more_s l fs ?_
  simp only [List.length_map, e1, e2]
  refine ⟨by simp [Enc.sz], by simp, by simp [Enc.sz]; omega, ?_⟩
  simp only [moreV, moreP_enc, moreF, List.length_append, List.length_map, List.map_append]
  rfl
 ·cases h
theorem cert_args (c : Cert) : PV.agg [.int .i64 (PV.asInt (List.getD (PV.cells (enc c)) 0 default)), .sl 1 (PV.asT (List.getD (PV.cells (enc c)) (0 + 1) default)) (PV.asXs (List.getD (PV.cells (enc c)) (0 + 1) default)), .int .i64 (PV.asInt (List.getD (PV.cells (enc c)) (0 + 1 + 1) default)), .sl 2 (PV.asT (List.getD (PV.cells (enc c)) (0 + 1 + 1 + 1) default)) (PV.asXs (List.getD (PV.cells (enc c)) (0 + 1 + 1 + 1) default)), .sl 5 (PV.asT (List.getD (PV.cells (enc c)) (0 + 1 + 1 + 1 + 1) default)) (PV.asXs (List.getD (PV.cells (enc c)) (0 + 1 + 1 + 1 + 1) default))] = enc c := by
 obtain ⟨k, m, l, ks⟩ := c
 rw [enc_cert]
 rfl
theorem cert_fit (c : Cert) : (decide (0 + List.length [Sh.int .i64, Sh.sl 1, Sh.int .i64, Sh.sl 2, Sh.sl 5] <= List.length (PV.cells (enc c))) && shFit (PV.cells (enc c)) 0 [Sh.int .i64, Sh.sl 1, Sh.int .i64, Sh.sl 2, Sh.sl 5]) = true := by
 obtain ⟨k, m, l, ks⟩ := c
 rw [enc_cert]
 rfl
def refPre (x : List Fact × Cert × Unit) : Bool := factsSm x.1 && valid7 x.1 && cSm x.2.1 && decide (x.1.length + depC x.2.1 <= 300)
theorem facts_sm {fs : List Fact} (hv : valid7 fs = true) (hn : fs.length <= 1000) : factsSm fs = true := by
 simp only [factsSm, Bool.and_eq_true, decide_eq_true_eq, List.all_eq_true]
 simp only [valid7, List.all_eq_true] at hv
 exact ⟨by omega, fun f hf => valid_sm (hv f hf)⟩
theorem ref_pre {N : Nat} {fs : List Fact} {l : Lin} {c : Cert} (hv : valid7 fs = true) (hl : validL l = true) (hc : cSm c = true) (hn : fs.length + 1 + depC c <= 300) (hN : depC c < N) : (factsSm (moreF fs l) && valid7 (moreF fs l) && cSm c && decide ((moreF fs l).length + depC c <= 300) && decide (depC c < N)) = true := by
 have h1 : valid7 (moreF fs l) = true := by simp only [valid7, moreF, List.all_append, List.all_cons, List.all_nil, hl, Bool.and_true, Bool.and_self]; exact hv
 have h2 : (moreF fs l).length = fs.length + 1 := by simp [moreF]
 rw [facts_sm h1 (by omega), h1, hc, h2, decide_eq_true hn, decide_eq_true hN]
 rfl
theorem cSms_mem {c : Cert} : ∀ {cs : List Cert}, cSms cs = true -> c ∈ cs -> cSm c = true
 | d :: cs, hc, h => by
  simp only [cSms, Bool.and_eq_true] at hc
  rcases List.mem_cons.1 h with rfl | h
  ·exact hc.1
  ·exact cSms_mem hc.2 h
theorem bare_len {k : Int} {m : List Int} {l : Lin} {ks : List Cert} {n : Int} {b : Bool} (h : bareB (.mk k m l ks) n b = true) : (ks.length : Int) = n := by
 simp only [bareB, Bool.and_eq_true, decide_eq_true_eq] at h
 exact h.1
theorem two_of {α : Type} : ∀ {ks : List α}, (ks.length : Int) = 2 -> ∃ a b, ks = [a, b]
 | [a, b], _ => ⟨a, b, rfl⟩
 | [], h => by simp at h
 | [_], h => by simp at h
 | _ :: _ :: _ :: ks, h => by simp at h; omega
theorem take_enc {fs : List Fact} : PV.sl 3 false (List.drop 0 (List.take fs.length (List.map enc fs))) = enc fs := by rw [drop_take_map]; rfl
theorem pre_more_ok (fs : List Fact) (l : Lin) (h : fs.length <= 1000000) : pre_more [.pv (enc l), .ptr 0 0] [.box [.pv (enc fs)]] = true := by
 simp only [pre_more, can_enc, Enc.dec_enc, decide_eq_true h]
 rfl
theorem comb_pre {fs : List Fact} {m : List Int} (hf : factsSm fs = true) {b : Bool} (hb : okC fs m = b) : pre_combF b (enc fs) (enc m) = true := by
 simp only [factsSm, Bool.and_eq_true, decide_eq_true_eq, List.all_eq_true] at hf
 have h2 : fs.all (fun f => linOk f.l) = true := by
  rw [List.all_eq_true]
  intro f hfm
  have := hf.2 f hfm
  simp only [linSm, Bool.and_eq_true] at this
  exact this.1
 simp only [pre_combF, can_enc, Enc.dec_enc, hb, h2, decide_eq_true hf.1]
 cases b <;> rfl
theorem combF_enc (fs : List Fact) (m : List Int) : combF (enc fs) (enc m) = cfold fs m := by unfold combF; rw [Enc.dec_enc, Enc.dec_enc]
theorem refs_run (N : Nat) : ∀ a : List Fact × Cert × Unit, (refPre a && decide (depC a.2.1 < N + 1)) = true ->
  (okC a.1 a.2.1.mults = true -> Gets (T_refy N) 0 (endP' rs_refy (Fits (refC a.1 a.2.1))) ic_refy [] (st0 nt_refy (encL a))) ∧ (okC a.1 a.2.1.mults = false -> Gets (T_refn N) 0 (endP' rs_refn (Fits (refC a.1 a.2.1))) ic_refn [] (st0 nt_refn (encL a))) := by
 rintro ⟨fs, ⟨k, m, l, ks⟩, ⟨⟩⟩ h
 simp only [refPre, Bool.and_eq_true, decide_eq_true_eq] at h
 obtain ⟨⟨⟨⟨hf, hv⟩, hc⟩, hd⟩, hN⟩ := h
 have e : (encL ((fs, Cert.mk k m l ks, ()) : List Fact × Cert × Unit) : List PV) = [enc fs, PV.agg [enc k, enc m, enc l.k, enc l.t, enc ks]] := by
  show [enc fs, enc (Cert.mk k m l ks)] = _
  rw [enc_cert]
 rw [e]
 have ebare : ∀ (n : Int) (b : Bool), (encL ((Cert.mk k m l ks, n, b, ()) : Cert × Int × Bool × Unit) : List PV) = [PV.agg [enc k, enc m, enc l.k, enc l.t, enc ks], enc n, enc b] := by
  intro n b
  show [enc (Cert.mk k m l ks), enc n, enc b] = _
  rw [enc_cert]
 have hc' := hc
 simp only [cSm, Bool.and_eq_true, decide_eq_true_eq] at hc'
 obtain ⟨⟨⟨hc1, hc2⟩, hc3⟩, hc4⟩ := hc'
 have hd' : fs.length + depC (Cert.mk k m l ks) <= 300 := hd
 have hN' : depC (Cert.mk k m l ks) < N + 1 := hN
 rw [depC] at hd' hN'
 have hfl : fs.length <= 1000000 := by omega
 constructor
 all_goals intro ho
 all_goals have ho : okC fs m = _ := ho
 ·refine refy_s N fs k m l ks (iteE (fun hk => ?_) fun hk1 => iteE (fun hk => ?_) fun hk2 => iteE (fun hk => ?_) fun hk3 => fitB (refC0 fs k m l ks hk1 hk2 hk3).symm)
  ·subst hk
   refine ⟨comb_pre hf ho, pre_enc (.mk 1 m l ks, 0, true, ()) (ebare 0 true).symm rfl, ex_enc (.mk 1 m l ks, 0, true, ()) (ebare 0 true).symm (iteB (fun h1 => ?_) fun h1 => ?_)⟩
   ·have h1 : bareB (.mk 1 m l ks) 0 true = true := h1
    rw [combF_enc, refC1, h1]
    refine iteE (fun h2 => ?_) fun h2 => ?_
    ·have h2 : (nzM (cfold fs m).2) = [] := by simpa [mapP] using h2
     refine fitB ?_
     simp only [sumN, ho, h2]
     rfl
    ·have h2 : (nzM (cfold fs m).2).isEmpty = false := by simpa [mapP] using h2
     refine fitB ?_
     simp only [sumN, ho, h2]
     rfl
   ·have h1 : bareB (.mk 1 m l ks) 0 true = false := h1
    refine fitB ?_
    rw [refC1, h1]
    rfl
  ·subst hk
   refine ⟨pre_enc (.mk 2 m l ks, 1, true, ()) (ebare 1 true).symm rfl, ex_enc (.mk 2 m l ks, 1, true, ()) (ebare 1 true).symm (iteN (fun h1 => fitB (refC2n fs m l ks h1).symm) fun h1 => ?_)⟩
   have h1 : bareB (.mk 2 m l ks) 1 true = true := h1
   obtain ⟨c, rfl⟩ : ∃ c, ks = [c] := List.length_eq_one_iff.1 (by have := bare_len h1; omega)
   rw [refC2, h1]
   have hcc : cSm c = true := cSms_mem hc4 (by simp)
   simp only [depCs] at hd' hN'
   have hnc : fs.length + 1 + depC c <= 300 := by omega
   have hNc : depC c < N := by omega
   refine ⟨pre_enc (fs, m, ()) rfl (by show (factsSm fs && decide (fs.length <= 300)) = true; rw [hf, decide_eq_true (by omega)]; rfl), ex_enc (fs, m, ()) rfl (iteE (fun h2 => ?_) fun h2 => ?_)⟩
   ·have h2 : (cutL fs m).2 = 0 := h2
    refine ⟨pre_more_ok fs (cutL fs m).1 hfl, rfl, c, rfl, cert_fit c, ?_⟩
    have em : moreP (enc fs) (PV.agg [enc (cutL fs m).1.k, enc (cutL fs m).1.t]) = moreF fs (cutL fs m).1 := moreP_agg fs _
    simp only [em, take_enc, cert_args]
    refine ⟨by simp, pre_enc (moreF fs (cutL fs m).1, c, ()) rfl (ref_pre hv (cut_valid h2) hcc hnc hNc), ex_enc (moreF fs (cutL fs m).1, c, ()) rfl (fitB ?_)⟩
    rw [h2]
    rfl
   ·have h2 : ¬ (cutL fs m).2 = 0 := h2
    refine fitB ?_
    rw [decide_eq_false h2]
    rfl
  ·subst hk
   refine ⟨pre_enc (.mk 3 m l ks, 2, false, ()) (ebare 2 false).symm rfl, ex_enc (.mk 3 m l ks, 2, false, ()) (ebare 2 false).symm (iteN (fun h1 => fitB (refC3n fs m l ks h1).symm) fun h1 => ?_)⟩
   have h1 : bareB (.mk 3 m l ks) 2 false = true := h1
   obtain ⟨a, b, rfl⟩ : ∃ a b, ks = [a, b] := two_of (bare_len h1)
   rw [refC3, h1]
   have hca : cSm a = true := cSms_mem hc4 (by simp)
   have hcb : cSm b = true := cSms_mem hc4 (by simp)
   simp only [depCs] at hd' hN'
   have hna : fs.length + 1 + depC a <= 300 := by omega
   have hNa : depC a < N := by omega
   have hnb : fs.length + 1 + depC b <= 300 := by omega
   have hNb : depC b < N := by omega
   refine ⟨pre_enc (l, ()) rfl hc2, ex_enc (l, ()) rfl (iteE (fun h2 => ?_) fun h2 => ?_)⟩
   ·have h2 : (negL l).2 = 0 := h2
    have hl := neg_valid h2
    refine ⟨pre_more_ok fs l hfl, rfl, a, rfl, cert_fit a, ?_⟩
    have em : moreP (enc fs) (PV.agg [enc l.k, enc l.t]) = moreF fs l := moreP_agg fs _
    have em2 : moreP (enc fs) (PV.agg [enc (negL l).1.k, enc (negL l).1.t]) = moreF fs (negL l).1 := moreP_agg fs _
    simp only [em, em2, take_enc, cert_args]
    refine ⟨by simp, pre_enc (moreF fs l, a, ()) rfl (ref_pre hv hl.1 hca hna hNa), ex_enc (moreF fs l, a, ()) rfl (iteB (fun h3 => ?_) fun h3 => ?_)⟩
    ·have h3 : refC (moreF fs l) a = true := h3
     refine ⟨pre_more_ok fs (negL l).1 hfl, rfl, b, rfl, cert_fit b, ?_⟩
     refine ⟨by simp, pre_enc (moreF fs (negL l).1, b, ()) rfl (ref_pre hv hl.2 hcb hnb hNb), ex_enc (moreF fs (negL l).1, b, ()) rfl (fitB ?_)⟩
     rw [h2, h3]
     rfl
    ·have h3 : refC (moreF fs l) a = false := h3
     refine fitB ?_
     rw [h2, h3]
     rfl
   ·have h2 : ¬ (negL l).2 = 0 := h2
    refine fitB ?_
    rw [decide_eq_false h2]
    rfl
 ·refine refn_s N fs k m l ks (iteE (fun hk => ?_) fun hk1 => iteE (fun hk => ?_) fun hk2 => iteE (fun hk => ?_) fun hk3 => fitB (refC0 fs k m l ks hk1 hk2 hk3).symm)
  ·subst hk
   refine ⟨comb_pre hf ho, pre_enc (.mk 1 m l ks, 0, true, ()) (ebare 0 true).symm rfl, ex_enc (.mk 1 m l ks, 0, true, ()) (ebare 0 true).symm (iteB (fun h1 => ?_) fun h1 => ?_)⟩
   ·have h1 : bareB (.mk 1 m l ks) 0 true = true := h1
    rw [refC1, h1]
    refine fitB ?_
    simp only [sumN, ho]
    rfl
   ·have h1 : bareB (.mk 1 m l ks) 0 true = false := h1
    refine fitB ?_
    rw [refC1, h1]
    rfl
  ·subst hk
   refine ⟨pre_enc (.mk 2 m l ks, 1, true, ()) (ebare 1 true).symm rfl, ex_enc (.mk 2 m l ks, 1, true, ()) (ebare 1 true).symm (iteN (fun h1 => fitB (refC2n fs m l ks h1).symm) fun h1 => ?_)⟩
   have h1 : bareB (.mk 2 m l ks) 1 true = true := h1
   obtain ⟨c, rfl⟩ : ∃ c, ks = [c] := List.length_eq_one_iff.1 (by have := bare_len h1; omega)
   rw [refC2, h1]
   have hcc : cSm c = true := cSms_mem hc4 (by simp)
   simp only [depCs] at hd' hN'
   have hnc : fs.length + 1 + depC c <= 300 := by omega
   have hNc : depC c < N := by omega
   refine ⟨pre_enc (fs, m, ()) rfl (by show (factsSm fs && decide (fs.length <= 300)) = true; rw [hf, decide_eq_true (by omega)]; rfl), ex_enc (fs, m, ()) rfl (iteE (fun h2 => ?_) fun h2 => ?_)⟩
   ·have h2 : (cutL fs m).2 = 0 := h2
    refine ⟨pre_more_ok fs (cutL fs m).1 hfl, rfl, c, rfl, cert_fit c, ?_⟩
    have em : moreP (enc fs) (PV.agg [enc (cutL fs m).1.k, enc (cutL fs m).1.t]) = moreF fs (cutL fs m).1 := moreP_agg fs _
    simp only [em, take_enc, cert_args]
    refine ⟨by simp, pre_enc (moreF fs (cutL fs m).1, c, ()) rfl (ref_pre hv (cut_valid h2) hcc hnc hNc), ex_enc (moreF fs (cutL fs m).1, c, ()) rfl (fitB ?_)⟩
    rw [h2]
    rfl
   ·have h2 : ¬ (cutL fs m).2 = 0 := h2
    refine fitB ?_
    rw [decide_eq_false h2]
    rfl
  ·subst hk
   refine ⟨pre_enc (.mk 3 m l ks, 2, false, ()) (ebare 2 false).symm rfl, ex_enc (.mk 3 m l ks, 2, false, ()) (ebare 2 false).symm (iteN (fun h1 => fitB (refC3n fs m l ks h1).symm) fun h1 => ?_)⟩
   have h1 : bareB (.mk 3 m l ks) 2 false = true := h1
   obtain ⟨a, b, rfl⟩ : ∃ a b, ks = [a, b] := two_of (bare_len h1)
   rw [refC3, h1]
   have hca : cSm a = true := cSms_mem hc4 (by simp)
   have hcb : cSm b = true := cSms_mem hc4 (by simp)
   simp only [depCs] at hd' hN'
   have hna : fs.length + 1 + depC a <= 300 := by omega
   have hNa : depC a < N := by omega
   have hnb : fs.length + 1 + depC b <= 300 := by omega
   have hNb : depC b < N := by omega
   refine ⟨pre_enc (l, ()) rfl hc2, ex_enc (l, ()) rfl (iteE (fun h2 => ?_) fun h2 => ?_)⟩
   ·have h2 : (negL l).2 = 0 := h2
    have hl := neg_valid h2
    refine ⟨pre_more_ok fs l hfl, rfl, a, rfl, cert_fit a, ?_⟩
    have em : moreP (enc fs) (PV.agg [enc l.k, enc l.t]) = moreF fs l := moreP_agg fs _
    have em2 : moreP (enc fs) (PV.agg [enc (negL l).1.k, enc (negL l).1.t]) = moreF fs (negL l).1 := moreP_agg fs _
    simp only [em, em2, take_enc, cert_args]
    refine ⟨by simp, pre_enc (moreF fs l, a, ()) rfl (ref_pre hv hl.1 hca hna hNa), ex_enc (moreF fs l, a, ()) rfl (iteB (fun h3 => ?_) fun h3 => ?_)⟩
    ·have h3 : refC (moreF fs l) a = true := h3
     refine ⟨pre_more_ok fs (negL l).1 hfl, rfl, b, rfl, cert_fit b, ?_⟩
     refine ⟨by simp, pre_enc (moreF fs (negL l).1, b, ()) rfl (ref_pre hv hl.2 hcb hnb hNb), ex_enc (moreF fs (negL l).1, b, ()) rfl (fitB ?_)⟩
     rw [h2, h3]
     rfl
    ·have h3 : refC (moreF fs l) a = false := h3
     refine fitB ?_
     rw [h2, h3]
     rfl
   ·have h2 : ¬ (negL l).2 = 0 := h2
    refine fitB ?_
    rw [decide_eq_false h2]
    rfl
theorem check_run : ∀ a : List Fact × Cert × Unit, (factsSm a.1 && cSm a.2.1 && decide (a.1.length + depC a.2.1 <= 300)) = true -> Gets T_check 0 (endP' rs_check (Fits (checkC a.1 a.2.1))) ic_check [] (st0 nt_check (encL a)) := by
 rintro ⟨fs, ⟨k, m, l, ks⟩, ⟨⟩⟩ h
 simp only [Bool.and_eq_true, decide_eq_true_eq] at h
 obtain ⟨⟨hf, hc⟩, hd⟩ := h
 have e : (encL ((fs, Cert.mk k m l ks, ()) : List Fact × Cert × Unit) : List PV) = [enc fs, PV.agg [enc k, enc m, enc l.k, enc l.t, enc ks]] := by
  show [enc fs, enc (Cert.mk k m l ks)] = _
  rw [enc_cert]
 have e1 : (encL ((Cert.mk k m l ks, ()) : Cert × Unit) : List PV) = [PV.agg [enc k, enc m, enc l.k, enc l.t, enc ks]] := by
  show [enc (Cert.mk k m l ks)] = _
  rw [enc_cert]
 rw [e]
 have hf : factsSm fs = true := hf
 have hc : cSm (Cert.mk k m l ks) = true := hc
 refine check_s fs k m l ks ⟨pre_enc (fs, ()) rfl hf, ex_enc (fs, ()) rfl (iteN (fun hv => ?_) fun hv => ?_)⟩
 ·have hv : valid7 fs = false := hv
  refine fitI ?_
  simp [checkC, hv]
 have hv : valid7 fs = true := hv
 have el : (List.map (enc : Fact -> PV) fs).length = fs.length := by simp
 show if decide (((List.map (enc : Fact -> PV) fs).length : Int) > 100) = true then _ else _
 rw [el]
 refine iteD (fun h1 => ?_) fun h1 => ⟨pre_enc (.mk k m l ks, ()) e1.symm (cSm_ok hc), ex_enc (.mk k m l ks, ()) e1.symm (iteD (fun h2 => ?_) fun h2 => ⟨pre_enc (fs, .mk k m l ks, ()) e.symm ?_, ex_enc (fs, .mk k m l ks, ()) e.symm (iteN (fun h3 => ?_) fun h3 => ?_)⟩)⟩
 ·refine fitI ?_
  simp only [checkC, hv, if_true, if_pos h1]
 ·have h2 : sizeC (.mk k m l ks) > 1000 := h2
  refine fitI ?_
  simp only [checkC, hv, if_true, if_neg h1, if_pos h2]
 ·show (factsSm fs && valid7 fs && cSm (.mk k m l ks) && decide (fs.length + depC (.mk k m l ks) <= 300)) = true
  rw [hf, hv, hc, decide_eq_true hd]
  rfl
 ·have h2 : ¬ sizeC (.mk k m l ks) > 1000 := h2
  have h3 : refC fs (.mk k m l ks) = false := h3
  refine fitI ?_
  simp only [checkC, hv, if_true, if_neg h1, if_neg h2, h3]
  rfl
 ·have h2 : ¬ sizeC (.mk k m l ks) > 1000 := h2
  have h3 : refC fs (.mk k m l ks) = true := h3
  refine fitI ?_
  simp only [checkC, hv, if_true, if_neg h1, if_neg h2, h3]
end Go.Pl

namespace Go.Pl
open Go.RowKit
open Enc (enc dec is)
open EncL (encL decL isL)
def exL : Lin := ⟨-1, [⟨⟨[110]⟩, 1⟩]⟩
mutual
def smallC : Cert -> Int -> Bool
 | .mk _ m l ks, n => !decide ((m.length : Int) > 60) && (few4 l 8 && (!decide (n < 1) && (!decide ((ks.length : Int) > n) && smallCs ks n)))
def smallCs : List Cert -> Int -> Bool
 | [], _ => true
 | c :: cs, n => smallC c (w64 (n - 1)) && smallCs cs (w64 (n - sizeC c))
end
def itoa1 : Str := ⟨[49]⟩
def itoam : Str := ⟨[45, 49]⟩
def print1 : Str := ⟨[110, 45, 49]⟩
end Go.Pl

namespace Go.Pl
open Go.RowKit
open Enc (enc dec is)
open EncL (encL decL isL)
set_option maxRecDepth 100000
def ic_rval7 : IC := (.seq (.reg [⟨(some 2), (.mv (.c (.bool false))), 0, none⟩] none) (.seq (.seq (.reg [⟨(some 3), (.mv (.c (.int .i64 0))), 0, none⟩] none) (.block 0 (.loop [3, 0] (.seq (.seq (.reg [⟨(some 4), (.mv (.t 3)), 0, none⟩, ⟨(some 5), (.mv (.t 0)), 0, none⟩, ⟨(some 6), (.len 1 (.t 5)), 0, none⟩, ⟨(some 7), (.bin .num .lss (.t 4) (.t 6)), 0, none⟩] none) (.cond (.t 7) .skip (.exit 0))) (.seq (.block 1 (.seq (.reg [⟨(some 10), (.mv (.t 0)), 0, none⟩, ⟨(some 11), (.mv (.t 3)), 0, none⟩, ⟨(some 12), (.iaddr 3 (.t 10) (.t 11)), 0, none⟩, ⟨(some 13), (.faddr 1 (.t 12)), 0, none⟩, ⟨(some 14), (.load true [(.int .i64), (.sl 2)] (.t 13)), 0, none⟩, ⟨(some 15), (.call (.c (.fn 36)) [(.t 14)]), 0, none⟩, ⟨(some 16), (.un .not (.t 15)), 2, none⟩] none) (.cond (.t 16) (.seq (.reg [⟨(some 2), (.mv (.c (.bool false))), 0, none⟩] none) .ret) .skip))) (.reg [⟨(some 8), (.mv (.t 3)), 0, none⟩, ⟨(some 9), (.bin .num .add (.t 8) (.c (.int .i64 1))), 0, none⟩, ⟨(some 3), (.mv (.t 9)), 0, none⟩] none)))))) (.seq (.reg [⟨(some 2), (.mv (.c (.bool true))), 0, none⟩] none) .ret)))
def rs_rval7 : List IRes := [(.tmp 2)]
abbrev nt_rval7 : Nat := 17
def T_rval7 : Tab := tab [(36, .pure (preT (fun x : Lin × Unit => linOk x.1)) (valT (fun x : Lin × Unit => validL x.1)))]
theorem rval7_s {G : PV -> Prop} (l : List Fact) (h : At T_rval7 0 (endP' rs_rval7 G) ic_rval7 0 17 [(0, (.pv (.sl 3 false (List.map enc l)))), (3, (.pv (.int .i64 0)))] []) : Gets T_rval7 0 (endP' rs_rval7 G) ic_rval7 [] (st0 17 [enc l]) := Gets.tp (.nil) h (by kernel_rfl)
theorem rval7_h0 {G : PV -> Prop} (l : List Fact) (i : Int) (h : if (decide (i < (↑(List.length (List.map enc l)) : Int))) = true then (decide (0 <= i) && decide (Int.toNat i < List.length (List.map enc l)) && Enc.sz Fact == 3) = true ∧ (∃ y0 : Fact, AV.pv (PV.rptr (PV.cells (List.getD (List.map enc l) (Int.toNat i) default))) = AV.pv (PV.rptr (PV.cells ((enc) y0))) ∧ ((Go.Pl.preT (fun (x : Lin × Unit) => linOk x.1) [(.agg [(.int .i64 (PV.asInt (List.getD (List.drop 1 (PV.cells (enc y0))) 0 default))), (.sl 2 false (PV.asXs (List.getD (List.drop 1 (PV.cells (enc y0))) (0 + 1) default)))])]) = true ∧ (∃ y1 : Bool, AV.pv (valT (fun (x : Lin × Unit) => validL x.1) [(.agg [(.int .i64 (PV.asInt (List.getD (List.drop 1 (PV.cells (enc y0))) 0 default))), (.sl 2 false (PV.asXs (List.getD (List.drop 1 (PV.cells (enc y0))) (0 + 1) default)))])]) = AV.pv (enc y1) ∧ (if (!y1) = true then G ((.bool false)) else (At T_rval7 0 (endP' rs_rval7 G) ic_rval7 0 17 [(0, (.pv (.sl 3 false (List.map enc l)))), (3, (.pv (.int .i64 (IntKind.wrap IntKind.i64 (i + 1)))))] []))))) else (G ((.bool true)))) : At T_rval7 0 (endP' rs_rval7 G) ic_rval7 0 17 [(0, .pv (enc l)), (3, .pv (.int .i64 i))] [] := At.tp (.lit (.ask (.req (.abs (Fact) (fun YY => AV.pv (PV.rptr (PV.cells ((enc) YY)))) (.lit (.req (.abs (Bool) (fun YY => AV.pv (enc YY)) (.ask (.nil) (.lit (.nil)))))))) (.nil))) h (by kernel_rfl)
def ic_rsmall7 : IC := (.seq (.reg [⟨(some 2), (.box 5 (.t 0)), 0, none⟩, ⟨(some 4), (.mv (.c (.bool false))), 1, none⟩] none) (.seq (.seq (.reg [⟨(some 6), (.faddr 1 (.t 2)), 0, none⟩, ⟨(some 7), (.load false [(.sl 1)] (.t 6)), 0, none⟩, ⟨(some 8), (.len 1 (.t 7)), 0, none⟩, ⟨(some 9), (.bin .num .gtr (.t 8) (.c (.int .i64 60))), 0, none⟩, ⟨(some 10), (.mv (.t 9)), 0, none⟩, ⟨(some 11), (.faddr 2 (.t 2)), 0, (some (10, false))⟩, ⟨(some 12), (.load true [(.int .i64), (.sl 2)] (.t 11)), 0, (some (10, false))⟩, ⟨(some 13), (.call (.c (.fn 20)) [(.t 12), (.c (.int .i64 8))]), 0, (some (10, false))⟩, ⟨(some 14), (.un .not (.t 13)), 2, (some (10, false))⟩, ⟨(some 15), (.pick (.t 10) (.c (.bool true)) (.t 14)), 2, none⟩, ⟨(some 16), (.mv (.t 15)), 2, none⟩, ⟨(some 17), (.mv (.t 1)), 2, (some (16, false))⟩, ⟨(some 18), (.bin .num .lss (.t 17) (.c (.int .i64 1))), 2, (some (16, false))⟩, ⟨(some 19), (.pick (.t 16) (.c (.bool true)) (.t 18)), 2, none⟩, ⟨(some 20), (.mv (.t 19)), 2, none⟩, ⟨(some 21), (.faddr 4 (.t 2)), 2, (some (20, false))⟩, ⟨(some 22), (.load false [(.sl 5)] (.t 21)), 2, (some (20, false))⟩, ⟨(some 23), (.len 1 (.t 22)), 2, (some (20, false))⟩, ⟨(some 24), (.mv (.t 1)), 2, (some (20, false))⟩, ⟨(some 25), (.bin .num .gtr (.t 23) (.t 24)), 2, (some (20, false))⟩, ⟨(some 26), (.pick (.t 20) (.c (.bool true)) (.t 25)), 2, none⟩] none) (.cond (.t 26) (.seq (.reg [⟨(some 4), (.mv (.c (.bool false))), 0, none⟩] none) .ret) .skip)) (.seq (.seq (.reg [⟨(some 5), (.mv (.c (.int .i64 0))), 0, none⟩] none) (.block 0 (.loop [5, 2, 1] (.seq (.seq (.reg [⟨(some 27), (.mv (.t 5)), 0, none⟩, ⟨(some 28), (.faddr 4 (.t 2)), 0, none⟩, ⟨(some 29), (.load false [(.sl 5)] (.t 28)), 0, none⟩, ⟨(some 30), (.len 1 (.t 29)), 0, none⟩, ⟨(some 31), (.bin .num .lss (.t 27) (.t 30)), 0, none⟩] none) (.cond (.t 31) .skip (.exit 0))) (.seq (.block 1 (.seq (.seq (.reg [⟨(some 34), (.faddr 4 (.t 2)), 0, none⟩, ⟨(some 35), (.load false [(.sl 5)] (.t 34)), 0, none⟩, ⟨(some 36), (.mv (.t 5)), 0, none⟩, ⟨(some 37), (.iaddr 5 (.t 35) (.t 36)), 0, none⟩, ⟨(some 38), (.load true [(.int .i64), (.sl 1), (.int .i64), (.sl 2), (.sl 5)] (.t 37)), 0, none⟩, ⟨(some 39), (.mv (.t 1)), 0, none⟩, ⟨(some 40), (.bin .num .sub (.t 39) (.c (.int .i64 1))), 0, none⟩, ⟨(some 41), (.call (.c (.fn 14)) [(.t 38), (.t 40)]), 0, none⟩, ⟨(some 42), (.un .not (.t 41)), 2, none⟩] none) (.cond (.t 42) (.seq (.reg [⟨(some 4), (.mv (.c (.bool false))), 0, none⟩] none) .ret) .skip)) (.reg [⟨(some 43), (.mv (.t 1)), 0, none⟩, ⟨(some 44), (.faddr 4 (.t 2)), 0, none⟩, ⟨(some 45), (.load false [(.sl 5)] (.t 44)), 0, none⟩, ⟨(some 46), (.mv (.t 5)), 0, none⟩, ⟨(some 47), (.iaddr 5 (.t 45) (.t 46)), 0, none⟩, ⟨(some 48), (.load true [(.int .i64), (.sl 1), (.int .i64), (.sl 2), (.sl 5)] (.t 47)), 0, none⟩, ⟨(some 49), (.call (.c (.fn 18)) [(.t 48)]), 0, none⟩, ⟨(some 50), (.bin .num .sub (.t 43) (.t 49)), 2, none⟩, ⟨(some 1), (.mv (.t 50)), 2, none⟩] none))) (.reg [⟨(some 32), (.mv (.t 5)), 0, none⟩, ⟨(some 33), (.bin .num .add (.t 32) (.c (.int .i64 1))), 0, none⟩, ⟨(some 5), (.mv (.t 33)), 0, none⟩] none)))))) (.seq (.reg [⟨(some 4), (.mv (.c (.bool true))), 0, none⟩] none) .ret))))
def rs_rsmall7 : List IRes := [(.tmp 4)]
abbrev nt_rsmall7 : Nat := 51
def T_rsmall7 (N : Nat) : Tab := tab [(14, .pure (preT (fun x : Cert × Int × Unit => cOk x.1 && decide (depC x.1 < N))) (valT (fun x : Cert × Int × Unit => smallC x.1 x.2.1))), (20, .pure (preT (fun x : Lin × Int × Unit => linOk x.1)) (valT (fun x : Lin × Int × Unit => few4 x.1 x.2.1))), (18, .pure (preT (fun x : Cert × Unit => cOk x.1)) (valT (fun x : Cert × Unit => sizeC x.1)))]
theorem rsmall7_s {G : PV -> Prop} (N : Nat) (k : Int) (m : List Int) (l : Lin) (ks : List Cert) (n : Int) (h : if (decide ((↑(List.length (List.map enc m)) : Int) > 60)) = true then G ((.bool false)) else ((Go.Pl.preT (fun (x : Lin × Int × Unit) => linOk x.1) [(.agg [(.int .i64 l.k), (.sl 2 false (List.map enc l.t))]), (.int .i64 8)]) = true ∧ (∃ y0 : Bool, AV.pv (valT (fun (x : Lin × Int × Unit) => few4 x.1 x.2.1) [(.agg [(.int .i64 l.k), (.sl 2 false (List.map enc l.t))]), (.int .i64 8)]) = AV.pv (enc y0) ∧ (if (!y0) = true then G ((.bool false)) else (if (decide (n < 1)) = true then G ((.bool false)) else (if (decide ((↑(List.length (List.map enc ks)) : Int) > n)) = true then G ((.bool false)) else (At (T_rsmall7 N) 0 (endP' rs_rsmall7 G) ic_rsmall7 0 51 [(1, (.pv (.int .i64 n))), (2, (.ptr 0 0)), (5, (.pv (.int .i64 0)))] [(.obj (.box [(.pv (.int .i64 k)), (.pv (.sl 1 false (List.map enc m))), (.pv (.int .i64 l.k)), (.pv (.sl 2 false (List.map enc l.t))), (.pv (.sl 5 false (List.map enc ks)))]))]))))))) : Gets (T_rsmall7 N) 0 (endP' rs_rsmall7 G) ic_rsmall7 [] (st0 51 [.agg [enc k, enc m, enc l.k, enc l.t, enc ks], enc n]) := Gets.tp (.lit (.ask (.lit (.lit (.lit (.lit (.lit (.lit (.lit (.lit (.lit (.lit (.lit (.lit (.lit (.lit (.nil))))))))))))))) (.lit (.lit (.req (.abs (Bool) (fun YY => AV.pv (enc YY)) (.lit (.lit (.ask (.lit (.lit (.lit (.lit (.lit (.lit (.lit (.lit (.lit (.nil)))))))))) (.lit (.lit (.lit (.ask (.lit (.lit (.lit (.lit (.lit (.lit (.nil))))))) (.lit (.lit (.lit (.lit (.lit (.lit (.ask (.nil) (.nil))))))))))))))))))))) h (by kernel_rfl)
theorem rsmall7_h0 {G : PV -> Prop} (N : Nat) (k : Int) (m : List Int) (l : Lin) (ks : List Cert) (n : Int) (i : Int) (h : if (decide (i < (↑(List.length (List.map enc ks)) : Int))) = true then (decide (0 <= i) && decide (Int.toNat i < List.length (List.map enc ks)) && Enc.sz Cert == 5) = true ∧ (∃ y0 : Cert, AV.pv (PV.rptr (PV.cells (List.getD (List.map enc ks) (Int.toNat i) default))) = AV.pv (PV.rptr (PV.cells ((enc) y0))) ∧ ((decide (0 + List.length [Sh.int .i64, Sh.sl 1, Sh.int .i64, Sh.sl 2, Sh.sl 5] <= List.length (PV.cells (enc y0))) && shFit (PV.cells (enc y0)) 0 [Sh.int .i64, Sh.sl 1, Sh.int .i64, Sh.sl 2, Sh.sl 5]) = true ∧ ((Go.Pl.preT (fun (x : Cert × Int × Unit) => cOk x.1 && decide (depC x.1 < N)) [(.agg [(.int .i64 (PV.asInt (List.getD (PV.cells (enc y0)) 0 default))), (.sl 1 (PV.asT (List.getD (PV.cells (enc y0)) (0 + 1) default)) (PV.asXs (List.getD (PV.cells (enc y0)) (0 + 1) default))), (.int .i64 (PV.asInt (List.getD (PV.cells (enc y0)) (0 + 1 + 1) default))), (.sl 2 (PV.asT (List.getD (PV.cells (enc y0)) (0 + 1 + 1 + 1) default)) (PV.asXs (List.getD (PV.cells (enc y0)) (0 + 1 + 1 + 1) default))), (.sl 5 (PV.asT (List.getD (PV.cells (enc y0)) (0 + 1 + 1 + 1 + 1) default)) (PV.asXs (List.getD (PV.cells (enc y0)) (0 + 1 + 1 + 1 + 1) default)))]), (.int .i64 (IntKind.wrap IntKind.i64 (n - 1)))]) = true ∧ (∃ y1 : Bool, AV.pv (valT (fun (x : Cert × Int × Unit) => smallC x.1 x.2.1) [(.agg [(.int .i64 (PV.asInt (List.getD (PV.cells (enc y0)) 0 default))), (.sl 1 (PV.asT (List.getD (PV.cells (enc y0)) (0 + 1) default)) (PV.asXs (List.getD (PV.cells (enc y0)) (0 + 1) default))), (.int .i64 (PV.asInt (List.getD (PV.cells (enc y0)) (0 + 1 + 1) default))), (.sl 2 (PV.asT (List.getD (PV.cells (enc y0)) (0 + 1 + 1 + 1) default)) (PV.asXs (List.getD (PV.cells (enc y0)) (0 + 1 + 1 + 1) default))), (.sl 5 (PV.asT (List.getD (PV.cells (enc y0)) (0 + 1 + 1 + 1 + 1) default)) (PV.asXs (List.getD (PV.cells (enc y0)) (0 + 1 + 1 + 1 + 1) default)))]), (.int .i64 (IntKind.wrap IntKind.i64 (n - 1)))]) = AV.pv (enc y1) ∧ (if (!y1) = true then G ((.bool false)) else ((decide (0 <= i) && decide (Int.toNat i < List.length (List.map enc ks)) && Enc.sz Cert == 5) = true ∧ (∃ y2 : Cert, AV.pv (PV.rptr (PV.cells (List.getD (List.map enc ks) (Int.toNat i) default))) = AV.pv (PV.rptr (PV.cells ((enc) y2))) ∧ ((decide (0 + List.length [Sh.int .i64, Sh.sl 1, Sh.int .i64, Sh.sl 2, Sh.sl 5] <= List.length (PV.cells (enc y2))) && shFit (PV.cells (enc y2)) 0 [Sh.int .i64, Sh.sl 1, Sh.int .i64, Sh.sl 2, Sh.sl 5]) = true ∧ ((Go.Pl.preT (fun (x : Cert × Unit) => cOk x.1) [(.agg [(.int .i64 (PV.asInt (List.getD (PV.cells (enc y2)) 0 default))), (.sl 1 (PV.asT (List.getD (PV.cells (enc y2)) (0 + 1) default)) (PV.asXs (List.getD (PV.cells (enc y2)) (0 + 1) default))), (.int .i64 (PV.asInt (List.getD (PV.cells (enc y2)) (0 + 1 + 1) default))), (.sl 2 (PV.asT (List.getD (PV.cells (enc y2)) (0 + 1 + 1 + 1) default)) (PV.asXs (List.getD (PV.cells (enc y2)) (0 + 1 + 1 + 1) default))), (.sl 5 (PV.asT (List.getD (PV.cells (enc y2)) (0 + 1 + 1 + 1 + 1) default)) (PV.asXs (List.getD (PV.cells (enc y2)) (0 + 1 + 1 + 1 + 1) default)))])]) = true ∧ (∃ y3 : Int, AV.pv (valT (fun (x : Cert × Unit) => sizeC x.1) [(.agg [(.int .i64 (PV.asInt (List.getD (PV.cells (enc y2)) 0 default))), (.sl 1 (PV.asT (List.getD (PV.cells (enc y2)) (0 + 1) default)) (PV.asXs (List.getD (PV.cells (enc y2)) (0 + 1) default))), (.int .i64 (PV.asInt (List.getD (PV.cells (enc y2)) (0 + 1 + 1) default))), (.sl 2 (PV.asT (List.getD (PV.cells (enc y2)) (0 + 1 + 1 + 1) default)) (PV.asXs (List.getD (PV.cells (enc y2)) (0 + 1 + 1 + 1) default))), (.sl 5 (PV.asT (List.getD (PV.cells (enc y2)) (0 + 1 + 1 + 1 + 1) default)) (PV.asXs (List.getD (PV.cells (enc y2)) (0 + 1 + 1 + 1 + 1) default)))])]) = AV.pv (enc y3) ∧ (At (T_rsmall7 N) 0 (endP' rs_rsmall7 G) ic_rsmall7 0 51 [(1, (.pv (.int .i64 (IntKind.wrap IntKind.i64 (n - y3))))), (2, (.ptr 0 0)), (5, (.pv (.int .i64 (IntKind.wrap IntKind.i64 (i + 1)))))] [(.obj (.box [(.pv (.int .i64 k)), (.pv (.sl 1 false (List.map enc m))), (.pv (.int .i64 l.k)), (.pv (.sl 2 false (List.map enc l.t))), (.pv (.sl 5 false (List.map enc ks)))]))]))))))))))) else (G ((.bool true)))) : At (T_rsmall7 N) 0 (endP' rs_rsmall7 G) ic_rsmall7 0 51 [(1, .pv (.int .i64 n)), (2, .ptr 0 0), (5, .pv (.int .i64 i))] [.obj (.box [.pv (enc k), .pv (enc m), .pv (enc l.k), .pv (enc l.t), .pv (enc ks)])] := At.tp (.lit (.ask (.req (.abs (Cert) (fun YY => AV.pv (PV.rptr (PV.cells ((enc) YY)))) (.req (.lit (.req (.abs (Bool) (fun YY => AV.pv (enc YY)) (.ask (.nil) (.req (.abs (Cert) (fun YY => AV.pv (PV.rptr (PV.cells ((enc) YY)))) (.req (.req (.abs (Int) (fun YY => AV.pv (enc YY)) (.lit (.lit (.nil))))))))))))))) (.nil))) h (by kernel_rfl)
def ic_ritoa1 : IC := (.seq (.reg [⟨(some 2), (.mv (.c (.str []))), 0, none⟩] none) (.seq (.seq (.reg [⟨(some 3), (.mv (.t 0)), 0, none⟩, ⟨(some 4), (.bin .num .lss (.t 3) (.c (.int .i64 0))), 0, none⟩] none) (.cond (.t 4) (.seq (.reg [⟨(some 5), (.mv (.t 0)), 0, none⟩, ⟨(some 6), (.un .neg (.t 5)), 0, none⟩, ⟨(some 7), (.call (.c (.fn 81)) [(.t 6)]), 0, none⟩, ⟨(some 8), (.bin .num .add (.c (.str [45])) (.t 7)), 2, none⟩, ⟨(some 2), (.mv (.t 8)), 2, none⟩] none) .ret) .skip)) (.seq (.seq (.reg [⟨(some 9), (.mv (.t 0)), 0, none⟩, ⟨(some 10), (.bin .num .lss (.t 9) (.c (.int .i64 10))), 0, none⟩] none) (.cond (.t 10) (.seq (.reg [⟨(some 11), (.mv (.t 0)), 0, none⟩, ⟨(some 12), (.mv (.t 0)), 0, none⟩, ⟨(some 13), (.bin .num .add (.t 12) (.c (.int .i64 1))), 0, none⟩, ⟨(some 14), (.strslc (.c (.str [48, 49, 50, 51, 52, 53, 54, 55, 56, 57])) (some (.t 11)) (some (.t 13))), 0, none⟩, ⟨(some 2), (.mv (.t 14)), 0, none⟩] none) .ret) .skip)) (.seq (.reg [⟨(some 15), (.mv (.t 0)), 0, none⟩, ⟨(some 16), (.bin .num .quo (.t 15) (.c (.int .i64 10))), 0, none⟩, ⟨(some 17), (.call (.c (.fn 81)) [(.t 16)]), 0, none⟩, ⟨(some 18), (.mv (.t 0)), 2, none⟩, ⟨(some 19), (.bin .num .rem (.t 18) (.c (.int .i64 10))), 2, none⟩, ⟨(some 20), (.call (.c (.fn 81)) [(.t 19)]), 2, none⟩, ⟨(some 21), (.bin .num .add (.t 17) (.t 20)), 4, none⟩, ⟨(some 2), (.mv (.t 21)), 4, none⟩] none) .ret))))
def rs_ritoa1 : List IRes := [(.tmp 2)]
abbrev nt_ritoa1 : Nat := 22
def T_ritoa1 : Tab := tab []
theorem ritoa1_s {G : PV -> Prop}  (h : G ((.str (List.drop (Int.toNat 1) (List.take (Int.toNat (IntKind.wrap IntKind.i64 (1 + 1))) [(48 : UInt8), (49 : UInt8), (50 : UInt8), (51 : UInt8), (52 : UInt8), (53 : UInt8), (54 : UInt8), (55 : UInt8), (56 : UInt8), (57 : UInt8)]))))) : Gets T_ritoa1 0 (endP' rs_ritoa1 G) ic_ritoa1 [] (st0 22 [.int .i64 1]) := Gets.tp (.lit (.lit (.lit (.lit (.lit (.lit (.nil))))))) h (by kernel_rfl)
def ic_ritoam : IC := ic_ritoa1
def rs_ritoam : List IRes := [(.tmp 2)]
abbrev nt_ritoam : Nat := 22
def T_ritoam : Tab := tab [(81, .pure (preT (fun x : Int × Unit => decide (x.1 = 1))) (valT (fun _ : Int × Unit => itoa1)))]
theorem ritoam_s {G : PV -> Prop}  (h : ∃ y0 : Str, AV.pv (valT (fun (x : Int × Unit) => itoa1) [(.int .i64 1)]) = AV.pv (enc y0) ∧ ((decide (List.length [(45 : UInt8)] + List.length (Str.s y0) <= 1099511627776)) = true ∧ (G ((.str ([(45 : UInt8)] ++ Str.s y0)))))) : Gets T_ritoam 0 (endP' rs_ritoam G) ic_ritoam [] (st0 22 [.int .i64 (-1)]) := Gets.tp (.lit (.lit (.lit (.abs (Str) (fun YY => AV.pv (enc YY)) (.req (.nil)))))) h (by kernel_rfl)
def ic_rprint1 : IC := (.seq (.reg [⟨(some 1), (.box 2 (.t 0)), 0, none⟩, ⟨(some 2), (.mv (.c (.str []))), 1, none⟩] none) (.seq (.seq (.reg [⟨(some 6), (.load true [(.int .i64), (.sl 2)] (.t 1)), 0, none⟩, ⟨(some 7), (.call (.c (.fn 36)) [(.t 6)]), 0, none⟩, ⟨(some 8), (.un .not (.t 7)), 2, none⟩] none) (.cond (.t 8) (.seq (.reg [⟨(some 2), (.mv (.c (.str []))), 0, none⟩] none) .ret) .skip)) (.seq (.reg [⟨(some 3), (.mv (.c (.str []))), 0, none⟩] none) (.seq (.seq (.reg [⟨(some 4), (.mv (.c (.int .i64 0))), 0, none⟩] none) (.block 0 (.loop [4, 1, 3] (.seq (.seq (.reg [⟨(some 9), (.mv (.t 4)), 0, none⟩, ⟨(some 10), (.faddr 1 (.t 1)), 0, none⟩, ⟨(some 11), (.load false [(.sl 2)] (.t 10)), 0, none⟩, ⟨(some 12), (.len 1 (.t 11)), 0, none⟩, ⟨(some 13), (.bin .num .lss (.t 9) (.t 12)), 0, none⟩] none) (.cond (.t 13) .skip (.exit 0))) (.seq (.block 1 (.seq (.reg [⟨(some 16), (.faddr 1 (.t 1)), 0, none⟩, ⟨(some 17), (.load false [(.sl 2)] (.t 16)), 0, none⟩, ⟨(some 18), (.mv (.t 4)), 0, none⟩, ⟨(some 19), (.iaddr 2 (.t 17) (.t 18)), 0, none⟩, ⟨(some 20), (.load true [.str, (.int .i64)] (.t 19)), 0, none⟩, ⟨(some 5), (.alloc (.agg [(.str []), (.int .i64 0)])), 0, none⟩, ⟨none, (.store 2 (.t 5) (.t 20)), 1, none⟩] none) (.seq (.block 2 (.seq (.reg [⟨(some 22), (.faddr 1 (.t 5)), 0, none⟩, ⟨(some 23), (.load false [(.int .i64)] (.t 22)), 0, none⟩, ⟨(some 24), (.bin .num .lss (.t 23) (.c (.int .i64 0))), 0, none⟩, ⟨(some 21), (.mv (.t 24)), 0, none⟩] none) (.cond (.t 21) (.seq (.reg [⟨(some 25), (.mv (.t 3)), 0, none⟩, ⟨(some 26), (.bin .num .add (.t 25) (.c (.str [45]))), 0, none⟩, ⟨(some 3), (.mv (.t 26)), 0, none⟩] none) (.reg [⟨(some 27), (.faddr 1 (.t 5)), 0, none⟩, ⟨(some 28), (.load false [(.int .i64)] (.t 27)), 0, none⟩, ⟨(some 29), (.un .neg (.t 28)), 0, none⟩, ⟨(some 30), (.faddr 1 (.t 5)), 0, none⟩, ⟨none, (.store 1 (.t 30) (.t 29)), 0, none⟩] none)) (.seq (.reg [⟨(some 32), (.mv (.t 4)), 0, none⟩, ⟨(some 33), (.bin .num .gtr (.t 32) (.c (.int .i64 0))), 0, none⟩, ⟨(some 31), (.mv (.t 33)), 0, none⟩] none) (.cond (.t 31) (.reg [⟨(some 34), (.mv (.t 3)), 0, none⟩, ⟨(some 35), (.bin .num .add (.t 34) (.c (.str [43]))), 0, none⟩, ⟨(some 3), (.mv (.t 35)), 0, none⟩] none) .skip))))) (.seq (.seq (.reg [⟨(some 36), (.faddr 1 (.t 5)), 0, none⟩, ⟨(some 37), (.load false [(.int .i64)] (.t 36)), 0, none⟩, ⟨(some 38), (.bin .num .gtr (.t 37) (.c (.int .i64 1))), 0, none⟩] none) (.cond (.t 38) (.reg [⟨(some 39), (.mv (.t 3)), 0, none⟩, ⟨(some 40), (.faddr 1 (.t 5)), 0, none⟩, ⟨(some 41), (.load false [(.int .i64)] (.t 40)), 0, none⟩, ⟨(some 42), (.call (.c (.fn 81)) [(.t 41)]), 0, none⟩, ⟨(some 43), (.bin .num .add (.t 39) (.t 42)), 2, none⟩, ⟨(some 3), (.mv (.t 43)), 2, none⟩] none) .skip)) (.reg [⟨(some 44), (.mv (.t 3)), 0, none⟩, ⟨(some 45), (.faddr 0 (.t 5)), 0, none⟩, ⟨(some 46), (.load false [.str] (.t 45)), 0, none⟩, ⟨(some 47), (.bin .num .add (.t 44) (.t 46)), 0, none⟩, ⟨(some 3), (.mv (.t 47)), 0, none⟩] none))))) (.reg [⟨(some 14), (.mv (.t 4)), 0, none⟩, ⟨(some 15), (.bin .num .add (.t 14) (.c (.int .i64 1))), 0, none⟩, ⟨(some 4), (.mv (.t 15)), 0, none⟩] none)))))) (.seq (.seq (.reg [⟨(some 48), (.faddr 1 (.t 1)), 0, none⟩, ⟨(some 49), (.load false [(.sl 2)] (.t 48)), 0, none⟩, ⟨(some 50), (.len 1 (.t 49)), 0, none⟩, ⟨(some 51), (.bin .num .eql (.t 50) (.c (.int .i64 0))), 0, none⟩] none) (.cond (.t 51) (.seq (.reg [⟨(some 52), (.faddr 0 (.t 1)), 0, none⟩, ⟨(some 53), (.load false [(.int .i64)] (.t 52)), 0, none⟩, ⟨(some 54), (.call (.c (.fn 81)) [(.t 53)]), 0, none⟩, ⟨(some 2), (.mv (.t 54)), 2, none⟩] none) .ret) .skip)) (.seq (.seq (.reg [⟨(some 55), (.faddr 0 (.t 1)), 0, none⟩, ⟨(some 56), (.load false [(.int .i64)] (.t 55)), 0, none⟩, ⟨(some 57), (.bin .num .gtr (.t 56) (.c (.int .i64 0))), 0, none⟩] none) (.cond (.t 57) (.reg [⟨(some 58), (.mv (.t 3)), 0, none⟩, ⟨(some 59), (.bin .num .add (.t 58) (.c (.str [43]))), 0, none⟩, ⟨(some 3), (.mv (.t 59)), 0, none⟩] none) .skip)) (.seq (.seq (.reg [⟨(some 60), (.faddr 0 (.t 1)), 0, none⟩, ⟨(some 61), (.load false [(.int .i64)] (.t 60)), 0, none⟩, ⟨(some 62), (.bin .num .neq (.t 61) (.c (.int .i64 0))), 0, none⟩] none) (.cond (.t 62) (.reg [⟨(some 63), (.mv (.t 3)), 0, none⟩, ⟨(some 64), (.faddr 0 (.t 1)), 0, none⟩, ⟨(some 65), (.load false [(.int .i64)] (.t 64)), 0, none⟩, ⟨(some 66), (.call (.c (.fn 81)) [(.t 65)]), 0, none⟩, ⟨(some 67), (.bin .num .add (.t 63) (.t 66)), 2, none⟩, ⟨(some 3), (.mv (.t 67)), 2, none⟩] none) .skip)) (.seq (.reg [⟨(some 68), (.mv (.t 3)), 0, none⟩, ⟨(some 2), (.mv (.t 68)), 0, none⟩] none) .ret))))))))
def rs_rprint1 : List IRes := [(.tmp 2)]
abbrev nt_rprint1 : Nat := 69
def T_rprint1 : Tab := tab [(36, .pure (preT (fun x : Lin × Unit => linOk x.1)) (valT (fun x : Lin × Unit => validL x.1))), (81, .pure (preT (fun x : Int × Unit => decide (x.1 = -1))) (valT (fun _ : Int × Unit => itoam)))]
theorem rprint1_s {G : PV -> Prop}  (h : ∃ y0 : Bool, AV.pv (valT (fun (x : Lin × Unit) => validL x.1) [(.agg [(.int .i64 (-1)), (.sl 2 false [(.agg [(.str [(110 : UInt8)]), (.int .i64 1)])])])]) = AV.pv (enc y0) ∧ (if (!y0) = true then G ((.str [])) else (At T_rprint1 0 (endP' rs_rprint1 G) ic_rprint1 0 69 [(1, (.ptr 0 0)), (3, (.pv (.str []))), (4, (.pv (.int .i64 0)))] [(.obj (.box [(.pv (.int .i64 (-1))), (.pv (.sl 2 false [(.agg [(.str [(110 : UInt8)]), (.int .i64 1)])]))]))]))) : Gets T_rprint1 0 (endP' rs_rprint1 G) ic_rprint1 [] (st0 69 [.agg [.int .i64 (-1), .sl 2 false [.agg [.str [110], .int .i64 1]]]]) := Gets.tp (.lit (.abs (Bool) (fun YY => AV.pv (enc YY)) (.ask (.nil) (.nil)))) h (by kernel_rfl)
theorem rprint1_h0a {G : PV -> Prop}  (o : List UInt8) (h : (decide (List.length o + List.length (PV.asStr (List.getD (PV.cells (List.getD [PV.agg [PV.str [(110 : UInt8)], PV.int .i64 1]] (Int.toNat 0) default)) 0 default)) <= 1099511627776)) = true ∧ (At T_rprint1 0 (endP' rs_rprint1 G) ic_rprint1 0 69 [(1, (.ptr 0 0)), (3, (.pv (.str (o ++ PV.asStr (List.getD (PV.cells (List.getD [PV.agg [PV.str [(110 : UInt8)], PV.int .i64 1]] (Int.toNat 0) default)) 0 default))))), (4, (.pv (.int .i64 1)))] [(.obj (.box [(.pv (.int .i64 (-1))), (.pv (.sl 2 false [(.agg [(.str [(110 : UInt8)]), (.int .i64 1)])]))]))])) : At T_rprint1 0 (endP' rs_rprint1 G) ic_rprint1 0 69 [(1, .ptr 0 0), (3, .pv (.str o)), (4, .pv (.int .i64 0))] [.obj (.box [.pv (.int .i64 (-1)), .pv (.sl 2 false [.agg [.str [110], .int .i64 1]])])] := At.tp (.lit (.lit (.lit (.keep (.lit (.lit (.lit (.lit (.lit (.lit (.lit (.req (.lit (.nil)))))))))))))) h (by kernel_rfl)
theorem rprint1_h0b {G : PV -> Prop}   (h : ∃ y0 : Str, AV.pv (valT (fun (x : Int × Unit) => itoam) [(.int .i64 (-1))]) = AV.pv (enc y0) ∧ ((decide (List.length [(110 : UInt8)] + List.length (Str.s y0) <= 1099511627776)) = true ∧ (G ((.str ([(110 : UInt8)] ++ Str.s y0)))))) : At T_rprint1 0 (endP' rs_rprint1 G) ic_rprint1 0 69 [(1, .ptr 0 0), (3, .pv (.str [110])), (4, .pv (.int .i64 1))] [.obj (.box [.pv (.int .i64 (-1)), .pv (.sl 2 false [.agg [.str [110], .int .i64 1]])])] := At.tp (.lit (.lit (.lit (.lit (.lit (.lit (.lit (.lit (.lit (.abs (Str) (fun YY => AV.pv (enc YY)) (.req (.nil)))))))))))) h (by kernel_rfl)
def ic_lsum7 : IC := (.seq (.reg [⟨(some 2), (.alloc (.agg [(.int .i64 0), (.sl 0 true []), (.int .i64 0), (.sl 0 true []), (.sl 0 true [])])), 0, none⟩] none) (.seq (.reg [⟨(some 3), (.mv (.t 0)), 0, none⟩, ⟨(some 4), (.build [(.int .i64 0), (.sl 0 true []), (.int .i64 0), (.sl 0 true []), (.sl 0 true [])] [(0, (1, (.c (.int .i64 1)))), (1, (1, (.t 3)))]), 0, none⟩, ⟨none, (.store 5 (.t 2) (.t 4)), 0, none⟩] none) .ret))
def rs_lsum7 : List IRes := [(.cell true 5 2)]
abbrev nt_lsum7 : Nat := 5
def T_lsum7 : Tab := tab []
theorem lsum7_s {G : PV -> Prop} (m : List Int) (h : G ((.agg [(.int .i64 1), (.sl 1 false (List.map enc m)), (.int .i64 0), (.sl 0 true []), (.sl 0 true [])]))) : Gets T_lsum7 0 (endP' rs_lsum7 G) ic_lsum7 [] (st0 5 [enc m]) := Gets.tp (.nil) h (by kernel_rfl)
def ic_awake7 : IC := (.seq (.reg [⟨(some 0), (.mv (.c (.bool false))), 0, none⟩] none) (.seq (.reg [⟨(some 5), (.call (.c (.fn 60)) [(.c (.int .i64 (-1)))]), 0, none⟩, ⟨(some 6), (.call (.c (.fn 59)) [(.t 5), (.c (.str [110])), (.c (.int .i64 2))]), 2, none⟩, ⟨(some 7), (.build [(.bool false), (.int .i64 0), (.sl 0 true [])] [(0, (1, (.c (.bool true)))), (1, (2, (.t 6)))]), 4, none⟩, ⟨(some 8), (.bslice 83 3 1 (.agg [(.bool false), (.int .i64 0), (.sl 0 true [])]) [(0, (.t 7))]), 4, none⟩, ⟨(some 1), (.mv (.t 8)), 5, none⟩] none) (.seq (.reg [⟨(some 9), (.bslice 3 1 1 (.int .i64 0) [(0, (.c (.int .i64 1)))]), 0, none⟩, ⟨(some 10), (.bslice 3 1 2 (.int .i64 0) [(0, (.c (.int .i64 (-1)))), (1, (.c (.int .i64 0)))]), 1, none⟩, ⟨(some 11), (.bslice 3 1 3 (.int .i64 0) [(0, (.c (.int .i64 0))), (1, (.c (.int .i64 1))), (2, (.c (.int .i64 1)))]), 2, none⟩, ⟨(some 12), (.call (.c (.fn 61)) [(.t 11)]), 3, none⟩, ⟨(some 13), (.bslice 29 5 1 (.agg [(.int .i64 0), (.sl 0 true []), (.int .i64 0), (.sl 0 true []), (.sl 0 true [])]) [(0, (.t 12))]), 5, none⟩, ⟨(some 14), (.build [(.int .i64 0), (.sl 0 true []), (.int .i64 0), (.sl 0 true []), (.sl 0 true [])] [(0, (1, (.c (.int .i64 2)))), (1, (1, (.t 10))), (4, (1, (.t 13)))]), 6, none⟩, ⟨(some 15), (.bslice 29 5 1 (.agg [(.int .i64 0), (.sl 0 true []), (.int .i64 0), (.sl 0 true []), (.sl 0 true [])]) [(0, (.t 14))]), 6, none⟩, ⟨(some 16), (.build [(.int .i64 0), (.sl 0 true []), (.int .i64 0), (.sl 0 true []), (.sl 0 true [])] [(0, (1, (.c (.int .i64 2)))), (1, (1, (.t 9))), (4, (1, (.t 15)))]), 7, none⟩, ⟨(some 2), (.alloc (.agg [(.int .i64 0), (.sl 0 true []), (.int .i64 0), (.sl 0 true []), (.sl 0 true [])])), 7, none⟩, ⟨none, (.store 5 (.t 2) (.t 16)), 8, none⟩] none) (.seq (.reg [⟨(some 18), (.mv (.t 1)), 0, none⟩, ⟨(some 19), (.bslice 3 1 1 (.int .i64 0) [(0, (.c (.int .i64 1)))]), 0, none⟩, ⟨(some 20), (.call (.c (.fn 26)) [(.t 18), (.t 19)]), 1, none⟩, ⟨(some 17), (.mv (.t 20)), 3, none⟩, ⟨(some 21), (.extract (.t 17) 0), 3, none⟩, ⟨(some 22), (.extract (.t 17) 1), 3, none⟩, ⟨(some 3), (.alloc (.agg [(.int .i64 0), (.sl 0 true [])])), 3, none⟩, ⟨none, (.store 2 (.t 3) (.t 21)), 4, none⟩, ⟨(some 4), (.mv (.t 22)), 4, none⟩] none) (.seq (.reg [⟨(some 23), (.mv (.t 1)), 0, none⟩, ⟨(some 24), (.load true [(.int .i64), (.sl 1), (.int .i64), (.sl 2), (.sl 5)] (.t 2)), 0, none⟩, ⟨(some 25), (.call (.c (.fn 15)) [(.t 23), (.t 24)]), 0, none⟩, ⟨(some 26), (.bin .num .eql (.t 25) (.c (.int .i64 0))), 2, none⟩, ⟨(some 27), (.mv (.t 26)), 2, none⟩, ⟨(some 28), (.mv (.t 1)), 2, (some (27, true))⟩, ⟨(some 29), (.bslice 3 1 1 (.int .i64 0) [(0, (.c (.int .i64 1)))]), 2, (some (27, true))⟩, ⟨(some 30), (.call (.c (.fn 61)) [(.t 29)]), 3, (some (27, true))⟩, ⟨(some 31), (.call (.c (.fn 15)) [(.t 28), (.t 30)]), 5, (some (27, true))⟩, ⟨(some 32), (.bin .num .eql (.t 31) (.c (.int .i64 18))), 7, (some (27, true))⟩, ⟨(some 33), (.pick (.t 27) (.t 32) (.c (.bool false))), 7, none⟩, ⟨(some 34), (.mv (.t 33)), 7, none⟩, ⟨(some 35), (.load true [(.int .i64), (.sl 1), (.int .i64), (.sl 2), (.sl 5)] (.t 2)), 7, (some (34, true))⟩, ⟨(some 36), (.call (.c (.fn 17)) [(.t 35)]), 7, (some (34, true))⟩, ⟨(some 37), (.bin .num .eql (.t 36) (.c (.int .i64 3))), 9, (some (34, true))⟩, ⟨(some 38), (.pick (.t 34) (.t 37) (.c (.bool false))), 9, none⟩, ⟨(some 39), (.mv (.t 38)), 9, none⟩, ⟨(some 40), (.mv (.t 4)), 9, (some (39, true))⟩, ⟨(some 41), (.bin .num .eql (.t 40) (.c (.int .i64 0))), 9, (some (39, true))⟩, ⟨(some 42), (.pick (.t 39) (.t 41) (.c (.bool false))), 9, none⟩, ⟨(some 43), (.mv (.t 42)), 9, none⟩, ⟨(some 44), (.load true [(.int .i64), (.sl 2)] (.t 3)), 9, (some (43, true))⟩, ⟨(some 45), (.call (.c (.fn 34)) [(.t 44)]), 9, (some (43, true))⟩, ⟨(some 46), (.bin .num .eql (.t 45) (.c (.str [110, 45, 49]))), 11, (some (43, true))⟩, ⟨(some 47), (.pick (.t 43) (.t 46) (.c (.bool false))), 11, none⟩, ⟨(some 48), (.mv (.t 47)), 11, none⟩, ⟨(some 49), (.mv (.t 1)), 11, (some (48, true))⟩, ⟨(some 50), (.call (.c (.fn 28)) [(.t 49)]), 11, (some (48, true))⟩, ⟨(some 51), (.pick (.t 48) (.t 50) (.c (.bool false))), 13, none⟩, ⟨(some 0), (.mv (.t 51)), 13, none⟩] none) .ret)))))
def rs_awake7 : List IRes := [(.tmp 0)]
abbrev nt_awake7 : Nat := 52
def T_awake7 : Tab := tab [(60, .pure (preT (fun _ : Int × Unit => true)) (valT (fun x : Int × Unit => (⟨x.1, []⟩ : Lin)))), (59, .pure (preT (fun x : Lin × Str × Int × Unit => decide (x.1.t.length <= 1000000))) (valT (fun x : Lin × Str × Int × Unit => plusL x.1 x.2.1 x.2.2.1))), (61, .pure (preT (fun _ : List Int × Unit => true)) (valT (fun x : List Int × Unit => Cert.mk 1 x.1 ⟨0, []⟩ []))), (26, .pure (preT (fun x : List Fact × List Int × Unit => factsSm x.1 && decide (x.1.length <= 300))) (valT (fun x : List Fact × List Int × Unit => cutL x.1 x.2.1))), (15, .pure (preT (fun x : List Fact × Cert × Unit => factsSm x.1 && cSm x.2.1 && decide (x.1.length + depC x.2.1 <= 300))) (valT (fun x : List Fact × Cert × Unit => checkC x.1 x.2.1))), (17, .pure (preT (fun x : Cert × Unit => cOk x.1)) (valT (fun x : Cert × Unit => sizeC x.1))), (34, .pure (preT (fun x : Lin × Unit => decide (x.1 = exL))) (valT (fun _ : Lin × Unit => print1))), (28, .pure (preT (fun x : List Fact × Unit => factsSm x.1)) (valT (fun x : List Fact × Unit => valid7 x.1)))]
theorem awake7_s {G : PV -> Prop}  (h : ∃ y0 : Lin, AV.pv (valT (fun (x : Int × Unit) => Lin.mk x.1 []) [(.int .i64 (-1))]) = AV.pv (enc y0) ∧ ((Go.Pl.preT (fun (x : Lin × Str × Int × Unit) => decide (List.length x.1.t <= 1000000)) [(.agg [(.int .i64 y0.k), (.sl 2 false (List.map enc y0.t))]), (.str [(110 : UInt8)]), (.int .i64 2)]) = true ∧ (∃ y1 : Lin, AV.pv (valT (fun (x : Lin × Str × Int × Unit) => plusL x.1 x.2.1 x.2.2.1) [(.agg [(.int .i64 y0.k), (.sl 2 false (List.map enc y0.t))]), (.str [(110 : UInt8)]), (.int .i64 2)]) = AV.pv (enc y1) ∧ (∃ y2 : Cert, AV.pv (valT (fun (x : List Int × Unit) => Cert.mk 1 x.1 (Lin.mk 0 []) []) [(.sl 1 false [(.int .i64 0), (.int .i64 1), (.int .i64 1)])]) = AV.pv (enc y2) ∧ ((List.all [enc y2] fun (x : PV) => List.length (PV.cells x) == 5 && PV.cellsOk x) = true ∧ ((Go.Pl.preT (fun (x : List Fact × List Int × Unit) => factsSm x.1 && decide (List.length x.1 <= 300)) [(.sl 3 false [(.agg [(.bool true), (.int .i64 y1.k), (.sl 2 false (List.map enc y1.t))])]), (.sl 1 false [(.int .i64 1)])]) = true ∧ (∃ y3 : Lin × Int, AV.pv (valT (fun (x : List Fact × List Int × Unit) => cutL x.1 x.2.1) [(.sl 3 false [(.agg [(.bool true), (.int .i64 y1.k), (.sl 2 false (List.map enc y1.t))])]), (.sl 1 false [(.int .i64 1)])]) = AV.pv (enc y3) ∧ ((Go.Pl.preT (fun (x : List Fact × Cert × Unit) => factsSm x.1 && cSm x.2.1 && decide (List.length x.1 + depC x.2.1 <= 300)) [(.sl 3 false [(.agg [(.bool true), (.int .i64 y1.k), (.sl 2 false (List.map enc y1.t))])]), (.agg [(.int .i64 2), (.sl 1 false [(.int .i64 1)]), (.int .i64 0), (.sl 0 true []), (.sl 5 false [(.agg [(.int .i64 2), (.sl 1 false [(.int .i64 (-1)), (.int .i64 0)]), (.int .i64 0), (.sl 0 true []), (.sl 5 false [enc y2])])])])]) = true ∧ (∃ y4 : Int, AV.pv (valT (fun (x : List Fact × Cert × Unit) => checkC x.1 x.2.1) [(.sl 3 false [(.agg [(.bool true), (.int .i64 y1.k), (.sl 2 false (List.map enc y1.t))])]), (.agg [(.int .i64 2), (.sl 1 false [(.int .i64 1)]), (.int .i64 0), (.sl 0 true []), (.sl 5 false [(.agg [(.int .i64 2), (.sl 1 false [(.int .i64 (-1)), (.int .i64 0)]), (.int .i64 0), (.sl 0 true []), (.sl 5 false [enc y2])])])])]) = AV.pv (enc y4) ∧ (if (y4 == 0) = true then ∃ y5 : Cert, AV.pv (valT (fun (x : List Int × Unit) => Cert.mk 1 x.1 (Lin.mk 0 []) []) [(.sl 1 false [(.int .i64 1)])]) = AV.pv (enc y5) ∧ ((Go.Pl.preT (fun (x : List Fact × Cert × Unit) => factsSm x.1 && cSm x.2.1 && decide (List.length x.1 + depC x.2.1 <= 300)) [(.sl 3 false [(.agg [(.bool true), (.int .i64 y1.k), (.sl 2 false (List.map enc y1.t))])]), enc y5]) = true ∧ (∃ y6 : Int, AV.pv (valT (fun (x : List Fact × Cert × Unit) => checkC x.1 x.2.1) [(.sl 3 false [(.agg [(.bool true), (.int .i64 y1.k), (.sl 2 false (List.map enc y1.t))])]), enc y5]) = AV.pv (enc y6) ∧ (if (y6 == 18) = true then (Go.Pl.preT (fun (x : Cert × Unit) => cOk x.1) [(.agg [(.int .i64 2), (.sl 1 false [(.int .i64 1)]), (.int .i64 0), (.sl 0 true []), (.sl 5 false [(.agg [(.int .i64 2), (.sl 1 false [(.int .i64 (-1)), (.int .i64 0)]), (.int .i64 0), (.sl 0 true []), (.sl 5 false [enc y2])])])])]) = true ∧ (∃ y7 : Int, AV.pv (valT (fun (x : Cert × Unit) => sizeC x.1) [(.agg [(.int .i64 2), (.sl 1 false [(.int .i64 1)]), (.int .i64 0), (.sl 0 true []), (.sl 5 false [(.agg [(.int .i64 2), (.sl 1 false [(.int .i64 (-1)), (.int .i64 0)]), (.int .i64 0), (.sl 0 true []), (.sl 5 false [enc y2])])])])]) = AV.pv (enc y7) ∧ (if (y7 == 3) = true then if (y3.2 == 0) = true then (Go.Pl.preT (fun (x : Lin × Unit) => decide (x.1 = exL)) [(.agg [(.int .i64 y3.1.k), (.sl 2 false (List.map enc y3.1.t))])]) = true ∧ (∃ y8 : Str, AV.pv (valT (fun (x : Lin × Unit) => print1) [(.agg [(.int .i64 y3.1.k), (.sl 2 false (List.map enc y3.1.t))])]) = AV.pv (enc y8) ∧ (if (Str.s y8 == [(110 : UInt8), (45 : UInt8), (49 : UInt8)]) = true then (Go.Pl.preT (fun (x : List Fact × Unit) => factsSm x.1) [(.sl 3 false [(.agg [(.bool true), (.int .i64 y1.k), (.sl 2 false (List.map enc y1.t))])])]) = true ∧ (∃ y9 : Bool, AV.pv (valT (fun (x : List Fact × Unit) => valid7 x.1) [(.sl 3 false [(.agg [(.bool true), (.int .i64 y1.k), (.sl 2 false (List.map enc y1.t))])])]) = AV.pv (enc y9) ∧ (G ((.bool y9)))) else (G ((.bool false))))) else (G ((.bool false))) else (G ((.bool false))))) else (G ((.bool false)))))) else (G ((.bool false))))))))))))) : Gets T_awake7 0 (endP' rs_awake7 G) ic_awake7 [] (st0 52 []) := Gets.tp (.lit (.abs (Lin) (fun YY => AV.pv (enc YY)) (.req (.abs (Lin) (fun YY => AV.pv (enc YY)) (.lit (.lit (.lit (.lit (.lit (.lit (.abs (Cert) (fun YY => AV.pv (enc YY)) (.req (.lit (.lit (.lit (.lit (.lit (.lit (.req (.abs (Lin × Int) (fun YY => AV.pv (enc YY)) (.lit (.lit (.lit (.req (.abs (Int) (fun YY => AV.pv (enc YY)) (.lit (.ask (.lit (.lit (.lit (.lit (.lit (.abs (Cert) (fun YY => AV.pv (enc YY)) (.lit (.lit (.req (.abs (Int) (fun YY => AV.pv (enc YY)) (.lit (.lit (.lit (.ask (.lit (.lit (.lit (.req (.abs (Int) (fun YY => AV.pv (enc YY)) (.lit (.lit (.lit (.ask (.lit (.lit (.lit (.ask (.lit (.req (.abs (Str) (fun YY => AV.pv (enc YY)) (.lit (.lit (.lit (.ask (.lit (.lit (.req (.abs (Bool) (fun YY => AV.pv (enc YY)) (.lit (.nil)))))) (.lit (.lit (.nil)))))))))) (.lit (.lit (.lit (.lit (.lit (.lit (.nil))))))))))) (.lit (.lit (.lit (.lit (.lit (.lit (.lit (.lit (.lit (.nil))))))))))))))))))) (.lit (.lit (.lit (.lit (.lit (.lit (.lit (.lit (.lit (.lit (.lit (.lit (.lit (.nil)))))))))))))))))))))))))))) (.lit (.lit (.lit (.lit (.lit (.lit (.lit (.lit (.lit (.lit (.lit (.lit (.lit (.lit (.lit (.lit (.lit (.lit (.lit (.nil))))))))))))))))))))))))))))))))))))))))))))))) h (by kernel_rfl)
end Go.Pl

