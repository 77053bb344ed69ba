/-
  Texts of mine that belong together (packed by pack.py), for every input: TyL, TyM, TyN, TyT, TyO, TyS, GLb, GLa, QLa, QLb, GLc, QLc, GLd, QLd, TyU, QLh, QLm, GLe, QLe, GLg, QLg, QLf, GLi, GL1, QL1, QL2, QLi, QLj, QL3, QL4, GL5, QL5, GL7, QL7, TyR, GLr, QRp, QRq, TyP, GLo, QLq, QLr, GLm, GLk, QLk, GLn, QLn, QLo, QLp, QRa, QRb, QRc, TyQ, GLu, GLt, QRs, QRt, QRu, QRv, GLv, QRw, QRx, TyG, TyH, TyK, TyI, TyE, GLh, GLx, QLx.
-/
import Derived.Test.YtjfgiaooglnomaaGreatDoorKV42
import Derived.KernelRfl
import Derived.Lib.AtoiAllMem
import Derived.Lib.AtoiAllCases
import Derived.Lib.ItoaNum
import Derived.Lib.Bytealg
import Derived.Lib.Strings
set_option linter.unusedVariables false
set_option linter.unusedSimpArgs false
namespace Go.Pl
open Go.RowKit
open Enc (enc dec is)
open EncL (encL decL isL)
structure Coef where
 v : Str
 c : Int
 deriving DecidableEq
instance : Enc Coef where
 sz := 2
 enc x := .agg [enc x.v, enc x.c]
 dec | .agg [a, b] => ⟨dec a, dec b⟩ | _ => ⟨⟨[]⟩, 0⟩
 is | .agg [a, b] => is Str a && is Int b | _ => false
 is_enc v := by simp
 dec_enc v := by simp
 sub p h := by
  cases p with
  | agg xs =>
   match xs, h with
   | [a, b], h =>
    simp only [Bool.and_eq_true] at h
    exact .agg (.cons (Enc.sub a h.1).2 (.cons (Enc.sub b h.2).2 .nil))
  | _ => cases h
structure Lin where
 k : Int
 t : List Coef
 deriving DecidableEq
instance : Enc Lin where
 sz := 2
 enc x := .agg [enc x.k, enc x.t]
 dec | .agg [a, b] => ⟨dec a, dec b⟩ | _ => ⟨0, []⟩
 is | .agg [a, b] => is Int a && is (List Coef) b | _ => false
 is_enc v := by simp
 dec_enc v := by simp
 sub p h := by
  cases p with
  | agg xs =>
   match xs, h with
   | [a, b], h =>
    simp only [Bool.and_eq_true] at h
    exact .agg (.cons (Enc.sub a h.1).2 (.cons (Enc.sub b h.2).2 .nil))
  | _ => cases h
@[simp] theorem is_coef (a b : PV) : is Coef (.agg [a, b]) = (is Str a && is Int b) := rfl
@[simp] theorem dec_coef (a b : PV) : (dec (.agg [a, b]) : Coef) = ⟨dec a, dec b⟩ := rfl
@[simp] theorem is_lin (a b : PV) : is Lin (.agg [a, b]) = (is Int a && is (List Coef) b) := rfl
@[simp] theorem dec_lin (a b : PV) : (dec (.agg [a, b]) : Lin) = ⟨dec a, dec b⟩ := rfl
def digB (c : UInt8) : Bool := decide (48 <= c) && decide (c <= 57)
def lowB (c : UInt8) : Bool := decide (97 <= c) && decide (c <= 122)
def nameB (s : Str) : Bool := match s.s with
 | [] => false
 | c :: r => if c = 95 then r.all digB && !r.isEmpty && decide (r.head? ≠ some 48) && decide (r.length <= 9) else lowB c && r.all (fun c => lowB c || digB c) && decide (r.length <= 29)
def coefIn (n : Int) : Bool := decide (-1000000 <= n) && decide (n <= 1000000)
def ascB : List Coef -> Bool
 | a :: b :: l => decide (a.v.s < b.v.s) && ascB (b :: l)
 | _ => true
def validL (l : Lin) : Bool := l.t.all (fun t => nameB t.v && decide (t.c ≠ 0) && coefIn t.c) && ascB l.t && coefIn l.k && decide (l.t.length <= 12)
def mapP (m : List (Str × Int)) : List (PV × PV) := m.map fun p => (.str p.1.s, .int .i64 p.2)
def atM (m : List (Str × Int)) (s : List UInt8) : Int := ((m.find? fun p => p.1.s == s).map (·.2)).getD 0
def termsM (m : List (Str × Int)) : List Coef := (sortS ((m.filter fun p => decide (p.2 ≠ 0)).map (·.1.s))).map fun s => ⟨⟨s⟩, atM m s⟩
def resM (n : Int) (m : List (Str × Int)) : Lin × Int := if validL ⟨n, termsM m⟩ then (⟨n, termsM m⟩, 0) else (⟨0, []⟩, 3)
end Go.Pl

namespace Go.Pl
open Go.RowKit
open Enc (enc dec is)
open EncL (encL decL isL)
structure Fact where
 eq : Bool
 l : Lin
 deriving DecidableEq
instance : Enc Fact where
 sz := 3
 enc x := .agg [enc x.eq, enc x.l.k, enc x.l.t]
 dec | .agg [a, b, c] => ⟨dec a, ⟨dec b, dec c⟩⟩ | _ => ⟨false, ⟨0, []⟩⟩
 is | .agg [a, b, c] => is Bool a && is Int b && is (List Coef) c | _ => false
 is_enc v := by simp
 dec_enc v := by simp
 sub p h := by
  cases p with
  | agg xs =>
   match xs, h with
   | [a, b, c], h =>
    simp only [Bool.and_eq_true] at h
    exact .agg (.cons (Enc.sub a h.1.1).2 (.cons (Enc.sub b h.1.2).2 (.cons (Enc.sub c h.2).2 .nil)))
  | _ => cases h
@[simp] theorem is_fact (a b c : PV) : is Fact (.agg [a, b, c]) = (is Bool a && is Int b && is (List Coef) c) := rfl
@[simp] theorem dec_fact (a b c : PV) : (dec (.agg [a, b, c]) : Fact) = ⟨dec a, ⟨dec b, dec c⟩⟩ := rfl
structure Bnd where
 kind : Int
 v : Str
 dim : Lin
 row : Str
 dims : List Lin
 elem : Str
 deriving DecidableEq
instance : Enc Bnd where
 sz := 7
 enc x := .agg [enc x.kind, enc x.v, enc x.dim.k, enc x.dim.t, enc x.row, enc x.dims, enc x.elem]
 dec | .agg [a, b, c, d, e, f, g] => ⟨dec a, dec b, ⟨dec c, dec d⟩, dec e, dec f, dec g⟩ | _ => ⟨0, ⟨[]⟩, ⟨0, []⟩, ⟨[]⟩, [], ⟨[]⟩⟩
 is | .agg [a, b, c, d, e, f, g] => is Int a && is Str b && is Int c && is (List Coef) d && is Str e && is (List Lin) f && is Str g | _ => false
 is_enc v := by simp
 dec_enc v := by simp
 sub p h := by
  cases p with
  | agg xs =>
   match xs, h with
   | [a, b, c, d, e, f, g], h =>
    simp only [Bool.and_eq_true] at h
    exact .agg (.cons (Enc.sub a h.1.1.1.1.1.1).2 (.cons (Enc.sub b h.1.1.1.1.1.2).2 (.cons (Enc.sub c h.1.1.1.1.2).2 (.cons (Enc.sub d h.1.1.1.2).2 (.cons (Enc.sub e h.1.1.2).2 (.cons (Enc.sub f h.1.2).2 (.cons (Enc.sub g h.2).2 .nil)))))))
  | _ => cases h
@[simp] theorem is_bnd (a b c d e f g : PV) : is Bnd (.agg [a, b, c, d, e, f, g]) = (is Int a && is Str b && is Int c && is (List Coef) d && is Str e && is (List Lin) f && is Str g) := rfl
@[simp] theorem dec_bnd (a b c d e f g : PV) : (dec (.agg [a, b, c, d, e, f, g]) : Bnd) = ⟨dec a, dec b, ⟨dec c, dec d⟩, dec e, dec f, dec g⟩ := rfl
inductive Cert where
 | mk (kind : Int) (mults : List Int) (lin : Lin) (kids : List Cert)
mutual
def certP : Cert -> PV
 | .mk k m l ks => .agg [enc k, enc m, enc l.k, enc l.t, .sl 5 false (certsP ks)]
def certsP : List Cert -> List PV
 | [] => []
 | c :: cs => certP c :: certsP cs
end
mutual
def certD : PV -> Cert
 | .agg [a, b, c, d, .sl _ _ ks] => .mk (dec a) (dec b) ⟨dec c, dec d⟩ (certsD ks)
 | _ => .mk 0 [] ⟨0, []⟩ []
def certsD : List PV -> List Cert
 | [] => []
 | p :: ps => certD p :: certsD ps
end
mutual
def certI : PV -> Bool
 | .agg [a, b, c, d, .sl s _ ks] => is Int a && is (List Int) b && is Int c && is (List Coef) d && (ks.isEmpty || s == 5) && certsI ks
 | _ => false
def certsI : List PV -> Bool
 | [] => true
 | p :: ps => certI p && certsI ps
end
theorem certsP_map (cs : List Cert) : certsP cs = cs.map certP := by
 induction cs with
 | nil => simp [certsP]
 | cons c cs ih => simp [certsP, ih]
theorem certsD_map (cs : List PV) : certsD cs = cs.map certD := by
 induction cs with
 | nil => simp [certsD]
 | cons c cs ih => simp [certsD, ih]
theorem certsI_all (cs : List PV) : certsI cs = cs.all certI := by
 induction cs with
 | nil => simp [certsI]
 | cons c cs ih => simp [certsI, ih]
mutual
theorem certI_P : ∀ c : Cert, certI (certP c) = true
 | .mk k m l ks => by
  have h := certsI_P ks
  simp only [certP, certI, Enc.is_enc, Bool.true_and, Bool.and_eq_true, h, and_true]
  simp
theorem certsI_P : ∀ cs : List Cert, certsI (certsP cs) = true
 | [] => by simp [certsP, certsI]
 | c :: cs => by simp [certsP, certsI, certI_P c, certsI_P cs]
end
mutual
theorem certD_P : ∀ c : Cert, certD (certP c) = c
 | .mk k m l ks => by
  have h := certsD_P ks
  simp only [certP, certD, Enc.dec_enc, h]
theorem certsD_P : ∀ cs : List Cert, certsD (certsP cs) = cs
 | [] => by simp [certsP, certsD]
 | c :: cs => by simp [certsP, certsD, certD_P c, certsD_P cs]
end
mutual
theorem cert_sub : ∀ p : PV, certI p = true -> SubC p (certP (certD p))
 | .agg [a, b, c, d, .sl s t ks], h => by
  simp only [certI, Bool.and_eq_true] at h
  obtain ⟨⟨⟨⟨⟨h1, h2⟩, h3⟩, h4⟩, h5⟩, h6⟩ := h
  have hk := certs_sub ks h6
  simp only [certD, certP]
  refine .agg (.cons (Enc.sub a h1).2 (.cons (Enc.sub b h2).2 (.cons (Enc.sub c h3).2 (.cons (Enc.sub d h4).2 (.cons ?_ .nil)))))
  simp only [Bool.or_eq_true, List.isEmpty_iff, beq_iff_eq] at h5
  rcases h5 with rfl | rfl
  ·simp only [certsD, certsP]
   exact (SubC.sl0 _ _ _).2
  ·exact (SubC.sl hk.1 hk.2).2
 | .bool _, h | .int _ _, h | .str _, h | .sl _ _ _, h | .tup _, h | .nilp, h | .nilmap, h | .nilfn, h | .nili, h | .ifc, h | .fn _, h | .rptr _, h => by simp [certI] at h
 | .agg [], h | .agg [_], h | .agg [_, _], h | .agg [_, _, _], h | .agg [_, _, _, _], h => by simp [certI] at h
 | .agg (a :: b :: c :: d :: e :: f :: g), h => by
  have h' : certI (.agg (a :: b :: c :: d :: e :: f :: g)) = false := by cases e <;> kernel_rfl
  rw [h'] at h; cases h
 | .agg [_, _, _, _, .bool _], h | .agg [_, _, _, _, .int _ _], h | .agg [_, _, _, _, .str _], h | .agg [_, _, _, _, .agg _], h | .agg [_, _, _, _, .tup _], h | .agg [_, _, _, _, .nilp], h | .agg [_, _, _, _, .nilmap], h | .agg [_, _, _, _, .nilfn], h | .agg [_, _, _, _, .nili], h | .agg [_, _, _, _, .ifc], h | .agg [_, _, _, _, .fn _], h | .agg [_, _, _, _, .rptr _], h => by simp [certI] at h
theorem certs_sub : ∀ ps : List PV, certsI ps = true -> ps.length = (certsP (certsD ps)).length ∧ ∀ (j : Nat) x y, ps[j]? = some x -> (certsP (certsD ps))[j]? = some y -> SubC x y
 | [], _ => ⟨by simp [certsD, certsP], fun j x y h => by simp at h⟩
 | p :: ps, h => by
  simp only [certsI, Bool.and_eq_true] at h
  have h1 := cert_sub p h.1
  have h2 := certs_sub ps h.2
  refine ⟨by simp [certsD, certsP, <- h2.1], fun j x y hx hy => ?_⟩
  simp only [certsD, certsP] at hy
  cases j with
  | zero => simp at hx hy; subst hx hy; exact h1
  | succ j => exact h2.2 j x y (by simpa using hx) (by simpa using hy)
end
instance : Enc Cert where
 sz := 5
 enc := certP
 dec := certD
 is := certI
 is_enc := certI_P
 dec_enc := certD_P
 sub := cert_sub
abbrev Cert.kind : Cert -> Int | .mk k _ _ _ => k
abbrev Cert.mults : Cert -> List Int | .mk _ m _ _ => m
abbrev Cert.lin : Cert -> Lin | .mk _ _ l _ => l
abbrev Cert.kids : Cert -> List Cert | .mk _ _ _ k => k
theorem enc_cert (k : Int) (m : List Int) (l : Lin) (ks : List Cert) : (enc (Cert.mk k m l ks) : PV) = .agg [enc k, enc m, enc l.k, enc l.t, enc ks] := by
 show certP _ = _
 rw [certP, certsP_map]
 rfl
@[simp] theorem is_cert (a b c d e : PV) : is Cert (.agg [a, b, c, d, e]) = (is Int a && is (List Int) b && is Int c && is (List Coef) d && is (List Cert) e) := by
 show certI _ = _
 cases e <;> simp only [certI] <;> try (simp [is]; done)
 rename_i s t ks
 rw [certsI_all]
 show _ = (_ && ((ks.isEmpty || s == 5) && ks.all certI))
 rw [Bool.and_assoc]
@[simp] theorem dec_cert (a b c d e : PV) (h : is (List Cert) e = true) : (dec (.agg [a, b, c, d, e]) : Cert) = .mk (dec a) (dec b) ⟨dec c, dec d⟩ (dec e) := by
 show certD _ = _
 cases e <;> try (cases h; done)
 rw [certD, certsD_map]
 rfl
end Go.Pl

namespace Go.Pl
open Enc (enc dec is)
structure Er where
 b : Bool
 deriving DecidableEq
instance : Enc Er where
 sz := 1
 enc x := if x.b then .ifc else .nili
 dec | .ifc => ⟨true⟩ | _ => ⟨false⟩
 is | .ifc => true | .nili => true | _ => false
 is_enc v := by obtain ⟨b⟩ := v; cases b <;> rfl
 dec_enc v := by obtain ⟨b⟩ := v; cases b <;> rfl
 sub p h := by cases p <;> first | exact .refl _ | cases h
def atoiE (s : Str) : Int × Er := match Lib.atoiAll s.s with
 | .ok v => (v, ⟨false⟩)
 | .range => (Lib.atoiSat s.s, ⟨true⟩)
 | _ => (0, ⟨true⟩)
def itoaS (n : Int) : Str := ⟨Lib.itoa n⟩
def few4 (l : Lin) (n : Int) : Bool := l.t.all (fun t => decide (t.v.s.length <= 40)) && decide ((l.t.length : Int) <= n)
abbrev w64 (n : Int) : Int := IntKind.i64.wrap n
def insT (s : Str) (c : Int) : Bool -> List Coef -> List Coef
 | put, [] => if put then [] else [⟨s, c⟩]
 | put, t :: r => (if !put && decide (s.s < t.v.s) then [⟨s, c⟩] else []) ++ (if t.v = s then ⟨t.v, w64 (t.c + c)⟩ :: insT s c true r else t :: insT s c (put || decide (s.s < t.v.s)) r)
def plusL (l : Lin) (s : Str) (c : Int) : Lin := ⟨l.k, (insT s c false l.t).filter fun t => decide (t.c ≠ 0)⟩
def timesL (l x : Lin) (k : Int) : Lin := x.t.foldl (fun o t => plusL o t.v (w64 (k * t.c))) ⟨w64 (l.k + w64 (k * x.k)), l.t⟩
def lookV (v : List Coef) (s : Str) : Option Int := (v.find? fun t => decide (t.v = s)).map (·.c)
def evalT (v : List Coef) : Int -> List Coef -> Int × Int
 | n, [] => (n, 0)
 | n, t :: r => match lookV v t.v with
  | none => (0, 7)
  | some x => if x < -1000000000 then (0, 2) else if x > 1000000000 then (0, 2) else evalT v (w64 (n + w64 (t.c * x))) r
def evalL (l : Lin) (v : List Coef) : Int × Int := if validL l then evalT v l.k l.t else (0, 1)
def cmpK (a b : Int) : Int := if a < b then -1 else if a > b then 1 else 0
mutual
def sizeC : Cert -> Int
 | .mk _ _ _ ks => sizeCs 1 ks
def sizeCs (n : Int) : List Cert -> Int
 | [] => n
 | c :: cs => sizeCs (w64 (n + sizeC c)) cs
end
def linOk (l : Lin) : Bool := decide (l.t.length <= 9223372036854775807)
def linSm (l : Lin) : Bool := linOk l && l.t.all fun t => decide (t.v.s.length <= 1000000)
mutual
def cOk : Cert -> Bool
 | .mk _ m l ks => decide (m.length <= 9223372036854775807) && linOk l && decide (ks.length <= 9223372036854775807) && cOks ks
def cOks : List Cert -> Bool
 | [] => true
 | c :: cs => cOk c && cOks cs
end
mutual
def depC : Cert -> Nat
 | .mk _ _ _ ks => depCs ks + 1
def depCs : List Cert -> Nat
 | [] => 0
 | c :: cs => max (depC c) (depCs cs)
end
end Go.Pl

namespace Go.Pl
open Go.RowKit
open Enc (enc dec is)
open EncL (encL decL isL)
theorem el_ex {α : Type} [Enc α] {l : List α} {i : Nat} (h : i < l.length) {P : α -> Prop} (k : P l[i]) :
  ∃ y : α, AV.pv (PV.rptr (PV.cells (List.getD (List.map enc l) (Int.toNat (i : Int)) default))) = AV.pv (PV.rptr (PV.cells (enc y))) ∧ P y := ⟨l[i], by rw [getD_map enc h], k⟩
theorem idx_ok {α : Type} [Enc α] {l : List α} {i n : Nat} (h : i < l.length) (hn : Enc.sz α = n) : (decide (0 <= (i : Int)) && decide (Int.toNat (i : Int) < List.length (List.map (enc : α -> PV) l)) && Enc.sz α == n) = true := by simp [hn, h]
theorem lt_ok {α : Type} [Enc α] {l : List α} {i : Nat} (h : i < l.length) : decide ((i : Int) < (List.length (List.map (enc : α -> PV) l) : Int)) = true := by simp; omega
theorem lt_no {α : Type} [Enc α] {l : List α} {i : Nat} (h : ¬ i < l.length) : ¬ decide ((i : Int) < (List.length (List.map (enc : α -> PV) l) : Int)) = true := by simp; omega
theorem lt_ok' {n i : Nat} (h : i < n) : decide ((i : Int) < (n : Int)) = true := by simp; omega
theorem lt_no' {n i : Nat} (h : ¬ i < n) : ¬ decide ((i : Int) < (n : Int)) = true := by simp; omega
theorem if_nf {P Q : Prop} : (if (!false) = true then P else Q) = P := rfl
theorem if_nt {P Q : Prop} : (if (!true) = true then P else Q) = Q := rfl
theorem iteT {c : Prop} [Decidable c] {P Q : Prop} (h : c) (k : P) : if c then P else Q := by rw [if_pos h]; exact k
theorem iteF {c : Prop} [Decidable c] {P Q : Prop} (h : ¬ c) (k : Q) : if c then P else Q := by rw [if_neg h]; exact k
theorem iteC {c : Prop} [Decidable c] {P Q : Prop} (h1 : c -> P) (h2 : ¬ c -> Q) : if c then P else Q := by split; exact h1 ‹_›; exact h2 ‹_›
theorem iteN {b : Bool} {P Q : Prop} (h1 : b = false -> P) (h2 : b = true -> Q) : if (!b) = true then P else Q := by cases b; exact h1 rfl; exact h2 rfl
theorem iteB {b : Bool} {P Q : Prop} (h1 : b = true -> P) (h2 : b = false -> Q) : if b = true then P else Q := by cases b; exact h2 rfl; exact h1 rfl
theorem iteD {c : Prop} [Decidable c] {P Q : Prop} (h1 : c -> P) (h2 : ¬ c -> Q) : if decide c = true then P else Q := by by_cases h : c; rw [if_pos (by simpa using h)]; exact h1 h; rw [if_neg (by simpa using h)]; exact h2 h
theorem iteE {α : Type} [BEq α] [LawfulBEq α] {x y : α} {P Q : Prop} (h1 : x = y -> P) (h2 : x ≠ y -> Q) : if (x == y) = true then P else Q := by by_cases h : x = y; rw [if_pos (by simpa using h)]; exact h1 h; rw [if_neg (by simpa using h)]; exact h2 h
theorem fits_of {β : Type} [Enc β] {x y : β} (h : x = y) : Fits y (enc x) := ⟨Enc.is_enc x, by rw [Enc.dec_enc, h]⟩
theorem fitB {x y : Bool} (h : x = y) : Fits y (.bool x) := ⟨rfl, h⟩
theorem fitI {x y : Int} (h : x = y) : Fits y (.int .i64 x) := ⟨rfl, h⟩
section
variable (x : Coef) (f : Fact)
theorem co1 : PV.asStr (List.getD (PV.cells (enc x)) 0 default) = x.v.s := rfl
theorem co2 : PV.asInt (List.getD (PV.cells (enc x)) (0 + 1) default) = x.c := rfl
theorem co3 : PV.asStr (List.getD (List.drop 0 (PV.cells (enc x))) 0 default) = x.v.s := rfl
theorem co4 : PV.asInt (List.getD (List.drop 1 (PV.cells (enc x))) 0 default) = x.c := rfl
end
theorem u8_no {c : UInt8} (n : Nat) (h : c ≠ UInt8.ofNat n) (hn : n < 256) : ¬ ((c.toNat : Int) == (n : Int)) = true := by
 intro e
 have e : (c.toNat : Int) = n := by simpa using e
 have e : c.toNat = n := by omega
 exact h (UInt8.toNat_inj.1 (by rw [e, UInt8.toNat_ofNat']; omega))
theorem bytesLess_eq : ∀ a b : List UInt8, Op.bytesLess a b = decide (a < b)
 | [], [] => by simp [Op.bytesLess]
 | _ :: _, [] => by simp [Op.bytesLess]
 | [], _ :: _ => by simp [Op.bytesLess]
 | x :: a, y :: b => by
  rw [Op.bytesLess, bytesLess_eq a b]
  simp only [List.cons_lt_cons_iff]
  by_cases h1 : x < y
  ·simp [h1]
  ·by_cases h2 : x = y
   ·subst h2; simp
   ·simp [h1, h2]
theorem Does.fuel {P : Program} {f : Nat} {α β : Type} [EncL α] [Enc β] {pre : α -> Bool} {F : α -> β} (μ : α -> Nat) (h : ∀ N, Does P f (fun a => pre a && decide (μ a < N)) F) : Does P f pre F := fun ps hps => by
 refine h (μ (decL ps) + 1) ps ?_
 simp only [preT, Bool.and_eq_true, decide_eq_true_eq] at hps ⊢
 exact ⟨hps.1, hps.2, by omega⟩
theorem Does.or {P : Program} {f : Nat} {α β : Type} [EncL α] [Enc β] {pre : α -> Bool} {F : α -> β} (c : α -> Bool) (h1 : Does P f (fun a => pre a && c a) F) (h2 : Does P f (fun a => pre a && !c a) F) : Does P f pre F := fun ps hps => by
 have hps' := hps
 simp only [preT, Bool.and_eq_true] at hps'
 cases hc : c (decL ps)
 ·exact h2 ps (by simp only [preT, hps'.1, hps'.2, hc]; rfl)
 ·exact h1 ps (by simp only [preT, hps'.1, hps'.2, hc]; rfl)
mutual
def pvB : PV -> PV -> Bool
 | .bool a, .bool b => a == b
 | .int k a, .int l b => kindEq k l && a == b
 | .str a, .str b => a == b
 | .sl s t xs, .sl s' t' ys => s == s' && t == t' && pvBs xs ys
 | .agg xs, .agg ys => pvBs xs ys
 | .tup xs, .tup ys => pvBs xs ys
 | .nilp, .nilp => true
 | .nilmap, .nilmap => true
 | .nilfn, .nilfn => true
 | .nili, .nili => true
 | .ifc, .ifc => true
 | .fn a, .fn b => a == b
 | .rptr xs, .rptr ys => pvBs xs ys
 | _, _ => false
def pvBs : List PV -> List PV -> Bool
 | [], [] => true
 | x :: xs, y :: ys => pvB x y && pvBs xs ys
 | _, _ => false
end
theorem kindEq_refl (k : IntKind) : kindEq k k = true := by cases k <;> rfl
mutual
theorem pvB_eq : ∀ (p q : PV), pvB p q = true -> p = q
 | .bool a, q, h => by cases q <;> simp [pvB] at h; rw [h]
 | .int k a, q, h => by cases q <;> simp [pvB] at h; rw [kindEq_ok h.1, h.2]
 | .str a, q, h => by cases q <;> simp [pvB] at h; rw [h]
 | .sl s t xs, q, h => by cases q <;> simp [pvB] at h; rw [h.1.1, h.1.2, pvBs_eq xs _ h.2]
 | .agg xs, q, h => by cases q <;> simp [pvB] at h; rw [pvBs_eq xs _ h]
 | .tup xs, q, h => by cases q <;> simp [pvB] at h; rw [pvBs_eq xs _ h]
 | .nilp, q, h => by cases q <;> simp [pvB] at h; rfl
 | .nilmap, q, h => by cases q <;> simp [pvB] at h; rfl
 | .nilfn, q, h => by cases q <;> simp [pvB] at h; rfl
 | .nili, q, h => by cases q <;> simp [pvB] at h; rfl
 | .ifc, q, h => by cases q <;> simp [pvB] at h; rfl
 | .fn a, q, h => by cases q <;> simp [pvB] at h; rw [h]
 | .rptr xs, q, h => by cases q <;> simp [pvB] at h; rw [pvBs_eq xs _ h]
theorem pvBs_eq : ∀ (xs ys : List PV), pvBs xs ys = true -> xs = ys
 | [], ys, h => by cases ys <;> simp [pvBs] at h; rfl
 | x :: xs, ys, h => by
  cases ys with
  | nil => simp [pvBs] at h
  | cons y ys => simp [pvBs] at h; rw [pvB_eq x y h.1, pvBs_eq xs ys h.2]
end
mutual
theorem pvB_refl : ∀ (p : PV), pvB p p = true
 | .bool a | .str a | .fn a => by simp [pvB]
 | .int k a => by simp [pvB, kindEq_refl]
 | .sl s t xs => by simp [pvB, pvBs_refl xs]
 | .agg xs | .tup xs | .rptr xs => by simp [pvB, pvBs_refl xs]
 | .nilp | .nilmap | .nilfn | .nili | .ifc => by simp [pvB]
theorem pvBs_refl : ∀ (xs : List PV), pvBs xs xs = true
 | [] => by simp [pvBs]
 | x :: xs => by simp [pvBs, pvB_refl x, pvBs_refl xs]
end
def can (α : Type) [Enc α] (p : PV) : Bool := pvB p (enc (dec p : α))
@[simp] theorem can_enc {α : Type} [Enc α] (a : α) : can α (enc a) = true := by unfold can; rw [Enc.dec_enc]; exact pvB_refl _
theorem can_eq {α : Type} [Enc α] {p : PV} (h : can α p = true) : ∃ a : α, p = enc a := ⟨_, pvB_eq _ _ h⟩
end Go.Pl

namespace Go.Pl
open Enc (enc dec is)
@[irreducible] def valD (a : Nat) (r : List UInt8) : Nat := r.foldl (fun a c => a * 10 + (c.toNat - 48)) a
theorem valD_nil (a : Nat) : valD a [] = a := by unfold valD; rfl
theorem valD_cons (a : Nat) (c : UInt8) (r : List UInt8) : valD a (c :: r) = valD (a * 10 + (c.toNat - 48)) r := by unfold valD; rfl
theorem digB_iff {c : UInt8} : digB c = true ↔ 48 <= c.toNat ∧ c.toNat <= 57 := by
 simp only [digB, Bool.and_eq_true, decide_eq_true_eq, UInt8.le_iff_toNat_le]
 have e1 : (48 : UInt8).toNat = 48 := rfl
 have e2 : (57 : UInt8).toNat = 57 := rfl
 rw [e1, e2]
theorem valD_lt : ∀ (r : List UInt8) (a : Nat), r.all digB = true -> valD a r < (a + 1) * 10 ^ r.length
 | [], a, _ => by simp [valD_nil]
 | c :: r, a, h => by
  simp only [List.all_cons, Bool.and_eq_true, digB_iff] at h
  have := valD_lt r (a * 10 + (c.toNat - 48)) h.2
  rw [valD_cons, List.length_cons, Nat.pow_succ]
  refine Nat.lt_of_lt_of_le this ?_
  rw [Nat.mul_comm (10 ^ r.length) 10, <- Nat.mul_assoc]
  exact Nat.mul_le_mul_right _ (by omega)
theorem valD_ge : ∀ (r : List UInt8) (a : Nat), a <= valD a r
 | [], a => by rw [valD_nil]; exact Nat.le_refl _
 | c :: r, a => by
  have := valD_ge r (a * 10 + (c.toNat - 48))
  rw [valD_cons]
  omega
theorem parse_val : ∀ (r : List UInt8) (a : Nat), r.all digB = true -> valD a r < 1000000000000000000 -> Lib.parseUint10 a r = .ok (valD a r)
 | [], a, _, _ => by rw [valD_nil, Lib.parseUint10]
 | c :: r, a, h, hv => by
  simp only [List.all_cons, Bool.and_eq_true, digB_iff] at h
  rw [valD_cons] at hv ⊢
  have hge := valD_ge r (a * 10 + (c.toNat - 48))
  rw [Lib.parseUint10, if_pos h.1, if_neg (by omega), if_neg (by omega)]
  exact parse_val r _ h.2 hv
theorem dig_step {a d : Nat} (ha : 1 <= a) (hd : d <= 9) : Lib.decDigits (a * 10 + d) = Lib.decDigits a ++ [UInt8.ofNat (48 + d)] := by
 rw [Lib.decDigits, dif_neg (by omega), show (a * 10 + d) / 10 = a by omega, show (a * 10 + d) % 10 = d by omega]
theorem dig_val : ∀ (r : List UInt8) (a : Nat), 1 <= a -> r.all digB = true -> Lib.decDigits (valD a r) = Lib.decDigits a ++ r
 | [], a, _, _ => by simp [valD_nil]
 | c :: r, a, ha, h => by
  simp only [List.all_cons, Bool.and_eq_true, digB_iff] at h
  rw [valD_cons, dig_val r _ (by omega) h.2, dig_step ha (by omega)]
  have : UInt8.ofNat (48 + (c.toNat - 48)) = c := by
   rw [show 48 + (c.toNat - 48) = c.toNat by omega]
   exact UInt8.ofNat_toNat
  rw [this]
  simp
theorem u8_of {n : Nat} (h : n < 256) : (UInt8.ofNat n).toNat = n := by rw [UInt8.toNat_ofNat']; omega
theorem dec_digits : ∀ (u : Nat), 1 <= u -> (Lib.decDigits u).all digB = true ∧ (Lib.decDigits u).head? ≠ some 48 ∧ Lib.decDigits u ≠ [] := by
 intro u
 induction u using Nat.strongRecOn with
 | _ u ih =>
  intro h1
  rw [Lib.decDigits]
  by_cases h : u < 10
  ·rw [dif_pos h]
   refine ⟨?_, ?_, by simp⟩
   ·simp only [List.all_cons, List.all_nil, Bool.and_true]
    rw [digB_iff, u8_of (by omega)]
    omega
   ·simp only [List.head?_cons, ne_eq, Option.some.injEq]
    intro e
    have := congrArg UInt8.toNat e
    rw [u8_of (by omega)] at this
    have e48 : (48 : UInt8).toNat = 48 := rfl
    rw [e48] at this
    omega
  ·rw [dif_neg h]
   obtain ⟨i1, i2, i3⟩ := ih (u / 10) (by omega) (by omega)
   refine ⟨?_, ?_, by simp⟩
   ·rw [List.all_append, i1]
    simp only [List.all_cons, List.all_nil, Bool.and_true, Bool.true_and]
    rw [digB_iff, u8_of (by omega)]
    omega
   ·cases hd : Lib.decDigits (u / 10) with
    | nil => exact absurd hd i3
    | cons c r => rw [hd] at i2; simpa using i2
def numB (r : List UInt8) : Bool := r.all digB && !r.isEmpty && decide (r.head? ≠ some 48)
theorem nil_ok (b : Bool) : isNilI (enc (⟨b⟩ : Er)) = !b := by cases b <;> rfl
theorem if_ok (e : Er) : isIfP (enc e) = true := by obtain ⟨b⟩ := e; cases b <;> rfl
theorem numeral (r : List UInt8) (hr : r.length <= 9) : (isNilI (enc (atoiE ⟨r⟩).2) && decide ((atoiE ⟨r⟩).1 > 0) && (Lib.itoa (atoiE ⟨r⟩).1 == r)) = numB r := by
 by_cases hn : numB r = true
 ·rw [hn]
  simp only [numB, Bool.and_eq_true, Bool.not_eq_true', decide_eq_true_eq] at hn
  obtain ⟨⟨h1, h2⟩, h3⟩ := hn
  cases r with
  | nil => simp at h2
  | cons c r =>
   have h1' := h1
   simp only [List.all_cons, Bool.and_eq_true, digB_iff] at h1
   have hc : c ≠ 48 := by simpa using h3
   have hc' : c.toNat ≠ 48 := fun e => hc (UInt8.toNat_inj.1 (by rw [e]; rfl))
   have hv := valD_lt (c :: r) 0 h1'
   have hp : 10 ^ (c :: r).length <= 10 ^ 9 := Nat.pow_le_pow_right (by omega) hr
   have hpm := parse_val (c :: r) 0 h1' (by omega)
   have hat : Lib.atoiAll (c :: r) = .ok (valD 0 (c :: r) : Int) := by
    have e1 : ¬ (c.toNat = 43 ∨ c.toNat = 45) := by omega
    have e2 : ¬ c.toNat = 45 := by omega
    simp only [Lib.atoiAll, if_neg e1, Lib.parseMag, if_neg (show ¬ (c :: r = []) by simp), hpm]
    rw [if_neg (by omega), if_neg (fun e => e2 e.1), if_neg e2]
   have ha : atoiE ⟨c :: r⟩ = ((valD 0 (c :: r) : Int), ⟨false⟩) := by simp only [atoiE, hat]
   have hvd : valD 0 (c :: r) = valD (c.toNat - 48) r := by rw [valD_cons]; congr 1; omega
   have hpos := valD_ge r (c.toNat - 48)
   rw [ha]
   have h4 : Lib.itoa (valD 0 (c :: r) : Int) = c :: r := by
    rw [Lib.itoa, if_neg (by omega), Int.toNat_natCast, hvd, dig_val r _ (by omega) h1.2, Lib.decDigits, dif_pos (by omega)]
    have : UInt8.ofNat (48 + (c.toNat - 48)) = c := by
     rw [show 48 + (c.toNat - 48) = c.toNat by omega]
     exact UInt8.ofNat_toNat
    rw [this]; rfl
   simp only [nil_ok, h4, beq_self_eq_true, Bool.and_true, Bool.not_false, Bool.true_and]
   exact decide_eq_true (by omega)
 ·have hn : numB r = false := by simpa using hn
  rw [hn]
  by_cases h1 : decide ((atoiE ⟨r⟩).1 > 0) = true
  ·by_cases h2 : (Lib.itoa (atoiE ⟨r⟩).1 == r) = true
   ·exfalso
    have h1 : (atoiE ⟨r⟩).1 > 0 := by simpa using h1
    have h2 : Lib.itoa (atoiE ⟨r⟩).1 = r := by simpa using h2
    rw [Lib.itoa, if_neg (by omega)] at h2
    obtain ⟨d1, d2, d3⟩ := dec_digits (atoiE ⟨r⟩).1.toNat (by omega)
    rw [h2] at d1 d2 d3
    have : numB r = true := by simp only [numB, d1, decide_eq_true d2, Bool.true_and, Bool.and_true]; cases r <;> simp at d3 ⊢
    rw [this] at hn; cases hn
   ·simp [h2]
  ·simp [h1]
theorem nameB_us (r : List UInt8) : nameB ⟨95 :: r⟩ = (numB r && decide (r.length <= 9)) := by simp [nameB, numB]
end Go.Pl

namespace Go.Pl
open Go.RowKit
open Enc (enc dec is)
open EncL (encL decL isL)
theorem look_map (s : List UInt8) : ∀ m : List (Str × Int), look (.str s) (mapP m) = some ((m.find? fun p => p.1.s == s).map fun p => .int .i64 p.2)
 | [] => rfl
 | p :: m => by
  simp only [mapP, List.map_cons, look, pvEq, List.find?_cons]
  by_cases h : s = p.1.s
  ·subst h
   simp
  ·have h1 : (s == p.1.s) = false := by simpa using h
   have h2 : (p.1.s == s) = false := by simpa using fun e : p.1.s = s => h e.symm
   simp only [h1, h2]
   exact look_map s m
theorem lookOK_map (s : List UInt8) (m : List (Str × Int)) : lookOK (.str s) (mapP m) = true := by simp [lookOK, look_map]
theorem lookD_map (s : List UInt8) (m : List (Str × Int)) : lookD (.str s) (.int .i64 0) (mapP m) = .int .i64 (atM m s) := by
 simp only [lookD, look_map, atM]
 cases m.find? fun p => p.1.s == s <;> rfl
def updM (s : Str) (c : Int) : List (Str × Int) -> List (Str × Int)
 | [] => [(s, c)]
 | p :: m => if s.s = p.1.s then (s, c) :: m else p :: updM s c m
theorem upd_map (s : Str) (c : Int) : ∀ m : List (Str × Int), upd (.str s.s) (.int .i64 c) (mapP m) = some (mapP (updM s c m))
 | [] => rfl
 | p :: m => by
  have ih := upd_map s c m
  simp only [mapP] at ih
  simp only [mapP, List.map_cons, upd, pvEq, updM]
  by_cases h : s.s = p.1.s
  ·simp [h]
  ·have h1 : (s.s == p.1.s) = false := by simpa using h
   simp [h1, h, ih]
def addT (k : Int) : List Coef -> List (Str × Int) -> List (Str × Int)
 | [], m => m
 | t :: l, m => addT k l (updM t.v (IntKind.i64.wrap (atM m t.v.s + IntKind.i64.wrap (k * t.c))) m)
def keysM (m : List (Str × Int)) : List (List UInt8) := m.map (·.1.s)
theorem upd_keys (s : Str) (c : Int) : ∀ m : List (Str × Int), (keysM (updM s c m) = keysM m) ∨ (s.s ∉ keysM m ∧ keysM (updM s c m) = keysM m ++ [s.s])
 | [] => .inr ⟨by simp [keysM], rfl⟩
 | p :: m => by
  rw [updM]
  split
  ·rename_i h
   exact .inl (by simp [keysM, h])
  ·rename_i h
   rcases upd_keys s c m with e | ⟨e1, e2⟩
   ·exact .inl (by simp only [keysM, List.map_cons] at e ⊢; rw [e])
   ·refine .inr ⟨?_, ?_⟩
    ·simp only [keysM, List.map_cons, List.mem_cons, not_or] at e1 ⊢
     exact ⟨h, e1⟩
    ·simp only [keysM, List.map_cons] at e2 ⊢
     rw [e2]; rfl
theorem upd_nodup {s : Str} {c : Int} {m : List (Str × Int)} (h : (keysM m).Nodup) : (keysM (updM s c m)).Nodup := by
 rcases upd_keys s c m with e | ⟨e1, e2⟩
 ·rw [e]; exact h
 ·rw [e2, List.nodup_append]
  exact ⟨h, by simp, fun a ha b hb e => by simp at hb; subst hb; subst e; exact e1 ha⟩
theorem addT_nodup (k : Int) : ∀ (l : List Coef) (m : List (Str × Int)), (keysM m).Nodup -> (keysM (addT k l m)).Nodup
 | [], m, h => h
 | t :: l, m, h => addT_nodup k l _ (upd_nodup h)
theorem upd_len (s : Str) (c : Int) (m : List (Str × Int)) : (updM s c m).length <= m.length + 1 := by
 have h : (updM s c m).length = (keysM (updM s c m)).length := by simp [keysM]
 have h2 : m.length = (keysM m).length := by simp [keysM]
 rcases upd_keys s c m with e | ⟨_, e⟩
 ·rw [h, e, <- h2]; omega
 ·rw [h, e]; simp; omega
theorem addT_len (k : Int) : ∀ (l : List Coef) (m : List (Str × Int)), (addT k l m).length <= m.length + l.length
 | [], m => Nat.le_refl _
 | t :: l, m => by
  have h1 := addT_len k l (updM t.v (IntKind.i64.wrap (atM m t.v.s + IntKind.i64.wrap (k * t.c))) m)
  have h2 := upd_len t.v (IntKind.i64.wrap (atM m t.v.s + IntKind.i64.wrap (k * t.c))) m
  rw [addT, List.length_cons]; omega
def nzM (m : List (Str × Int)) : List (Str × Int) := m.filter fun p => decide (p.2 ≠ 0)
def combN : AV × List AObj × List AObj := (.tup [.pv (.int .i64 0), .pv .nilmap, .pv (.bool false)], [], [])
theorem sortS_perm' {a b : List (List UInt8)} (h : a.Perm b) : sortS a = sortS b := by
 have tr : ∀ x y z : List UInt8, decide (x <= y) = true -> decide (y <= z) = true -> decide (x <= z) = true := fun x y z h k => by simp only [decide_eq_true_eq] at *; exact List.le_trans h k
 have to : ∀ x y : List UInt8, (decide (x <= y) || decide (y <= x)) = true := fun x y => by simp only [Bool.or_eq_true, decide_eq_true_eq]; exact List.le_total x y
 refine List.Perm.eq_of_pairwise (le := fun x y => decide (x <= y) = true) (fun x y _ _ h1 h2 => ?_) (List.pairwise_mergeSort tr to a) (List.pairwise_mergeSort tr to b) (((List.mergeSort_perm a _).trans h).trans (List.mergeSort_perm b _).symm)
 simp only [decide_eq_true_eq] at h1 h2
 exact List.le_antisymm h1 h2
structure FnV (n : Nat) where
 u : Unit := ()
instance (n : Nat) : Enc (FnV n) where
  sz := 1
  enc _ := .fn n
  dec _ := {}
  is | .fn m => m == n | _ => false
  is_enc _ := by simp
  dec_enc _ := rfl
  sub p h := by
    cases p with
    | fn m => have : m = n := by simpa using h
              subst this; exact .refl _
    | _ => cases h
def ixFind {α : Type} (p : α -> Bool) (l : List α) : Int := match l.findIdx? p with | some i => i | none => -1
theorem ix_step {α : Type} (p : α -> Bool) (l : List α) (i : Nat) (hlt : i < l.length) (hno : ∀ j (h : j < l.length), j < i -> p l[j] = false) (hp : p l[i] = true) : ixFind p l = i := by
 unfold ixFind
 have : l.findIdx? p = some i := by
  rw [List.findIdx?_eq_some_iff_getElem]
  exact ⟨hlt, hp, fun j hj => by simp [hno j (by omega) hj]⟩
 rw [this]
theorem ix_none {α : Type} (p : α -> Bool) (l : List α) (hno : ∀ j (h : j < l.length), p l[j] = false) : ixFind p l = -1 := by
 unfold ixFind
 have : l.findIdx? p = none := by
  rw [List.findIdx?_eq_none_iff]
  intro x hx
  obtain ⟨j, hj, rfl⟩ := List.getElem_of_mem hx
  exact hno j hj
 rw [this]
def pre_e1 : List AV -> List AObj -> Bool
 | [.pv x, .ptr 0 0], [.box [.pv (.str v), .pv (.int .i64 c)]] => can Coef x
 | _, _ => false
def val_e1 : List AV -> List AObj -> AV × List AObj × List AObj
 | [.pv x, _], [.box [.pv (.str v), .pv (.int .i64 c)]] => (.pv (.bool ((dec x : Coef).v.s == v)), [.box [.pv (.str v), .pv (.int .i64 c)]], [])
 | _, _ => combN
def pre_ixE (g : Nat) : List AV -> List AObj -> Bool
 | [.pv l, .fn g' [] [.ptr 0 0]], [.box [.pv (.str v), .pv (.int .i64 c)]] => g' == g && can (List Coef) l && decide ((dec l : List Coef).length <= 9223372036854775807)
 | _, _ => false
def val_ixE : List AV -> List AObj -> AV × List AObj × List AObj
 | [.pv l, _], [.box [.pv (.str v), .pv (.int .i64 c)]] => (.pv (.int .i64 (ixFind (fun t : Coef => t.v.s == v) (dec l))), [.box [.pv (.str v), .pv (.int .i64 c)]], [])
 | _, _ => combN
end Go.Pl

namespace Go.Pl
open Go.RowKit
open Enc (enc dec is)
open EncL (encL decL isL)
set_option maxRecDepth 100000
def ic_ladd : IC := (.seq (.reg [⟨(some 4), (.box 2 (.t 1)), 0, none⟩] none) (.seq (.reg [⟨(some 8), (.mv (.t 0)), 0, none⟩, ⟨(some 9), (.nilchk (.t 8)), 0, none⟩, ⟨(some 10), (.faddr 0 (.t 9)), 0, none⟩, ⟨(some 11), (.load false [(.int .i64)] (.t 10)), 0, none⟩, ⟨(some 12), (.mv (.t 2)), 0, none⟩, ⟨(some 13), (.faddr 0 (.t 4)), 0, none⟩, ⟨(some 14), (.load false [(.int .i64)] (.t 13)), 0, none⟩, ⟨(some 15), (.bin .num .mul (.t 12) (.t 14)), 0, none⟩, ⟨(some 16), (.bin .num .add (.t 11) (.t 15)), 0, none⟩, ⟨(some 17), (.nilchk (.t 8)), 0, none⟩, ⟨(some 18), (.faddr 0 (.t 17)), 0, none⟩, ⟨none, (.store 1 (.t 18) (.t 16)), 0, none⟩] (some [[], [0], [1, 0], [2, 1, 0], [], [], [5], [4, 6, 5], [3, 7, 2, 1, 0, 4, 6, 5], [0, 1, 2, 3, 4, 5, 6, 7, 8], [9, 0, 1, 2, 3, 4, 5, 6, 7, 8], [10, 8, 0, 1, 2, 3, 4, 5, 6, 7, 9]])) (.seq (.reg [⟨(some 19), (.faddr 1 (.t 4)), 0, none⟩, ⟨(some 20), (.load false [(.sl 2)] (.t 19)), 0, none⟩, ⟨(some 21), (.len 1 (.t 20)), 0, none⟩, ⟨(some 22), (.mv (.c (.int .i64 0))), 0, none⟩] none) (.block 0 (.loop [22, 21, 20, 0, 2] (.seq (.reg [⟨(some 23), (.bin .num .lss (.t 22) (.t 21)), 0, none⟩] none) (.seq (.cond (.t 23) .skip (.exit 0)) (.seq (.block 1 (.seq (.reg [⟨(some 24), (.iaddr 2 (.t 20) (.t 22)), 0, none⟩, ⟨(some 25), (.load true [.str, (.int .i64)] (.t 24)), 0, none⟩, ⟨(some 7), (.alloc (.agg [(.str []), (.int .i64 0)])), 0, none⟩, ⟨none, (.store 2 (.t 7) (.t 25)), 1, none⟩] none) (.reg [⟨(some 26), (.mv (.t 0)), 0, none⟩, ⟨(some 27), (.nilchk (.t 26)), 0, none⟩, ⟨(some 28), (.faddr 1 (.t 27)), 0, none⟩, ⟨(some 29), (.load false [.any] (.t 28)), 0, none⟩, ⟨(some 30), (.faddr 0 (.t 7)), 0, none⟩, ⟨(some 31), (.load false [.str] (.t 30)), 0, none⟩, ⟨(some 32), (.lookup true (.int .i64) (.int .i64 0) false (.t 29) (.t 31)), 0, none⟩, ⟨(some 33), (.mv (.t 2)), 0, none⟩, ⟨(some 34), (.faddr 1 (.t 7)), 0, none⟩, ⟨(some 35), (.load false [(.int .i64)] (.t 34)), 0, none⟩, ⟨(some 36), (.bin .num .mul (.t 33) (.t 35)), 0, none⟩, ⟨(some 37), (.bin .num .add (.t 32) (.t 36)), 0, none⟩, ⟨none, (.mapupd true (.t 29) (.t 31) (.t 37)), 0, none⟩] (some [[], [0], [1, 0], [2, 1, 0], [], [4], [3, 5, 2, 1, 0, 4], [], [], [8], [7, 9, 8], [6, 10, 3, 5, 2, 1, 0, 4, 7, 9, 8], [3, 5, 11, 0, 1, 2, 4, 6, 7, 8, 9, 10]])))) (.reg [⟨(some 38), (.bin .num .add (.t 22) (.c (.int .i64 1))), 0, none⟩, ⟨(some 22), (.mv (.t 38)), 0, none⟩] none)))))))))
def rs_ladd : List IRes := []
abbrev nt_ladd : Nat := 39
def T_ladd : Tab := tab []
theorem ladd_s {G : AV × List AObj × List AObj -> Prop} (n : Int) (m : List (Str × Int)) (l : Lin) (k : Int) (h : At T_ladd 2 (endO' 2 rs_ladd G) ic_ladd 0 39 [(0, (.ptr 0 0)), (2, (.pv (.int .i64 k))), (20, (.pv (.sl 2 false (List.map enc l.t)))), (21, (.pv (.int .i64 (↑(List.length (List.map enc l.t)) : Int)))), (22, (.pv (.int .i64 0)))] [(.obj (.box [(.pv (.int .i64 (IntKind.wrap IntKind.i64 (n + IntKind.wrap IntKind.i64 (k * l.k))))), (.map 1)])), (.obj (.map (mapP m)))]) : Gets T_ladd 2 (endO' 2 rs_ladd G) ic_ladd [] (st0O 39 [.ptr 0 0, .pv (enc l), .pv (.int .i64 k)] [.box [.pv (.int .i64 n), .map 1], .map (mapP m)]) := Gets.to (.lit (.lit (.nil))) h (by kernel_rfl)
theorem ladd_h0 {G : AV × List AObj × List AObj -> Prop} (n : Int) (m : List (Str × Int)) (l : Lin) (k : Int) (i : Int) (h : if (decide (i < (↑(List.length l.t) : Int))) = true then (decide (0 <= i) && decide (Int.toNat i < List.length (List.map enc l.t)) && Enc.sz Coef == 2) = true ∧ (∃ y0 : Coef, AV.pv (PV.rptr (PV.cells (List.getD (List.map enc l.t) (Int.toNat i) default))) = AV.pv (PV.rptr (PV.cells ((enc) y0))) ∧ ((lookOK (Sh.co Sh.str (List.getD (PV.cells (enc y0)) 0 default)) (mapP m) && Sh.fit (Sh.int .i64) (lookD (Sh.co Sh.str (List.getD (PV.cells (enc y0)) 0 default)) (PV.int .i64 0) (mapP m))) = true ∧ ((updOK (Sh.co Sh.str (List.getD (PV.cells (enc y0)) 0 default)) (PV.int .i64 (IntKind.wrap IntKind.i64 (PV.asInt (lookD (Sh.co Sh.str (List.getD (PV.cells (enc y0)) 0 default)) (PV.int .i64 0) (mapP m)) + IntKind.wrap IntKind.i64 (k * PV.asInt (List.getD (PV.cells (enc y0)) (0 + 1) default))))) (mapP m)) = true ∧ (At T_ladd 2 (endO' 2 rs_ladd G) ic_ladd 0 39 [(0, (.ptr 0 0)), (2, (.pv (.int .i64 k))), (20, (.pv (.sl 2 false (List.map enc l.t)))), (21, (.pv (.int .i64 (↑(List.length l.t) : Int)))), (22, (.pv (.int .i64 (IntKind.wrap IntKind.i64 (i + 1)))))] [(.obj (.box [(.pv (.int .i64 n)), (.map 1)])), (.obj (.map (updL (Sh.co Sh.str (List.getD (PV.cells (enc y0)) 0 default)) (PV.int .i64 (IntKind.wrap IntKind.i64 (PV.asInt (lookD (Sh.co Sh.str (List.getD (PV.cells (enc y0)) 0 default)) (PV.int .i64 0) (mapP m)) + IntKind.wrap IntKind.i64 (k * PV.asInt (List.getD (PV.cells (enc y0)) (0 + 1) default))))) (mapP m))))])))) else (G (((.tup []), ([(.box [(.pv (.int .i64 n)), (.map 1)]), (.map (mapP m))], []))))) : At T_ladd 2 (endO' 2 rs_ladd G) ic_ladd 0 39 [(0, .ptr 0 0), (2, .pv (.int .i64 k)), (20, .pv (enc l.t)), (21, .pv (.int .i64 l.t.length)), (22, .pv (.int .i64 i))] [.obj (.box [.pv (.int .i64 n), .map 1]), .obj (.map (mapP m))] := At.to (.lit (.ask (.req (.abs (Coef) (fun YY => AV.pv (PV.rptr (PV.cells ((enc) YY)))) (.lit (.req (.keep (.lit (.lit (.req (.lit (.nil)))))))))) (.nil))) h (by kernel_rfl)
end Go.Pl

namespace Go.Pl
open Go.RowKit
open Enc (enc dec is)
open EncL (encL decL isL)
set_option maxRecDepth 100000
def ic_resra : IC := (.seq (.reg [⟨(some 25), (.mv (.t 7)), 0, none⟩, ⟨(some 26), (.bin .num .neq (.t 25) (.c (.int .i64 0))), 0, none⟩] none) (.cond (.t 26) (.reg [⟨(some 27), (.mv (.t 5)), 0, none⟩, ⟨(some 28), (.mv (.t 6)), 0, none⟩, ⟨(some 29), (.bslice 9 1 1 (.str []) [(0, (.t 28))]), 0, none⟩, ⟨(some 30), (.append 9 1 16 (.t 27) (.t 29)), 1, none⟩, ⟨(some 5), (.mv (.t 30)), 2, none⟩] none) .skip))
def rs_resra : List IRes := []
def T_resra : Tab := tab [(154, .own pre_sorts val_sorts), (73, .pure (preT (fun x : Lin × Unit => linSm x.1)) (valT (fun x : Lin × Unit => validL x.1)))]
theorem resra_r0 {G : AV × List AObj × List AObj -> Prop} (E : ExtE) (n : Int) (s : List UInt8) (c : Int)  (h : if (c != 0) = true then E 99 ⟨envJ 58 0 [(0, (.ptr 0 0)), (2, (.ptr 2 0)), (4, (.ptr 3 0)), (5, (.row 5 1 0 1)), (18, (.map 1)), (19, (.ptr 4 0))], [(.obj (.box [(.pv (.int .i64 n)), (.map 1)])), .dead, (.obj (.box [(.pv (.int .i64 0)), (.pv (.sl 0 true []))])), (.obj (.box [(.pv (.int .i64 n)), (.pv (.sl 0 true []))])), .dead, (.obj (.row false 9 1 [(.str s)]))]⟩ (fun x S' => AfX T_resra E 5 (endO' 5 rs_resra G) ic_resra 99 x S') else (E 99 ⟨envJ 58 0 [(0, (.ptr 0 0)), (2, (.ptr 2 0)), (4, (.ptr 3 0)), (5, (.pv (.sl 0 true []))), (18, (.map 1)), (19, (.ptr 4 0))], [(.obj (.box [(.pv (.int .i64 n)), (.map 1)])), .dead, (.obj (.box [(.pv (.int .i64 0)), (.pv (.sl 0 true []))])), (.obj (.box [(.pv (.int .i64 n)), (.pv (.sl 0 true []))])), .dead]⟩ (fun x S' => AfX T_resra E 5 (endO' 5 rs_resra G) ic_resra 99 x S'))) : GetsX T_resra E 5 (endO' 5 rs_resra G) (.inl ic_resra) [.blk 1, .seq (.ext 99 [0, 2, 4, 5, 18, 19])] ⟨envJ 58 0 [(0, .ptr 0 0), (2, .ptr 2 0), (4, .ptr 3 0), (5, .pv (.sl 0 true [])), (6, .pv (.str s)), (7, .pv (.int .i64 c)), (18, .map 1), (19, .ptr 4 0), (22, .pv (.tup [.str s, .int .i64 c])), (23, .pv (.str s)), (24, .pv (.int .i64 c))], [.obj (.box [.pv (.int .i64 n), .map 1]), .dead, .obj (.box [.pv (.int .i64 0), .pv (.sl 0 true [])]), .obj (.box [.pv (.int .i64 n), .pv (.sl 0 true [])]), .dead]⟩ := GetsX.mo (.lit (.ask (.lit (.lit (.lit (.lit (.lit (.nil)))))) (.nil))) h (by kernel_rfl)
theorem resrb_r0 {G : AV × List AObj × List AObj -> Prop} (E : ExtE) (n : Int) (s : List UInt8) (c : Int) (l : Nat) (xs : List (List UInt8))  (h : if (c != 0) = true then (List.length (List.map PV.str xs) == l && l == l && decide ((l + List.length (List.drop 0 (List.take 1 [PV.str s]))) * 16 <= 1099511627776) && decide (l + List.length (List.drop 0 (List.take 1 [PV.str s])) <= 1099511627776)) = true ∧ (E 99 ⟨envJ 58 0 [(0, (.ptr 0 0)), (2, (.ptr 2 0)), (4, (.ptr 3 0)), (5, (.row 5 (l + List.length (List.drop 0 (List.take 1 [PV.str s]))) 0 (l + List.length (List.drop 0 (List.take 1 [PV.str s]))))), (18, (.map 1)), (19, (.ptr 4 0))], [(.obj (.box [(.pv (.int .i64 n)), (.map 1)])), .dead, (.obj (.box [(.pv (.int .i64 0)), (.pv (.sl 0 true []))])), (.obj (.box [(.pv (.int .i64 n)), (.pv (.sl 0 true []))])), .dead, (.obj (.row false 9 1 (List.map PV.str xs ++ List.drop 0 (List.take 1 [PV.str s]))))]⟩ (fun x S' => AfX T_resra E 6 (endO' 6 rs_resra G) ic_resra 99 x S')) else (E 99 ⟨envJ 58 0 [(0, (.ptr 0 0)), (2, (.ptr 2 0)), (4, (.ptr 3 0)), (5, (.row 5 l 0 l)), (18, (.map 1)), (19, (.ptr 4 0))], [(.obj (.box [(.pv (.int .i64 n)), (.map 1)])), .dead, (.obj (.box [(.pv (.int .i64 0)), (.pv (.sl 0 true []))])), (.obj (.box [(.pv (.int .i64 n)), (.pv (.sl 0 true []))])), .dead, (.obj (.row false 9 1 (List.map PV.str xs)))]⟩ (fun x S' => AfX T_resra E 6 (endO' 6 rs_resra G) ic_resra 99 x S'))) : GetsX T_resra E 6 (endO' 6 rs_resra G) (.inl ic_resra) [.blk 1, .seq (.ext 99 [0, 2, 4, 5, 18, 19])] ⟨envJ 58 0 [(0, .ptr 0 0), (2, .ptr 2 0), (4, .ptr 3 0), (5, .row 5 l 0 l), (6, .pv (.str s)), (7, .pv (.int .i64 c)), (18, .map 1), (19, .ptr 4 0), (22, .pv (.tup [.str s, .int .i64 c])), (23, .pv (.str s)), (24, .pv (.int .i64 c))], [.obj (.box [.pv (.int .i64 n), .map 1]), .dead, .obj (.box [.pv (.int .i64 0), .pv (.sl 0 true [])]), .obj (.box [.pv (.int .i64 n), .pv (.sl 0 true [])]), .dead, .obj (.row false 9 1 (xs.map .str))]⟩ := GetsX.mo (.lit (.ask (.lit (.lit (.req (.nil)))) (.nil))) h (by kernel_rfl)
def ic_resx : IC := (.seq (.reg [⟨(some 2), (.alloc (.agg [(.int .i64 0), (.sl 0 true [])])), 0, none⟩, ⟨(some 3), (.mv (.c (.int .i64 0))), 1, none⟩] none) (.seq (.reg [⟨(some 10), (.mv (.t 0)), 0, none⟩, ⟨(some 11), (.nilchk (.t 10)), 0, none⟩, ⟨(some 12), (.faddr 0 (.t 11)), 0, none⟩, ⟨(some 13), (.load false [(.int .i64)] (.t 12)), 0, none⟩, ⟨(some 14), (.build [(.int .i64 0), (.sl 0 true [])] [(0, (1, (.t 13)))]), 0, none⟩, ⟨(some 4), (.alloc (.agg [(.int .i64 0), (.sl 0 true [])])), 0, none⟩, ⟨none, (.store 2 (.t 4) (.t 14)), 1, none⟩] none) (.seq (.reg [⟨(some 5), (.mv (.c (.sl 0 true []))), 0, none⟩] none) (.seq (.ext 0 [0, 15, 16, 17, 18, 19, 20, 21, 22, 23, 24, 7, 25, 26, 5, 6, 28, 27, 29, 30, 4, 2]) (.seq (.reg [⟨(some 31), (.mv (.t 5)), 0, none⟩, ⟨(some 32), (.call (.c (.fn 154)) [(.t 31)]), 0, none⟩] none) (.seq (.seq (.reg [⟨(some 33), (.mv (.t 5)), 0, none⟩, ⟨(some 34), (.len 1 (.t 33)), 0, none⟩, ⟨(some 35), (.mv (.c (.int .i64 0))), 0, none⟩] none) (.block 2 (.loop [35, 34, 33, 4, 0, 2] (.seq (.reg [⟨(some 36), (.bin .num .lss (.t 35) (.t 34)), 0, none⟩] none) (.seq (.cond (.t 36) .skip (.exit 2)) (.seq (.block 3 (.seq (.reg [⟨(some 37), (.iaddr 1 (.t 33) (.t 35)), 0, none⟩, ⟨(some 38), (.load false [.str] (.t 37)), 0, none⟩, ⟨(some 9), (.mv (.t 38)), 0, none⟩] none) (.reg [⟨(some 39), (.faddr 1 (.t 4)), 0, none⟩, ⟨(some 40), (.load false [(.sl 2)] (.t 39)), 0, none⟩, ⟨(some 41), (.mv (.t 9)), 0, none⟩, ⟨(some 42), (.mv (.t 0)), 0, none⟩, ⟨(some 43), (.nilchk (.t 42)), 0, none⟩, ⟨(some 44), (.faddr 1 (.t 43)), 0, none⟩, ⟨(some 45), (.load false [.any] (.t 44)), 0, none⟩, ⟨(some 46), (.mv (.t 9)), 0, none⟩, ⟨(some 47), (.lookup true (.int .i64) (.int .i64 0) false (.t 45) (.t 46)), 0, none⟩, ⟨(some 48), (.build [(.str []), (.int .i64 0)] [(0, (1, (.t 41))), (1, (1, (.t 47)))]), 0, none⟩, ⟨(some 49), (.bslice 61 2 1 (.agg [(.str []), (.int .i64 0)]) [(0, (.t 48))]), 0, none⟩, ⟨(some 50), (.append 61 2 24 (.t 40) (.t 49)), 1, none⟩, ⟨(some 51), (.faddr 1 (.t 4)), 2, none⟩, ⟨none, (.store 1 (.t 51) (.t 50)), 2, none⟩] (some [[], [0], [], [], [3], [4, 3], [5, 4, 3], [], [6, 7, 5, 4, 3], [2, 8, 6, 7, 5, 4, 3], [9, 2, 8, 6, 7, 5, 4, 3], [1, 10, 0, 9, 2, 8, 6, 7, 5, 4, 3], [0, 1, 2, 3, 4, 5, 6, 7, 8, 9, 10, 11], [12, 11, 0, 1, 2, 3, 4, 5, 6, 7, 8, 9, 10]])))) (.reg [⟨(some 52), (.bin .num .add (.t 35) (.c (.int .i64 1))), 0, none⟩, ⟨(some 35), (.mv (.t 52)), 0, none⟩] none))))))) (.seq (.seq (.reg [⟨(some 53), (.load true [(.int .i64), (.sl 2)] (.t 4)), 0, none⟩, ⟨(some 54), (.call (.c (.fn 73)) [(.t 53)]), 0, none⟩, ⟨(some 55), (.un .not (.t 54)), 2, none⟩] none) (.cond (.t 55) (.seq (.reg [⟨(some 56), (.build [(.int .i64 0), (.sl 0 true [])] []), 0, none⟩, ⟨none, (.store 2 (.t 2) (.t 56)), 0, none⟩, ⟨(some 3), (.mv (.c (.int .i64 3))), 0, none⟩] none) .ret) .skip)) (.seq (.reg [⟨(some 57), (.load true [(.int .i64), (.sl 2)] (.t 4)), 0, none⟩, ⟨none, (.store 2 (.t 2) (.t 57)), 0, none⟩, ⟨(some 3), (.mv (.c (.int .i64 0))), 0, none⟩] none) .ret))))))))
def rs_resx : List IRes := [(.cell true 2 2), (.tmp 3)]
abbrev nt_resx : Nat := 58
def T_resx : Tab := tab [(154, .own pre_sorts val_sorts), (73, .pure (preT (fun x : Lin × Unit => linSm x.1)) (valT (fun x : Lin × Unit => validL x.1)))]
theorem resx_s {G : AV × List AObj × List AObj -> Prop} (E : ExtE) (n : Int) (m : List (Str × Int)) (h : E 0 ⟨envJ 58 0 [(0, (.ptr 0 0)), (2, (.ptr 2 0)), (4, (.ptr 3 0)), (5, (.pv (.sl 0 true []))), (6, .undef), (7, .undef), (15, .undef), (16, .undef), (17, .undef), (18, .undef), (19, .undef), (20, .undef), (21, .undef), (22, .undef), (23, .undef), (24, .undef), (25, .undef), (26, .undef), (27, .undef), (28, .undef), (29, .undef), (30, .undef)], [(.obj (.box [(.pv (.int .i64 n)), (.map 1)])), (.obj (.map (mapP m))), (.obj (.box [(.pv (.int .i64 0)), (.pv (.sl 0 true []))])), (.obj (.box [(.pv (.int .i64 n)), (.pv (.sl 0 true []))]))]⟩ (fun x S' => AfX T_resx E 2 (endO' 2 rs_resx G) ic_resx 0 x S')) : GetsX T_resx E 2 (endO' 2 rs_resx G) (.inl ic_resx) [] (st0O 58 [.ptr 0 0] [.box [.pv (.int .i64 n), .map 1], .map (mapP m)]) := GetsX.mo (.nil) h (by kernel_rfl)
-- IMPOSSIBLE
theorem resx_h0n {G : AV × List AObj × List AObj -> Prop} (E : ExtE) (n : Int) (m : List (Str × Int)) (i : Int) (h : if (decide (i < 0)) = true then (decide (0 <= i) && decide (Int.toNat i < List.length ([] : List PV)) && 0 == 1) = true ∧ (False) else (∃ y0 : Bool, AV.pv (valT (fun (x : Lin × Unit) => validL x.1) [(.agg [(.int .i64 n), (.sl 0 true [])])]) = AV.pv (enc y0) ∧ (if (!y0) = true then G (((.tup [(.pv (.agg [(.int .i64 0), (.sl 0 true [])])), (.pv (.int .i64 3))]), ([(.box [(.pv (.int .i64 n)), (.map 1)]), (.map (mapP m))], []))) else (G (((.tup [(.pv (.agg [(.int .i64 n), (.sl 0 true [])])), (.pv (.int .i64 0))]), ([(.box [(.pv (.int .i64 n)), (.map 1)]), (.map (mapP m))], []))))))) : AtM T_resx E 2 (endO' 2 rs_resx G) ic_resx 0 58 [(0, .ptr 0 0), (2, .ptr 2 0), (4, .ptr 3 0), (33, .pv (.sl 0 true [])), (34, .pv (.int .i64 0)), (35, .pv (.int .i64 i))] [.obj (.box [.pv (.int .i64 n), .map 1]), .obj (.map (mapP m)), .obj (.box [.pv (.int .i64 0), .pv (.sl 0 true [])]), .obj (.box [.pv (.int .i64 n), .pv (.sl 0 true [])])] := GetsX.mo (.lit (.ask (.req (.keep (.lit (.nil)))) (.lit (.abs (Bool) (fun YY => AV.pv (enc YY)) (.ask (.nil) (.nil)))))) h (by kernel_rfl)
theorem resx_h0a {G : AV × List AObj × List AObj -> Prop} (E : ExtE) (n : Int) (m : List (Str × Int)) (l : Nat) (xs : List (List UInt8)) (i : Int) (h : if (decide (i < (↑l : Int))) = true then (decide (0 <= i) && decide (0 + Int.toNat i < l) && List.length (List.map PV.str xs) == l) = true ∧ ((List.length (List.map PV.str xs) == l && decide (0 + Int.toNat i < List.length (List.map PV.str xs))) = true ∧ ((decide (0 + List.length [Sh.str] <= List.length (PV.cells (List.getD (List.map PV.str xs) (0 + Int.toNat i) default))) && shFit (PV.cells (List.getD (List.map PV.str xs) (0 + Int.toNat i) default)) 0 [Sh.str]) = true ∧ ((lookOK (Sh.co Sh.str (List.getD (PV.cells (List.getD (List.map PV.str xs) (0 + Int.toNat i) default)) 0 default)) (mapP m) && Sh.fit (Sh.int .i64) (lookD (Sh.co Sh.str (List.getD (PV.cells (List.getD (List.map PV.str xs) (0 + Int.toNat i) default)) 0 default)) (PV.int .i64 0) (mapP m))) = true ∧ (AtM T_resx E 2 (endO' 2 rs_resx G) ic_resx 0 58 [(0, (.ptr 0 0)), (2, (.ptr 2 0)), (4, (.ptr 3 0)), (33, (.row 4 l 0 l)), (34, (.pv (.int .i64 (↑l : Int)))), (35, (.pv (.int .i64 (IntKind.wrap IntKind.i64 (i + 1)))))] [(.obj (.box [(.pv (.int .i64 n)), (.map 1)])), (.obj (.map (mapP m))), (.obj (.box [(.pv (.int .i64 0)), (.pv (.sl 0 true []))])), (.obj (.box [(.pv (.int .i64 n)), (.row 5 1 0 1)])), (.obj (.row false 9 1 (List.map PV.str xs))), (.obj (.row false 61 2 [(.agg [(.str (PV.asStr (List.getD (PV.cells (List.getD (List.map PV.str xs) (0 + Int.toNat i) default)) 0 default))), (.int .i64 (PV.asInt (lookD (Sh.co Sh.str (List.getD (PV.cells (List.getD (List.map PV.str xs) (0 + Int.toNat i) default)) 0 default)) (PV.int .i64 0) (mapP m))))])]))])))) else (∃ y0 : Bool, AV.pv (valT (fun (x : Lin × Unit) => validL x.1) [(.agg [(.int .i64 n), (.sl 0 true [])])]) = AV.pv (enc y0) ∧ (if (!y0) = true then G (((.tup [(.pv (.agg [(.int .i64 0), (.sl 0 true [])])), (.pv (.int .i64 3))]), ([(.box [(.pv (.int .i64 n)), (.map 1)]), (.map (mapP m))], []))) else (G (((.tup [(.pv (.agg [(.int .i64 n), (.sl 0 true [])])), (.pv (.int .i64 0))]), ([(.box [(.pv (.int .i64 n)), (.map 1)]), (.map (mapP m))], []))))))) : AtM T_resx E 2 (endO' 2 rs_resx G) ic_resx 0 58 [(0, .ptr 0 0), (2, .ptr 2 0), (4, .ptr 3 0), (33, .row 4 l 0 l), (34, .pv (.int .i64 l)), (35, .pv (.int .i64 i))] [.obj (.box [.pv (.int .i64 n), .map 1]), .obj (.map (mapP m)), .obj (.box [.pv (.int .i64 0), .pv (.sl 0 true [])]), .obj (.box [.pv (.int .i64 n), .pv (.sl 0 true [])]), .obj (.row false 9 1 (xs.map .str))] := GetsX.mo (.lit (.ask (.req (.keep (.req (.req (.req (.keep (.lit (.lit (.lit (.lit (.lit (.lit (.nil))))))))))))) (.lit (.abs (Bool) (fun YY => AV.pv (enc YY)) (.ask (.nil) (.nil)))))) h (by kernel_rfl)
theorem resx_h0b {G : AV × List AObj × List AObj -> Prop} (E : ExtE) (n : Int) (m : List (Str × Int)) (l : Nat) (xs : List (List UInt8)) (i : Int) (q : Nat) (ts : List Coef) (h : if (decide (i < (↑l : Int))) = true then (decide (0 <= i) && decide (0 + Int.toNat i < l) && List.length (List.map PV.str xs) == l) = true ∧ ((List.length (List.map PV.str xs) == l && decide (0 + Int.toNat i < List.length (List.map PV.str xs))) = true ∧ ((decide (0 + List.length [Sh.str] <= List.length (PV.cells (List.getD (List.map PV.str xs) (0 + Int.toNat i) default))) && shFit (PV.cells (List.getD (List.map PV.str xs) (0 + Int.toNat i) default)) 0 [Sh.str]) = true ∧ ((lookOK (Sh.co Sh.str (List.getD (PV.cells (List.getD (List.map PV.str xs) (0 + Int.toNat i) default)) 0 default)) (mapP m) && Sh.fit (Sh.int .i64) (lookD (Sh.co Sh.str (List.getD (PV.cells (List.getD (List.map PV.str xs) (0 + Int.toNat i) default)) 0 default)) (PV.int .i64 0) (mapP m))) = true ∧ ((List.length (List.map enc ts) == q && q == q && decide ((q + List.length (List.drop 0 (List.take 1 [PV.agg [Sh.co Sh.str (List.getD (PV.cells (List.getD (List.map PV.str xs) (0 + Int.toNat i) default)) 0 default), if false = true then PV.tup [Sh.co (Sh.int .i64) (lookD (Sh.co Sh.str (List.getD (PV.cells (List.getD (List.map PV.str xs) (0 + Int.toNat i) default)) 0 default)) (PV.int .i64 0) (mapP m)), PV.bool (lookHas (Sh.co Sh.str (List.getD (PV.cells (List.getD (List.map PV.str xs) (0 + Int.toNat i) default)) 0 default)) (mapP m))] else Sh.co (Sh.int .i64) (lookD (Sh.co Sh.str (List.getD (PV.cells (List.getD (List.map PV.str xs) (0 + Int.toNat i) default)) 0 default)) (PV.int .i64 0) (mapP m))]]))) * 24 <= 1099511627776) && decide (q + List.length (List.drop 0 (List.take 1 [PV.agg [Sh.co Sh.str (List.getD (PV.cells (List.getD (List.map PV.str xs) (0 + Int.toNat i) default)) 0 default), if false = true then PV.tup [Sh.co (Sh.int .i64) (lookD (Sh.co Sh.str (List.getD (PV.cells (List.getD (List.map PV.str xs) (0 + Int.toNat i) default)) 0 default)) (PV.int .i64 0) (mapP m)), PV.bool (lookHas (Sh.co Sh.str (List.getD (PV.cells (List.getD (List.map PV.str xs) (0 + Int.toNat i) default)) 0 default)) (mapP m))] else Sh.co (Sh.int .i64) (lookD (Sh.co Sh.str (List.getD (PV.cells (List.getD (List.map PV.str xs) (0 + Int.toNat i) default)) 0 default)) (PV.int .i64 0) (mapP m))]])) <= 1099511627776)) = true ∧ (AtM T_resx E 2 (endO' 2 rs_resx G) ic_resx 0 58 [(0, (.ptr 0 0)), (2, (.ptr 2 0)), (4, (.ptr 3 0)), (33, (.row 4 l 0 l)), (34, (.pv (.int .i64 (↑l : Int)))), (35, (.pv (.int .i64 (IntKind.wrap IntKind.i64 (i + 1)))))] [(.obj (.box [(.pv (.int .i64 n)), (.map 1)])), (.obj (.map (mapP m))), (.obj (.box [(.pv (.int .i64 0)), (.pv (.sl 0 true []))])), (.obj (.box [(.pv (.int .i64 n)), (.row 5 (q + List.length (List.drop 0 (List.take 1 [PV.agg [Sh.co Sh.str (List.getD (PV.cells (List.getD (List.map PV.str xs) (0 + Int.toNat i) default)) 0 default), if false = true then PV.tup [Sh.co (Sh.int .i64) (lookD (Sh.co Sh.str (List.getD (PV.cells (List.getD (List.map PV.str xs) (0 + Int.toNat i) default)) 0 default)) (PV.int .i64 0) (mapP m)), PV.bool (lookHas (Sh.co Sh.str (List.getD (PV.cells (List.getD (List.map PV.str xs) (0 + Int.toNat i) default)) 0 default)) (mapP m))] else Sh.co (Sh.int .i64) (lookD (Sh.co Sh.str (List.getD (PV.cells (List.getD (List.map PV.str xs) (0 + Int.toNat i) default)) 0 default)) (PV.int .i64 0) (mapP m))]]))) 0 (q + List.length (List.drop 0 (List.take 1 [PV.agg [Sh.co Sh.str (List.getD (PV.cells (List.getD (List.map PV.str xs) (0 + Int.toNat i) default)) 0 default), if false = true then PV.tup [Sh.co (Sh.int .i64) (lookD (Sh.co Sh.str (List.getD (PV.cells (List.getD (List.map PV.str xs) (0 + Int.toNat i) default)) 0 default)) (PV.int .i64 0) (mapP m)), PV.bool (lookHas (Sh.co Sh.str (List.getD (PV.cells (List.getD (List.map PV.str xs) (0 + Int.toNat i) default)) 0 default)) (mapP m))] else Sh.co (Sh.int .i64) (lookD (Sh.co Sh.str (List.getD (PV.cells (List.getD (List.map PV.str xs) (0 + Int.toNat i) default)) 0 default)) (PV.int .i64 0) (mapP m))]]))))])), (.obj (.row false 9 1 (List.map PV.str xs))), (.obj (.row false 61 2 (List.map enc ts ++ List.drop 0 (List.take 1 [PV.agg [Sh.co Sh.str (List.getD (PV.cells (List.getD (List.map PV.str xs) (0 + Int.toNat i) default)) 0 default), if false = true then PV.tup [Sh.co (Sh.int .i64) (lookD (Sh.co Sh.str (List.getD (PV.cells (List.getD (List.map PV.str xs) (0 + Int.toNat i) default)) 0 default)) (PV.int .i64 0) (mapP m)), PV.bool (lookHas (Sh.co Sh.str (List.getD (PV.cells (List.getD (List.map PV.str xs) (0 + Int.toNat i) default)) 0 default)) (mapP m))] else Sh.co (Sh.int .i64) (lookD (Sh.co Sh.str (List.getD (PV.cells (List.getD (List.map PV.str xs) (0 + Int.toNat i) default)) 0 default)) (PV.int .i64 0) (mapP m))]]))))]))))) else ((List.length (List.map enc ts) == q) = true ∧ ((Go.Pl.preT (fun (x : Lin × Unit) => linSm x.1) [(.agg [(.int .i64 n), (.sl 2 false (List.drop 0 (List.take q (List.map enc ts))))])]) = true ∧ (∃ y0 : Bool, AV.pv (valT (fun (x : Lin × Unit) => validL x.1) [(.agg [(.int .i64 n), (.sl 2 false (List.drop 0 (List.take q (List.map enc ts))))])]) = AV.pv (enc y0) ∧ (if (!y0) = true then G (((.tup [(.pv (.agg [(.int .i64 0), (.sl 0 true [])])), (.pv (.int .i64 3))]), ([(.box [(.pv (.int .i64 n)), (.map 1)]), (.map (mapP m))], []))) else (G (((.tup [(.agg [(.pv (.int .i64 n)), (.row 2 q 0 q)]), (.pv (.int .i64 0))]), ([(.box [(.pv (.int .i64 n)), (.map 1)]), (.map (mapP m))], [(.row true 61 2 (List.map enc ts))]))))))))) : AtM T_resx E 2 (endO' 2 rs_resx G) ic_resx 0 58 [(0, .ptr 0 0), (2, .ptr 2 0), (4, .ptr 3 0), (33, .row 4 l 0 l), (34, .pv (.int .i64 l)), (35, .pv (.int .i64 i))] [.obj (.box [.pv (.int .i64 n), .map 1]), .obj (.map (mapP m)), .obj (.box [.pv (.int .i64 0), .pv (.sl 0 true [])]), .obj (.box [.pv (.int .i64 n), .row 5 q 0 q]), .obj (.row false 9 1 (xs.map .str)), .obj (.row false 61 2 (ts.map enc))] := GetsX.mo (.lit (.ask (.req (.keep (.req (.req (.req (.keep (.lit (.lit (.req (.lit (.nil))))))))))) (.req (.req (.abs (Bool) (fun YY => AV.pv (enc YY)) (.ask (.nil) (.nil))))))) h (by kernel_rfl)
theorem resx_x0a {G : AV × List AObj × List AObj -> Prop} (E : ExtE) (n : Int) (m : List (Str × Int))  (h : AtM T_resx E 2 (endO' 2 rs_resx G) ic_resx 0 58 [(0, (.ptr 0 0)), (2, (.ptr 2 0)), (4, (.ptr 3 0)), (33, (.pv (.sl 0 true []))), (34, (.pv (.int .i64 0))), (35, (.pv (.int .i64 0)))] [(.obj (.box [(.pv (.int .i64 n)), (.map 1)])), (.obj (.map (mapP m))), (.obj (.box [(.pv (.int .i64 0)), (.pv (.sl 0 true []))])), (.obj (.box [(.pv (.int .i64 n)), (.pv (.sl 0 true []))]))]) : AfX T_resx E 2 (endO' 2 rs_resx G) ic_resx 0 .normal ⟨envJ 58 0 [(0, .ptr 0 0), (2, .ptr 2 0), (4, .ptr 3 0), (5, .pv (.sl 0 true [])), (18, .map 1), (19, .ptr 4 0)], [.obj (.box [.pv (.int .i64 n), .map 1]), .obj (.map (mapP m)), .obj (.box [.pv (.int .i64 0), .pv (.sl 0 true [])]), .obj (.box [.pv (.int .i64 n), .pv (.sl 0 true [])]), .dead]⟩ := GetsX.mo (.lit (.keep (.nil))) h (by kernel_rfl)
theorem resx_x0b {G : AV × List AObj × List AObj -> Prop} (E : ExtE) (n : Int) (m : List (Str × Int)) (l : Nat) (xs : List (List UInt8)) (h : (pre_sorts [(.row 0 l 0 l)] [(.row false 9 1 (List.map PV.str xs))]) = true ∧ (AtM T_resx E 2 (endO' 2 rs_resx G) ic_resx 0 58 [(0, (.ptr 0 0)), (2, (.ptr 2 0)), (4, (.ptr 3 0)), (33, (.row 4 l 0 l)), (34, (.pv (.int .i64 (↑(l - 0) : Int)))), (35, (.pv (.int .i64 0)))] [(.obj (.box [(.pv (.int .i64 n)), (.map 1)])), (.obj (.map (mapP m))), (.obj (.box [(.pv (.int .i64 0)), (.pv (.sl 0 true []))])), (.obj (.box [(.pv (.int .i64 n)), (.pv (.sl 0 true []))])), (.obj (.row false 9 1 (List.map PV.str (sortS (List.map strOf (List.map PV.str xs))))))])) : AfX T_resx E 2 (endO' 2 rs_resx G) ic_resx 0 .normal ⟨envJ 58 0 [(0, .ptr 0 0), (2, .ptr 2 0), (4, .ptr 3 0), (5, .row 5 l 0 l), (18, .map 1), (19, .ptr 4 0)], [.obj (.box [.pv (.int .i64 n), .map 1]), .obj (.map (mapP m)), .obj (.box [.pv (.int .i64 0), .pv (.sl 0 true [])]), .obj (.box [.pv (.int .i64 n), .pv (.sl 0 true [])]), .dead, .obj (.row false 9 1 (xs.map .str))]⟩ := GetsX.mo (.req (.keep (.nil))) h (by kernel_rfl)
end Go.Pl

namespace Go.Pl
open Go.RowKit
open Enc (enc dec is)
open EncL (encL decL isL)
def coefsM (m : List (Str × Int)) (xs : List (List UInt8)) : List Coef := xs.map fun s => ⟨⟨s⟩, atM m s⟩
def resW (n : Int) (m : List (Str × Int)) (l : List Coef) : AV × List AObj × List AObj :=
 if validL ⟨n, l⟩ then
  if l.isEmpty then (.tup [.pv (.agg [.int .i64 n, .sl 0 true []]), .pv (.int .i64 0)], [.box [.pv (.int .i64 n), .map 1], .map (mapP m)], [])
  else (.tup [.agg [.pv (.int .i64 n), .row 2 l.length 0 l.length], .pv (.int .i64 0)], [.box [.pv (.int .i64 n), .map 1], .map (mapP m)], [.row true 61 2 (l.map enc)])
 else (.tup [.pv (.agg [.int .i64 0, .sl 0 true []]), .pv (.int .i64 3)], [.box [.pv (.int .i64 n), .map 1], .map (mapP m)], [])
theorem coefs_sm (n : Int) (m : List (Str × Int)) {xs : List (List UInt8)} (hx : xs.length <= 1000000) (hsx : ∀ x ∈ xs, x.length <= 1000000) : linSm ⟨n, coefsM m xs⟩ = true := by
 simp only [linSm, linOk, coefsM, List.length_map, Bool.and_eq_true, decide_eq_true_eq, List.all_eq_true, List.mem_map]
 refine ⟨by omega, ?_⟩
 rintro t ⟨x, hxm, rfl⟩
 exact hsx x hxm
theorem res_loop {E : ExtE} (n : Int) (m : List (Str × Int)) (xs : List (List UInt8)) (hx : xs.length <= 1000000) (hsx : ∀ x ∈ xs, x.length <= 1000000) : ∀ (j k : Nat), j + k = xs.length -> 0 < k ->
  AtM T_resx E 2 (endO' 2 rs_resx fun r => r = resW n m (coefsM m xs)) ic_resx 0 58 [(0, .ptr 0 0), (2, .ptr 2 0), (4, .ptr 3 0), (33, .row 4 xs.length 0 xs.length), (34, .pv (.int .i64 xs.length)), (35, .pv (.int .i64 k))]
   [.obj (.box [.pv (.int .i64 n), .map 1]), .obj (.map (mapP m)), .obj (.box [.pv (.int .i64 0), .pv (.sl 0 true [])]), .obj (.box [.pv (.int .i64 n), .row 5 k 0 k]), .obj (.row false 9 1 (xs.map .str)), .obj (.row false 61 2 ((coefsM m (xs.take k)).map enc))] := by
 intro j
 induction j with
 | zero =>
  intro k hk h0
  obtain rfl : k = xs.length := by omega
  refine resx_h0b E n m xs.length xs xs.length xs.length (coefsM m (xs.take xs.length)) ?_
  rw [if_neg (by simp)]
  have e1 : coefsM m (xs.take xs.length) = coefsM m xs := by rw [List.take_length]
  rw [e1]
  have e2 : List.drop 0 (List.take xs.length (List.map (enc : Coef -> PV) (coefsM m xs))) = (coefsM m xs).map enc := by rw [List.drop_zero, List.take_of_length_le (by simp [coefsM])]
  rw [e2]
  refine ⟨by simp [coefsM], pre_enc (⟨n, coefsM m xs⟩, ()) rfl (coefs_sm n m hx hsx), ex_enc (⟨n, coefsM m xs⟩, ()) rfl ?_⟩
  have hne : (coefsM m xs).isEmpty = false := by cases xs <;> simp [coefsM] at h0 ⊢
  by_cases hv : validL ⟨n, coefsM m xs⟩ = true
  ·rw [if_neg (by simp [hv])]
   unfold resW
   rw [if_pos hv, hne]
   simp [coefsM]
  ·rw [if_pos (by simpa using hv)]
   simp [resW, hv]
 | succ j ih =>
  intro k hk h0
  have hlt : k < xs.length := by omega
  refine resx_h0b E n m xs.length xs k k (coefsM m (xs.take k)) ?_
  rw [if_pos (by simp; omega)]
  have eg : List.getD (List.map PV.str xs) (0 + Int.toNat (k : Int)) default = .str xs[k] := by simp [List.getD, hlt]
  rw [eg]
  have ec : Sh.co Sh.str (List.getD (PV.cells (.str xs[k])) 0 default) = .str xs[k] := rfl
  rw [ec, lookD_map]
  refine ⟨by simp; omega, by simp; omega, rfl, by rw [lookOK_map]; rfl, ?_, ?_⟩
  ·simp [coefsM]; omega
  ·have h := ih (k + 1) (by omega) (by omega)
   have et : xs.take (k + 1) = xs.take k ++ [xs[k]] := by rw [List.take_add_one, List.getElem?_eq_getElem hlt]; rfl
   rw [et] at h
   rw [next (by omega)]
   simp only [coefsM, List.map_append, List.map_cons, List.map_nil] at h ⊢
   exact h
def resP : MapParts := ⟨[⟨(some 15), (.mv (.t 0)), 0, none⟩, ⟨(some 16), (.nilchk (.t 15)), 0, none⟩, ⟨(some 17), (.faddr 1 (.t 16)), 0, none⟩, ⟨(some 18), (.load false [.any] (.t 17)), 0, none⟩], .t 18, 19, 20, 21, 22, 1, [⟨(some 23), (.extract (.t 22) 0), 0, none⟩, ⟨(some 24), (.extract (.t 22) 1), 0, none⟩, ⟨(some 6), (.mv (.t 23)), 0, none⟩, ⟨(some 7), (.mv (.t 24)), 0, none⟩], ic_resra⟩
def resE : ExtE := fun nn st q => nn = 0 ∧ MapE T_resx 2 resP st q
def kz (vis : List (PV × PV)) : List (List UInt8) := vis.filterMap fun p => match p with | (.str s, .int _ c) => if c = 0 then none else some s | _ => none
def namesM (m : List (Str × Int)) : List (List UInt8) := sortS (kz (mapP m))
def resH (n : Int) : Heap := [.obj (.box [.pv (.int .i64 n), .map 1]), .dead, .obj (.box [.pv (.int .i64 0), .pv (.sl 0 true [])]), .obj (.box [.pv (.int .i64 n), .pv (.sl 0 true [])]), .dead]
def resEnv (x : AV) : List AV := envJ 58 0 [(0, .ptr 0 0), (2, .ptr 2 0), (4, .ptr 3 0), (5, x), (18, .map 1), (19, .ptr 4 0)]
def resI (n : Int) (vis : List (PV × PV)) (s : St) : Prop :=
 (kz vis = [] ∧ s = ⟨resEnv (.pv (.sl 0 true [])), resH n⟩) ∨ (kz vis ≠ [] ∧ s = ⟨resEnv (.row 5 (kz vis).length 0 (kz vis).length), resH n ++ [.obj (.row false 9 1 ((kz vis).map .str))]⟩)
theorem sortS_perm {a b : List (List UInt8)} (h : a.Perm b) : sortS a = sortS b := by
 have tr : ∀ x y z : List UInt8, decide (x <= y) = true -> decide (y <= z) = true -> decide (x <= z) = true := fun x y z h k => by simp only [decide_eq_true_eq] at *; exact List.le_trans h k
 have to : ∀ x y : List UInt8, (decide (x <= y) || decide (y <= x)) = true := fun x y => by simp only [Bool.or_eq_true, decide_eq_true_eq]; exact List.le_total x y
 refine List.Perm.eq_of_pairwise (le := fun x y => decide (x <= y) = true) (fun x y _ _ h1 h2 => ?_) (List.pairwise_mergeSort tr to a) (List.pairwise_mergeSort tr to b) (((List.mergeSort_perm a _).trans h).trans (List.mergeSort_perm b _).symm)
 simp only [decide_eq_true_eq] at h1 h2
 exact List.le_antisymm h1 h2
theorem res_round (n : Int) (vis : List (PV × PV)) (s : List UInt8) (c : Int) (st : St) (hl : (kz vis).length < 1000000) (h : resI n vis st) :
  ∃ s2, runA T_resx st.heap.length resP.psE (grow ⟨((st.env.set 20 .junk).set 21 .junk).set 22 (.pv (.tup [.str s, .int .i64 c])), st.heap⟩ (news resP.psE)) = some s2 ∧ ∃ F', (∀ x, ¬ F' x) ∧
   GetsX T_resx (fun n' S' _ => n' = 99 ∧ resI n (vis ++ [(.str s, .int .i64 c)]) S') st.heap.length F' (.inl ic_resra) [.blk 1, .seq (.ext 99 [0, 2, 4, 5, 18, 19])] s2 := by
 have hno : ∀ k, ∀ x, ¬ endO' k rs_resra (fun _ => False) x := by rintro k x ⟨r, _, h⟩; exact h
 have ek : kz (vis ++ [(.str s, .int .i64 c)]) = kz vis ++ (if c = 0 then [] else [s]) := by
  unfold kz
  rw [List.filterMap_append]
  by_cases hc : c = 0 <;> simp [hc]
 rcases h with ⟨h1, rfl⟩ | ⟨h1, rfl⟩
 ·refine ⟨_, by kernel_rfl, _, hno 5, resra_r0 (G := fun _ => False) _ n s c ?_⟩
  by_cases hc : c = 0
  ·rw [if_neg (by simp [hc])]
   refine ⟨rfl, .inl ⟨by rw [ek, h1]; simp [hc], rfl⟩⟩
  ·rw [if_pos (by simpa using hc)]
   refine ⟨rfl, .inr ⟨by rw [ek, h1]; simp [hc], ?_⟩⟩
   rw [ek, h1]
   simp [hc]
   exact ⟨rfl, rfl⟩
 ·refine ⟨_, by kernel_rfl, _, hno 6, resrb_r0 (G := fun _ => False) _ n s c (kz vis).length (kz vis) ?_⟩
  by_cases hc : c = 0
  ·rw [if_neg (by simp [hc])]
   refine ⟨rfl, .inr ⟨by rw [ek]; simp [hc, h1], ?_⟩⟩
   rw [ek]
   simp [hc]
   exact ⟨rfl, rfl⟩
  ·rw [if_pos (by simpa using hc)]
   refine ⟨by simp; omega, rfl, .inr ⟨by rw [ek]; simp [hc], ?_⟩⟩
   rw [ek]
   simp [hc]
   exact ⟨rfl, rfl⟩
theorem res_first {E : ExtE} (n : Int) (m : List (Str × Int)) (xs : List (List UInt8)) (hx : xs.length <= 1000000) (hsx : ∀ x ∈ xs, x.length <= 1000000) (h0 : 0 < xs.length) :
  AtM T_resx E 2 (endO' 2 rs_resx fun r => r = resW n m (coefsM m xs)) ic_resx 0 58 [(0, .ptr 0 0), (2, .ptr 2 0), (4, .ptr 3 0), (33, .row 4 xs.length 0 xs.length), (34, .pv (.int .i64 xs.length)), (35, .pv (.int .i64 0))]
   [.obj (.box [.pv (.int .i64 n), .map 1]), .obj (.map (mapP m)), .obj (.box [.pv (.int .i64 0), .pv (.sl 0 true [])]), .obj (.box [.pv (.int .i64 n), .pv (.sl 0 true [])]), .obj (.row false 9 1 (xs.map .str))] := by
 refine resx_h0a E n m xs.length xs 0 ?_
 rw [if_pos (by simp; omega)]
 have eg : List.getD (List.map PV.str xs) (0 + Int.toNat (0 : Int)) default = .str xs[0] := by simp [List.getD, h0]
 rw [eg]
 have ec : Sh.co Sh.str (List.getD (PV.cells (.str xs[0])) 0 default) = .str xs[0] := rfl
 rw [ec, lookD_map]
 refine ⟨by simp; omega, by simp; omega, rfl, by rw [lookOK_map]; rfl, ?_⟩
 have h := res_loop (E := E) n m xs hx hsx (xs.length - 1) 1 (by omega) (by omega)
 have et : xs.take 1 = [xs[0]] := by cases xs <;> simp at h0 ⊢
 rw [et] at h
 exact h
theorem resx_run (n : Int) (m : List (Str × Int)) (hm : m.length < 1000000) (hkm : ∀ x ∈ namesM m, x.length <= 1000000) :
  GetsM T_resx resE 2 (endO' 2 rs_resx fun r => r = resW n m (coefsM m (namesM m))) ic_resx [] (st0O 58 [.ptr 0 0] [.box [.pv (.int .i64 n), .map 1], .map (mapP m)]) := by
 refine resx_s resE n m ?_
 have elen : ∀ x, (resEnv x).length = 58 := fun x => rfl
 refine ⟨rfl, ⟨((((envJ 58 0 [(0, .ptr 0 0), (2, .ptr 2 0), (4, .ptr 3 0), (5, .pv (.sl 0 true [])), (6, .undef), (7, .undef), (15, .undef), (16, .undef), (17, .undef), (18, .undef), (19, .undef), (20, .undef), (21, .undef), (22, .undef), (23, .undef), (24, .undef), (25, .undef), (26, .undef), (27, .undef), (28, .undef), (29, .undef), (30, .undef)]).set 15 (.ptr 0 0)).set 16 (.ptr 0 0)).set 17 (.ptr 0 1)).set 18 (.map 1),
   [.obj (.box [.pv (.int .i64 n), .map 1]), .obj (.map (mapP m)), .obj (.box [.pv (.int .i64 0), .pv (.sl 0 true [])]), .obj (.box [.pv (.int .i64 n), .pv (.sl 0 true [])])]⟩, ⟨resEnv (.pv (.sl 0 true [])), resH n⟩, 1, 4, 18, 1, mapP m, [0, 2, 4, 5, 18, 19], [0, 2, 4, 5, 18, 19], resI n, by kernel_rfl, rfl, rfl, by kernel_rfl, rfl, by decide, rfl, .inl ⟨rfl, rfl⟩, ?_, ?_, ?_⟩
 ·intro vis s h
  rcases h with ⟨_, rfl⟩ | ⟨_, rfl⟩
  ·exact ⟨⟨rfl, by show 20 < _; rw [elen]; omega, by show 21 < _; rw [elen]; omega, by show 22 < _; rw [elen]; omega⟩, rfl⟩
  ·exact ⟨⟨rfl, by show 20 < _; rw [elen]; omega, by show 21 < _; rw [elen]; omega, by show 22 < _; rw [elen]; omega⟩, rfl⟩
 ·intro vis kv s rest hp hI
  have hin : kv ∈ mapP m := hp.mem_iff.2 (by simp)
  obtain ⟨p, _, rfl⟩ := List.mem_map.1 hin
  have hl := hp.length_eq
  simp [mapP] at hl
  have hk : (kz vis).length <= vis.length := List.length_filterMap_le _ _
  exact res_round n vis p.1.s p.2 s (by omega) hI
 ·intro vis s hp hI
  have hpk : (kz vis).Perm (kz (mapP m)) := hp.filterMap _
  have hs : sortS (kz vis) = namesM m := sortS_perm hpk
  have hkl : (kz vis).length <= 1000000 := by
   have h1 : (kz vis).length <= vis.length := List.length_filterMap_le _ _
   have h2 := hp.length_eq
   simp [mapP] at h2
   omega
  rcases hI with ⟨h1, rfl⟩ | ⟨h1, rfl⟩
  ·refine resx_x0a resE n m ?_
   have hn : namesM m = [] := by rw [<- hs, h1]; simp [sortS]
   rw [hn]
   refine resx_h0n resE n m 0 ?_
   rw [if_neg (by simp)]
   refine ex_val (⟨n, []⟩, ()) (by simp) ?_
   by_cases hv : validL ⟨n, []⟩ = true
   ·rw [if_neg (by simp [hv])]
    simp [resW, coefsM, hv]
   ·rw [if_pos (by simpa using hv)]
    simp [resW, coefsM, hv]
  ·refine resx_x0b resE n m (kz vis).length (kz vis) ?_
   have e1 : List.map strOf (List.map PV.str (kz vis)) = kz vis := by rw [List.map_map]; exact List.map_id _
   rw [e1, hs]
   have e2 : (namesM m).length = (kz vis).length := by rw [<- hs]; exact (List.mergeSort_perm _ _).length_eq
   refine ⟨?_, ?_⟩
   ·simp [pre_sorts, isStrP]
    omega
   ·have := res_first (E := resE) n m (namesM m) (by omega) hkm (by rw [e2]; exact List.length_pos_iff.2 h1)
    rw [e2] at this
    simpa using this
end Go.Pl

namespace Go.Pl
open Go.RowKit
open Enc (enc dec is)
open EncL (encL decL isL)
def addW (n : Int) (m : List (Str × Int)) : AV × List AObj × List AObj := (.tup [], [.box [.pv (.int .i64 n), .map 1], .map (mapP m)], [])
theorem ladd_loop (n : Int) (l : Lin) (k : Int) (hl : l.t.length <= 1000000) : ∀ (j i : Nat) (m : List (Str × Int)), j + i = l.t.length ->
  At T_ladd 2 (endO' 2 rs_ladd fun r => r = addW n (addT k (l.t.drop i) m)) ic_ladd 0 39 [(0, .ptr 0 0), (2, .pv (.int .i64 k)), (20, .pv (enc l.t)), (21, .pv (.int .i64 l.t.length)), (22, .pv (.int .i64 i))] [.obj (.box [.pv (.int .i64 n), .map 1]), .obj (.map (mapP m))] := by
 intro j
 induction j with
 | zero =>
  intro i m hi
  refine ladd_h0 n m l k i ?_
  rw [if_neg (by simp; omega), List.drop_of_length_le (by omega)]
  rfl
 | succ j ih =>
  intro i m hi
  have hlt : i < l.t.length := by omega
  refine ladd_h0 n m l k i ?_
  rw [if_pos (by simp; omega)]
  refine ⟨by simp [Enc.sz]; omega, l.t[i], by simp [List.getD, hlt], ?_⟩
  have ec : Sh.co Sh.str (List.getD (PV.cells (enc l.t[i])) 0 default) = .str l.t[i].v.s := rfl
  rw [ec, lookD_map]
  have ev : PV.asInt (List.getD (PV.cells (enc l.t[i])) (0 + 1) default) = l.t[i].c := rfl
  have ea : PV.asInt (.int .i64 (atM m l.t[i].v.s)) = atM m l.t[i].v.s := rfl
  rw [ev, ea]
  have eu := upd_map l.t[i].v (IntKind.i64.wrap (atM m l.t[i].v.s + IntKind.i64.wrap (k * l.t[i].c))) m
  refine ⟨by rw [lookOK_map]; rfl, ?_, ?_⟩
  ·show (upd _ _ _).isSome = true
   exact (congrArg Option.isSome eu).trans rfl
  ·have h := ih (i + 1) (updM l.t[i].v (IntKind.i64.wrap (atM m l.t[i].v.s + IntKind.i64.wrap (k * l.t[i].c))) m) (by omega)
   rw [next (by omega)]
   have ed : l.t.drop i = l.t[i] :: l.t.drop (i + 1) := List.drop_eq_getElem_cons hlt
   rw [ed]
   have e2 : updL (.str l.t[i].v.s) (.int .i64 (IntKind.i64.wrap (atM m l.t[i].v.s + IntKind.i64.wrap (k * l.t[i].c)))) (mapP m) = mapP (updM l.t[i].v (IntKind.i64.wrap (atM m l.t[i].v.s + IntKind.i64.wrap (k * l.t[i].c))) m) := by
    unfold updL
    rw [eu]
    rfl
   rw [<- e2] at h
   exact h
theorem ladd_run (n : Int) (m : List (Str × Int)) (l : Lin) (k : Int) (hl : l.t.length <= 1000000) :
  Gets T_ladd 2 (endO' 2 rs_ladd fun r => r = addW (IntKind.i64.wrap (n + IntKind.i64.wrap (k * l.k))) (addT k l.t m)) ic_ladd [] (st0O 39 [.ptr 0 0, .pv (enc l), .pv (.int .i64 k)] [.box [.pv (.int .i64 n), .map 1], .map (mapP m)]) := by
 refine ladd_s n m l k ?_
 have h := ladd_loop (IntKind.i64.wrap (n + IntKind.i64.wrap (k * l.k))) l k hl l.t.length 0 m rfl
 rw [List.drop_zero] at h
 have e : List.length (List.map (enc : Coef -> PV) l.t) = l.t.length := by simp
 rw [e]
 exact h
end Go.Pl

namespace Go.Pl
open Go.RowKit
open Enc (enc dec is)
open EncL (encL decL isL)
set_option maxRecDepth 100000
end Go.Pl

namespace Go.Pl
open Go.RowKit
open Enc (enc dec is)
open EncL (encL decL isL)
end Go.Pl

namespace Go.Pl
open Go.RowKit
open Enc (enc dec is)
open EncL (encL decL isL)
set_option maxRecDepth 100000
end Go.Pl

namespace Go.Pl
open Go.RowKit
open Enc (enc dec is)
open EncL (encL decL isL)
end Go.Pl

namespace Go.Pl
open Go.RowKit
open Enc (enc dec is)
open EncL (encL decL isL)
def mapD (es : List (PV × PV)) : List (Str × Int) := es.map fun p => (⟨strOf p.1⟩, p.2.asInt)
def canE : PV × PV -> Bool
 | (.str _, .int .i64 _) => true
 | _ => false
def canM (es : List (PV × PV)) : Bool := es.all canE
theorem mapD_map (m : List (Str × Int)) : mapD (mapP m) = m := by
 simp only [mapD, mapP, List.map_map]
 exact List.map_id _
theorem canM_map (m : List (Str × Int)) : canM (mapP m) = true := by
 simp only [canM, mapP, List.all_map, List.all_eq_true]
 intro p _
 rfl
theorem canM_eq : ∀ {es : List (PV × PV)}, canM es = true -> ∃ m, es = mapP m
 | [], _ => ⟨[], rfl⟩
 | (a, b) :: es, h => by
  simp only [canM, List.all_cons, Bool.and_eq_true] at h
  obtain ⟨m, rfl⟩ := canM_eq (es := es) h.2
  match a, b, h.1 with
  | .str s, .int .i64 n, _ => exact ⟨(⟨s⟩, n) :: m, rfl⟩
def mapSm (m : List (Str × Int)) : Bool := decide (m.length < 1000000) && (keysM m).all fun x => decide (x.length <= 1000000)
def pre_res : List AV -> List AObj -> Bool
 | [.ptr 0 0], [.box [.pv (.int .i64 n), .map 1], .map es] => canM es && mapSm (mapD es)
 | _, _ => false
def val_res : List AV -> List AObj -> AV × List AObj × List AObj
 | _, [.box [.pv (.int .i64 n), .map 1], .map es] => (.pv (enc (resM n (mapD es))), [.box [.pv (.int .i64 n), .map 1], .map es], [])
 | _, _ => combN
def pre_add : List AV -> List AObj -> Bool
 | [.ptr 0 0, .pv l, .pv (.int .i64 k)], [.box [.pv (.int .i64 n), .map 1], .map es] => canM es && can Lin l && decide ((dec l : Lin).t.length <= 1000000)
 | _, _ => false
def addV (n : Int) (es : List (PV × PV)) (l : Lin) (k : Int) : AV × List AObj × List AObj := (.tup [], [.box [.pv (.int .i64 (w64 (n + w64 (k * l.k)))), .map 1], .map (mapP (addT k l.t (mapD es)))], [])
def val_add : List AV -> List AObj -> AV × List AObj × List AObj
 | [_, .pv l, .pv (.int .i64 k)], [.box [.pv (.int .i64 n), .map 1], .map es] => addV n es (dec l) k
 | _, _ => combN
def combineL (a b : Lin) (k : Int) : Lin × Int := if validL a then (if validL b then resM (w64 (w64 (0 + w64 (1 * a.k)) + w64 (k * b.k))) (addT k b.t (addT 1 a.t [])) else (⟨0, []⟩, 1)) else (⟨0, []⟩, 1)
def scaleL (l : Lin) (k : Int) : Lin × Int := combineL ⟨0, []⟩ l (max (-1000001) (min k 1000001))
mutual
def cSm : Cert -> Bool
 | .mk _ m l ks => decide (m.length <= 9223372036854775807) && linSm l && decide (ks.length <= 9223372036854775807) && cSms ks
def cSms : List Cert -> Bool
 | [] => true
 | c :: cs => cSm c && cSms cs
end
mutual
theorem cSm_ok : ∀ {c : Cert}, cSm c = true -> cOk c = true
 | .mk k m l ks, h => by
  simp only [cSm, cOk, linSm, Bool.and_eq_true] at h ⊢
  exact ⟨⟨⟨h.1.1.1, h.1.1.2.1⟩, h.1.2⟩, cSms_ok h.2⟩
theorem cSms_ok : ∀ {cs : List Cert}, cSms cs = true -> cOks cs = true
 | [], _ => rfl
 | c :: cs, h => by
  simp only [cSms, cOks, Bool.and_eq_true] at h ⊢
  exact ⟨cSm_ok h.1, cSms_ok h.2⟩
end
theorem name_len {s : Str} (h : nameB s = true) : s.s.length <= 30 := by
 unfold nameB at h
 split at h
 ·cases h
 ·rename_i c r hs
  rw [hs]
  split at h
  ·simp only [Bool.and_eq_true, decide_eq_true_eq] at h
   have := h.2
   simp only [List.length_cons]
   omega
  ·simp only [Bool.and_eq_true, decide_eq_true_eq] at h
   have := h.2
   simp only [List.length_cons]
   omega
theorem valid_len {l : Lin} (h : validL l = true) : l.t.length <= 12 := by
 simp only [validL, Bool.and_eq_true, decide_eq_true_eq] at h
 exact h.2
theorem valid_coef {l : Lin} (h : validL l = true) {t : Coef} (ht : t ∈ l.t) : nameB t.v = true ∧ t.c ≠ 0 ∧ -1000000 <= t.c ∧ t.c <= 1000000 := by
 simp only [validL, Bool.and_eq_true, decide_eq_true_eq, List.all_eq_true] at h
 have := h.1.1.1 t ht
 simp only [coefIn, Bool.and_eq_true, decide_eq_true_eq] at this
 exact ⟨this.1.1, this.1.2, this.2⟩
theorem valid_k {l : Lin} (h : validL l = true) : -1000000 <= l.k ∧ l.k <= 1000000 := by
 simp only [validL, coefIn, Bool.and_eq_true, decide_eq_true_eq] at h
 exact h.1.2
theorem valid_sm {l : Lin} (h : validL l = true) : linSm l = true := by
 have h1 := valid_len h
 simp only [linSm, linOk, Bool.and_eq_true, decide_eq_true_eq, List.all_eq_true]
 refine ⟨by omega, fun t ht => ?_⟩
 have := name_len (valid_coef h ht).1
 omega
theorem addT_keys (k : Int) : ∀ (l : List Coef) (m : List (Str × Int)) (x : List UInt8), x ∈ keysM (addT k l m) -> x ∈ keysM m ∨ ∃ t ∈ l, t.v.s = x
 | [], m, x, h => .inl h
 | t :: l, m, x, h => by
  rw [addT] at h
  rcases addT_keys k l _ x h with h | ⟨u, hu, rfl⟩
  ·rcases upd_keys t.v (IntKind.i64.wrap (atM m t.v.s + IntKind.i64.wrap (k * t.c))) m with e | ⟨_, e⟩
   ·rw [e] at h; exact .inl h
   ·rw [e, List.mem_append] at h
    rcases h with h | h
    ·exact .inl h
    ·exact .inr ⟨t, by simp, (List.mem_singleton.1 h).symm⟩
  ·exact .inr ⟨u, by simp [hu], rfl⟩
theorem res_valid {n : Int} {m : List (Str × Int)} (h : (resM n m).2 = 0) : validL (resM n m).1 = true := by
 unfold resM at h ⊢
 split
 ·assumption
 ·rename_i h'
  rw [if_neg h'] at h
  cases h
theorem comb_valid {a b : Lin} {k : Int} (h : (combineL a b k).2 = 0) : validL a = true ∧ validL b = true ∧ validL (combineL a b k).1 = true := by
 unfold combineL at h ⊢
 cases ha : validL a
 ·rw [ha, if_neg (by decide)] at h; cases h
 cases hb : validL b
 ·rw [ha, hb, if_pos rfl, if_neg (by decide)] at h; cases h
 rw [ha, hb, if_pos rfl, if_pos rfl] at h
 rw [if_pos rfl, if_pos rfl]
 exact ⟨rfl, rfl, res_valid h⟩
end Go.Pl

namespace Go.Pl
open Go.RowKit
open Enc (enc dec is)
open EncL (encL decL isL)
theorem w64_id {n : Int} (h1 : -9223372036854775808 <= n) (h2 : n <= 9223372036854775807) : w64 n = n := wrap64 h1 h2
def bndM (m : List (Str × Int)) (B : Int) : Prop := ∀ p ∈ m, -B <= p.2 ∧ p.2 <= B
theorem atM_bnd {m : List (Str × Int)} {B : Int} (hB : 0 <= B) (h : bndM m B) (s : List UInt8) : -B <= atM m s ∧ atM m s <= B := by
 unfold atM
 cases e : m.find? fun p => p.1.s == s with
 | none => simp; omega
 | some p =>
  have := h p (List.mem_of_find?_eq_some e)
  simpa using this
theorem upd_mem {s : Str} {c : Int} {p : Str × Int} : ∀ {m : List (Str × Int)}, p ∈ updM s c m -> p.2 = c ∨ p ∈ m
 | [], h => by simp [updM] at h; left; rw [h]
 | q :: m, h => by
  rw [updM] at h
  split at h
  ·rcases List.mem_cons.1 h with rfl | h
   ·exact .inl rfl
   ·exact .inr (by simp [h])
  ·rcases List.mem_cons.1 h with rfl | h
   ·exact .inr (by simp)
   ·exact (upd_mem h).imp id fun h => by simp [h]
theorem mul_bnd {k c : Int} (hk1 : -1000000000 <= k) (hk2 : k <= 1000000000) (hc1 : -1000000 <= c) (hc2 : c <= 1000000) : -1000000000000000 <= k * c ∧ k * c <= 1000000000000000 := by
 have h : (k * c).natAbs <= 1000000000 * 1000000 := by
  rw [Int.natAbs_mul]
  exact Nat.mul_le_mul (by omega) (by omega)
 omega
theorem addT_bnd {k : Int} (hk1 : -1000000000 <= k) (hk2 : k <= 1000000000) : ∀ (l : List Coef) (m : List (Str × Int)) (B : Int), 0 <= B -> B + l.length * 1000000000000000 <= 4000000000000000000 -> (∀ t ∈ l, -1000000 <= t.c ∧ t.c <= 1000000) -> bndM m B -> bndM (addT k l m) (B + l.length * 1000000000000000)
 | [], m, B, _, _, _, h => by simpa [addT] using h
 | t :: l, m, B, hB, hl, ht, h => by
  rw [addT]
  have h1 := ht t (by simp)
  have h2 := mul_bnd hk1 hk2 h1.1 h1.2
  have h3 := atM_bnd hB h t.v.s
  have e : (((t :: l).length : Nat) : Int) * 1000000000000000 = 1000000000000000 + (l.length : Int) * 1000000000000000 := by rw [List.length_cons]; omega
  rw [e] at hl ⊢
  have w1 : IntKind.i64.wrap (k * t.c) = k * t.c := w64_id (by omega) (by omega)
  have w2 : IntKind.i64.wrap (atM m t.v.s + k * t.c) = atM m t.v.s + k * t.c := w64_id (by omega) (by omega)
  rw [w1, w2]
  have := addT_bnd hk1 hk2 l (updM t.v (atM m t.v.s + k * t.c) m) (B + 1000000000000000) (by omega) (by omega) (fun u hu => ht u (by simp [hu])) (fun p hp => by
   rcases upd_mem hp with e | hp
   ·rw [e]; omega
   ·have := h p hp; omega)
  rw [show B + (1000000000000000 + (l.length : Int) * 1000000000000000) = B + 1000000000000000 + (l.length : Int) * 1000000000000000 by omega]
  exact this
end Go.Pl

namespace Go.Pl
open Go.RowKit
open Enc (enc dec is)
open EncL (encL decL isL)
theorem add_run : ∀ args os, pre_add args os = true -> Gets T_ladd os.length (endO' os.length rs_ladd fun r => r = val_add args os) ic_ladd [] (st0O nt_ladd args os) := by
 intro args os h
 unfold pre_add at h
 split at h
 ·rename_i l k n es
  simp only [Bool.and_eq_true, decide_eq_true_eq] at h
  obtain ⟨⟨h1, h2⟩, h3⟩ := h
  obtain ⟨m, rfl⟩ := canM_eq h1
  obtain ⟨l, rfl⟩ := can_eq h2
  rw [Enc.dec_enc] at h3
  have hv : val_add [.ptr 0 0, .pv (enc l), .pv (.int .i64 k)] [.box [.pv (.int .i64 n), .map 1], .map (mapP m)] = addW (IntKind.i64.wrap (n + IntKind.i64.wrap (k * l.k))) (addT k l.t m) := by
   show addV n (mapP m) (dec (enc l)) k = _
   rw [Enc.dec_enc, addV, mapD_map]
   rfl
  rw [hv]
  exact ladd_run n m l k h3
 ·cases h
theorem kz_map : ∀ m : List (Str × Int), kz (mapP m) = keysM (nzM m)
 | [] => rfl
 | (s, c) :: m => by
  have ih := kz_map m
  simp only [kz, mapP, keysM, nzM] at ih ⊢
  by_cases h : c = 0
  ·subst h
   simp [ih]
  ·simp [h, ih]
theorem names_terms (m : List (Str × Int)) : coefsM m (namesM m) = termsM m := by
 unfold coefsM namesM termsM
 rw [kz_map]
 rfl
def val_resW : List AV -> List AObj -> AV × List AObj × List AObj
 | _, [.box [.pv (.int .i64 n), .map 1], .map es] => resW n (mapD es) (termsM (mapD es))
 | _, _ => combN
theorem resW_run : ∀ args os, pre_res args os = true -> GetsM T_resx resE os.length (endO' os.length rs_resx fun r => r = val_resW args os) ic_resx [] (st0O nt_resx args os) := by
 intro args os h
 unfold pre_res at h
 split at h
 ·rename_i n es
  simp only [Bool.and_eq_true, mapSm, decide_eq_true_eq, List.all_eq_true] at h
  obtain ⟨h1, h2, h3⟩ := h
  obtain ⟨m, rfl⟩ := canM_eq h1
  rw [mapD_map] at h2 h3
  have hv : val_resW [.ptr 0 0] [.box [.pv (.int .i64 n), .map 1], .map (mapP m)] = resW n m (coefsM m (namesM m)) := by
   show resW n (mapD (mapP m)) (termsM (mapD (mapP m))) = _
   rw [mapD_map, names_terms]
  rw [hv]
  refine resx_run n m h2 fun x hx => h3 x ?_
  have hx : x ∈ kz (mapP m) := (List.mergeSort_perm _ _).mem_iff.1 hx
  rw [kz_map] at hx
  obtain ⟨p, hp, rfl⟩ := List.mem_map.1 hx
  exact List.mem_map.2 ⟨p, (List.mem_filter.1 hp).1, rfl⟩
 ·cases h
theorem resW_len : ∀ args os, pre_res args os = true -> (val_resW args os).2.1.length = os.length := by
 intro args os h
 unfold pre_res at h
 split at h
 ·show (resW _ _ _).2.1.length = _
  unfold resW
  split
  ·split <;> rfl
  ·rfl
 ·cases h
theorem sub_nolin (n c : Int) : Sub (.tup [.agg [.int .i64 n, .sl 0 true []], .int .i64 c]) (enc (((⟨n, []⟩ : Lin), c) : Lin × Int)) := .pair (.agg_cons (.refl _) (.agg_cons (Sub.sl0 _ _ _) .agg_nil)) (.refl _)
theorem res_frz {P : Program} {f : Nat} (h : OwnOK P f pre_res val_resW) : OwnOK P f pre_res val_res := by
 refine h.frz fun args os hp => ?_
 unfold pre_res at hp
 split at hp
 ·rename_i n es
  have hv : val_resW [.ptr 0 0] [.box [.pv (.int .i64 n), .map 1], .map es] = resW n (mapD es) (termsM (mapD es)) := rfl
  have hv' : val_res [.ptr 0 0] [.box [.pv (.int .i64 n), .map 1], .map es] = (.pv (enc (resM n (mapD es))), [.box [.pv (.int .i64 n), .map 1], .map es], []) := rfl
  simp only [Bool.and_eq_true] at hp
  obtain ⟨m, rfl⟩ := canM_eq hp.1
  rw [hv, hv', mapD_map]
  unfold resW resM
  generalize termsM m = l
  by_cases hl : validL ⟨n, l⟩ = true
  ·rw [if_pos hl, if_pos hl]
   by_cases hz : l.isEmpty = true
   ·rw [if_pos hz]
    obtain rfl : l = [] := by simpa using hz
    exact ⟨_, _, _, _, _, _, _, _, rfl, rfl, rfl, sub_nolin n 0, rfl⟩
   ·rw [if_neg hz]
    refine ⟨_, _, _, .tup [.agg [.int .i64 n, .sl 2 false (l.map enc)], .int .i64 0], [.obj (.box [.pv (.int .i64 n), .map 1]), .obj (.map (mapP m)), .obj (.row true 61 2 (l.map enc))], _, _, _, rfl, ?_, rfl, .refl _, rfl⟩
    have e : List.drop 0 (List.take l.length (List.map (enc : Coef -> PV) l)) = l.map enc := by rw [List.drop_zero, List.take_of_length_le (by simp)]
    simp only [frz, frzL, HM.run_bind, objs, List.map_cons, List.map_nil, List.cons_append, List.nil_append]
    simp [HM.run, HM.req]
    exact List.take_of_length_le (by simp)
  ·rw [if_neg hl, if_neg hl]
   exact ⟨_, _, _, _, _, _, _, _, rfl, rfl, rfl, sub_nolin 0 3, rfl⟩
 ·cases hp
end Go.Pl

namespace Go.Pl
open Go.RowKit
open Enc (enc dec is)
open EncL (encL decL isL)
set_option maxRecDepth 100000
def ic_ev1 : IC := (.seq (.reg [⟨(some 2), (.box 2 (.t 0)), 0, none⟩, ⟨(some 3), (.mv (.c (.bool false))), 1, none⟩] none) (.seq (.reg [⟨(some 4), (.faddr 0 (.t 2)), 0, none⟩, ⟨(some 5), (.load false [.str] (.t 4)), 0, none⟩, ⟨(some 6), (.faddr 0 (.t 1)), 0, none⟩, ⟨(some 7), (.load false [.str] (.t 6)), 0, none⟩, ⟨(some 8), (.bin .num .eql (.t 5) (.t 7)), 0, none⟩, ⟨(some 3), (.mv (.t 8)), 0, none⟩] none) .ret))
def rs_ev1 : List IRes := [(.tmp 3)]
abbrev nt_ev1 : Nat := 9
def T_ev1 : Tab := tab []
theorem ev1_s {G : AV × List AObj × List AObj -> Prop} (x : Coef) (v : List UInt8) (c : Int) (h : G (((.pv (.bool (Str.s (Coef.v x) == v))), ([(.box [(.pv (.str v)), (.pv (.int .i64 c))])], [])))) : Gets T_ev1 1 (endO' 1 rs_ev1 G) ic_ev1 [] (st0O 9 [.pv (enc x), .ptr 0 0] [.box [.pv (.str v), .pv (.int .i64 c)]]) := Gets.to (.lit (.nil)) h (by kernel_rfl)
def ic_ixe : IC := (.seq (.reg [⟨(some 4), (.mv (.c (.int .i64 0))), 0, none⟩] none) (.seq (.seq (.reg [⟨(some 6), (.mv (.t 0)), 0, none⟩, ⟨(some 7), (.len 1 (.t 6)), 0, none⟩, ⟨(some 8), (.mv (.c (.int .i64 0))), 0, none⟩] none) (.block 0 (.loop [8, 7, 1, 0] (.seq (.reg [⟨(some 9), (.bin .num .lss (.t 8) (.t 7)), 0, none⟩] none) (.seq (.cond (.t 9) .skip (.exit 0)) (.seq (.block 1 (.seq (.reg [⟨(some 10), (.mv (.t 8)), 0, none⟩, ⟨(some 5), (.mv (.t 10)), 0, none⟩] none) (.seq (.reg [⟨(some 11), (.mv (.t 1)), 0, none⟩, ⟨(some 12), (.mv (.t 0)), 0, none⟩, ⟨(some 13), (.mv (.t 5)), 0, none⟩, ⟨(some 14), (.iaddr 2 (.t 12) (.t 13)), 0, none⟩, ⟨(some 15), (.load true [.str, (.int .i64)] (.t 14)), 0, none⟩, ⟨(some 16), (.call (.t 11) [(.t 15)]), 0, none⟩] none) (.cond (.t 16) (.seq (.reg [⟨(some 17), (.mv (.t 5)), 0, none⟩, ⟨(some 4), (.mv (.t 17)), 0, none⟩] none) .ret) .skip)))) (.reg [⟨(some 18), (.bin .num .add (.t 8) (.c (.int .i64 1))), 0, none⟩, ⟨(some 8), (.mv (.t 18)), 0, none⟩] none))))))) (.seq (.reg [⟨(some 4), (.mv (.c (.int .i64 (-1)))), 0, none⟩] none) .ret)))
def rs_ixe : List IRes := [(.tmp 4)]
abbrev nt_ixe : Nat := 19
def T_ixe : Tab := tab [(110, .own pre_e1 val_e1)]
theorem ixe_s {G : AV × List AObj × List AObj -> Prop} (l : List Coef) (v : List UInt8) (c : Int) (h : At T_ixe 1 (endO' 1 rs_ixe G) ic_ixe 0 19 [(0, (.pv (.sl 2 false (List.map enc l)))), (1, (.fn 110 [] [(.ptr 0 0)])), (7, (.pv (.int .i64 (↑(List.length (List.map enc l)) : Int)))), (8, (.pv (.int .i64 0)))] [(.obj (.box [(.pv (.str v)), (.pv (.int .i64 c))]))]) : Gets T_ixe 1 (endO' 1 rs_ixe G) ic_ixe [] (st0O 19 [.pv (enc l), .fn 110 [] [.ptr 0 0]] [.box [.pv (.str v), .pv (.int .i64 c)]]) := Gets.to (.nil) h (by kernel_rfl)
theorem ixe_h0 {G : AV × List AObj × List AObj -> Prop} (l : List Coef) (v : List UInt8) (c : Int) (i : Int) (h : if (decide (i < (↑(List.length l) : Int))) = true then (decide (0 <= i) && decide (Int.toNat i < List.length (List.map enc l)) && Enc.sz Coef == 2) = true ∧ (∃ y0 : Coef, AV.pv (PV.rptr (PV.cells (List.getD (List.map enc l) (Int.toNat i) default))) = AV.pv (PV.rptr (PV.cells ((enc) y0))) ∧ ((pre_e1 [(.pv (.agg [(.str (PV.asStr (List.getD (PV.cells (enc y0)) 0 default))), (.int .i64 (PV.asInt (List.getD (PV.cells (enc y0)) (0 + 1) default)))])), (.ptr 0 0)] [(.box [(.pv (.str v)), (.pv (.int .i64 c))])]) = true ∧ (if (Str.s (Coef.v (dec (PV.agg (shAll (PV.cells (enc y0)) 0 [Sh.str, Sh.int .i64])))) == v) = true then G (((.pv (.int .i64 i)), ([(.box [(.pv (.str v)), (.pv (.int .i64 c))])], []))) else (At T_ixe 1 (endO' 1 rs_ixe G) ic_ixe 0 19 [(0, (.pv (.sl 2 false (List.map enc l)))), (1, (.fn 110 [] [(.ptr 0 0)])), (7, (.pv (.int .i64 (↑(List.length l) : Int)))), (8, (.pv (.int .i64 (IntKind.wrap IntKind.i64 (i + 1)))))] [(.obj (.box [(.pv (.str v)), (.pv (.int .i64 c))]))])))) else (G (((.pv (.int .i64 (-1))), ([(.box [(.pv (.str v)), (.pv (.int .i64 c))])], []))))) : At T_ixe 1 (endO' 1 rs_ixe G) ic_ixe 0 19 [(0, .pv (enc l)), (1, .fn 110 [] [.ptr 0 0]), (7, .pv (.int .i64 l.length)), (8, .pv (.int .i64 i))] [.obj (.box [.pv (.str v), .pv (.int .i64 c)])] := At.to (.lit (.ask (.req (.abs (Coef) (fun YY => AV.pv (PV.rptr (PV.cells ((enc) YY)))) (.lit (.req (.keep (.ask (.nil) (.lit (.nil)))))))) (.nil))) h (by kernel_rfl)
def ic_lev : IC := (.seq (.reg [⟨(some 2), (.box 2 (.t 0)), 0, none⟩, ⟨(some 4), (.mv (.c (.int .i64 0))), 1, none⟩, ⟨(some 5), (.mv (.c (.int .i64 0))), 1, none⟩] none) (.seq (.seq (.reg [⟨(some 11), (.load true [(.int .i64), (.sl 2)] (.t 2)), 0, none⟩, ⟨(some 12), (.call (.c (.fn 73)) [(.t 11)]), 0, none⟩, ⟨(some 13), (.un .not (.t 12)), 2, none⟩] none) (.cond (.t 13) (.seq (.reg [⟨(some 4), (.mv (.c (.int .i64 0))), 0, none⟩, ⟨(some 5), (.mv (.c (.int .i64 1))), 0, none⟩] none) .ret) .skip)) (.seq (.reg [⟨(some 14), (.faddr 0 (.t 2)), 0, none⟩, ⟨(some 15), (.load false [(.int .i64)] (.t 14)), 0, none⟩, ⟨(some 6), (.mv (.t 15)), 0, none⟩] none) (.seq (.seq (.reg [⟨(some 16), (.faddr 1 (.t 2)), 0, none⟩, ⟨(some 17), (.load false [(.sl 2)] (.t 16)), 0, none⟩, ⟨(some 18), (.len 1 (.t 17)), 0, none⟩, ⟨(some 19), (.mv (.c (.int .i64 0))), 0, none⟩] none) (.block 0 (.loop [19, 18, 17, 1, 6] (.seq (.reg [⟨(some 20), (.bin .num .lss (.t 19) (.t 18)), 0, none⟩] none) (.seq (.cond (.t 20) .skip (.exit 0)) (.seq (.block 1 (.seq (.reg [⟨(some 21), (.iaddr 2 (.t 17) (.t 19)), 0, none⟩, ⟨(some 22), (.load true [.str, (.int .i64)] (.t 21)), 0, none⟩, ⟨(some 8), (.alloc (.agg [(.str []), (.int .i64 0)])), 0, none⟩, ⟨none, (.store 2 (.t 8) (.t 22)), 1, none⟩] none) (.seq (.reg [⟨(some 23), (.mv (.t 1)), 0, none⟩, ⟨(some 24), (.mkfn 110 [] [(.t 8)]), 0, none⟩, ⟨(some 25), (.call (.c (.fn 109)) [(.t 23), (.t 24)]), 0, none⟩, ⟨(some 9), (.mv (.t 25)), 2, none⟩] none) (.seq (.seq (.reg [⟨(some 26), (.mv (.t 9)), 0, none⟩, ⟨(some 27), (.bin .num .lss (.t 26) (.c (.int .i64 0))), 0, none⟩] none) (.cond (.t 27) (.seq (.reg [⟨(some 4), (.mv (.c (.int .i64 0))), 0, none⟩, ⟨(some 5), (.mv (.c (.int .i64 7))), 0, none⟩] none) .ret) .skip)) (.seq (.seq (.reg [⟨(some 28), (.mv (.t 1)), 0, none⟩, ⟨(some 29), (.mv (.t 9)), 0, none⟩, ⟨(some 30), (.iaddr 2 (.t 28) (.t 29)), 0, none⟩, ⟨(some 31), (.faddr 1 (.t 30)), 0, none⟩, ⟨(some 32), (.load false [(.int .i64)] (.t 31)), 0, none⟩, ⟨(some 10), (.mv (.t 32)), 0, none⟩] none) (.seq (.reg [⟨(some 33), (.mv (.t 10)), 0, none⟩, ⟨(some 34), (.bin .num .lss (.t 33) (.c (.int .i64 (-1000000000)))), 0, none⟩, ⟨(some 35), (.mv (.t 34)), 0, none⟩, ⟨(some 36), (.mv (.t 10)), 0, (some (35, false))⟩, ⟨(some 37), (.bin .num .gtr (.t 36) (.c (.int .i64 1000000000))), 0, (some (35, false))⟩, ⟨(some 38), (.pick (.t 35) (.c (.bool true)) (.t 37)), 0, none⟩] none) (.cond (.t 38) (.seq (.reg [⟨(some 4), (.mv (.c (.int .i64 0))), 0, none⟩, ⟨(some 5), (.mv (.c (.int .i64 2))), 0, none⟩] none) .ret) .skip))) (.reg [⟨(some 39), (.mv (.t 6)), 0, none⟩, ⟨(some 40), (.faddr 1 (.t 8)), 0, none⟩, ⟨(some 41), (.load false [(.int .i64)] (.t 40)), 0, none⟩, ⟨(some 42), (.mv (.t 1)), 0, none⟩, ⟨(some 43), (.mv (.t 9)), 0, none⟩, ⟨(some 44), (.iaddr 2 (.t 42) (.t 43)), 0, none⟩, ⟨(some 45), (.faddr 1 (.t 44)), 0, none⟩, ⟨(some 46), (.load false [(.int .i64)] (.t 45)), 0, none⟩, ⟨(some 47), (.bin .num .mul (.t 41) (.t 46)), 0, none⟩, ⟨(some 48), (.bin .num .add (.t 39) (.t 47)), 0, none⟩, ⟨(some 6), (.mv (.t 48)), 0, none⟩] (some [[], [], [1], [], [], [3, 4], [5, 3, 4], [6, 5, 3, 4], [2, 7, 1, 6, 5, 3, 4], [0, 8, 2, 7, 1, 6, 5, 3, 4], [9, 0, 1, 2, 3, 4, 5, 6, 7, 8]]))))))) (.reg [⟨(some 49), (.bin .num .add (.t 19) (.c (.int .i64 1))), 0, none⟩, ⟨(some 19), (.mv (.t 49)), 0, none⟩] none))))))) (.seq (.reg [⟨(some 50), (.mv (.t 6)), 0, none⟩, ⟨(some 4), (.mv (.t 50)), 0, none⟩, ⟨(some 5), (.mv (.c (.int .i64 0))), 0, none⟩] none) .ret)))))
def rs_lev : List IRes := [(.tmp 4), (.tmp 5)]
abbrev nt_lev : Nat := 51
def T_lev : Tab := tab [(73, .pure (preT (fun x : Lin × Unit => linSm x.1)) (valT (fun x : Lin × Unit => validL x.1))), (109, .own (pre_ixE 110) val_ixE)]
theorem lev_s {G : PV -> Prop} (l : Lin) (v : List Coef) (h : (Go.Pl.preT (fun (x : Lin × Unit) => linSm x.1) [(.agg [(.int .i64 l.k), (.sl 2 false (List.map enc l.t))])]) = true ∧ (∃ y0 : Bool, AV.pv (valT (fun (x : Lin × Unit) => validL x.1) [(.agg [(.int .i64 l.k), (.sl 2 false (List.map enc l.t))])]) = AV.pv (enc y0) ∧ (if (!y0) = true then G ((.tup [(.int .i64 0), (.int .i64 1)])) else (At T_lev 0 (endP' rs_lev G) ic_lev 0 51 [(1, (.pv (.sl 2 false (List.map enc v)))), (6, (.pv (.int .i64 l.k))), (17, (.pv (.sl 2 false (List.map enc l.t)))), (18, (.pv (.int .i64 (↑(List.length (List.map enc l.t)) : Int)))), (19, (.pv (.int .i64 0)))] [])))) : Gets T_lev 0 (endP' rs_lev G) ic_lev [] (st0 51 [enc l, enc v]) := Gets.tp (.req (.abs (Bool) (fun YY => AV.pv (enc YY)) (.ask (.nil) (.nil)))) h (by kernel_rfl)
theorem lev_h0 {G : PV -> Prop} (l : Lin) (v : List Coef) (n i : Int) (h : if (decide (i < (↑(List.length l.t) : Int))) = true then (decide (0 <= i) && decide (Int.toNat i < List.length (List.map enc l.t)) && Enc.sz Coef == 2) = true ∧ (∃ y0 : Coef, AV.pv (PV.rptr (PV.cells (List.getD (List.map enc l.t) (Int.toNat i) default))) = AV.pv (PV.rptr (PV.cells ((enc) y0))) ∧ ((pre_ixE 110 [(.pv (.sl 2 false (List.map enc v))), (.fn 110 [] [(.ptr 0 0)])] [(.box [(.pv (.str (PV.asStr (List.getD (PV.cells (enc y0)) 0 default)))), (.pv (.int .i64 (PV.asInt (List.getD (PV.cells (enc y0)) (0 + 1) default))))])]) = true ∧ (if (decide (ixFind (fun (t : Coef) => Str.s (Coef.v t) == PV.asStr (List.getD (PV.cells (enc y0)) 0 default)) (dec (enc v)) < 0)) = true then G ((.tup [(.int .i64 0), (.int .i64 7)])) else ((decide (0 <= ixFind (fun (t : Coef) => Str.s (Coef.v t) == PV.asStr (List.getD (PV.cells (enc y0)) 0 default)) (dec (enc v))) && decide (Int.toNat (ixFind (fun (t : Coef) => Str.s (Coef.v t) == PV.asStr (List.getD (PV.cells (enc y0)) 0 default)) (dec (enc v))) < List.length (List.map enc v)) && Enc.sz Coef == 2) = true ∧ (∃ y1 : Coef, AV.pv (PV.rptr (PV.cells (List.getD (List.map enc v) (Int.toNat (ixFind (fun (t : Coef) => Str.s (Coef.v t) == PV.asStr (List.getD (PV.cells (enc y0)) 0 default)) (dec (enc v)))) default))) = AV.pv (PV.rptr (PV.cells ((enc) y1))) ∧ (if (decide (PV.asInt (List.getD (List.drop 1 (PV.cells (enc y1))) 0 default) < (-1000000000 : Int))) = true then G ((.tup [(.int .i64 0), (.int .i64 2)])) else (if (decide (PV.asInt (List.getD (List.drop 1 (PV.cells (enc y1))) 0 default) > 1000000000)) = true then G ((.tup [(.int .i64 0), (.int .i64 2)])) else ((decide (0 <= ixFind (fun (t : Coef) => Str.s (Coef.v t) == PV.asStr (List.getD (PV.cells (enc y0)) 0 default)) (dec (enc v))) && decide (Int.toNat (ixFind (fun (t : Coef) => Str.s (Coef.v t) == PV.asStr (List.getD (PV.cells (enc y0)) 0 default)) (dec (enc v))) < List.length (List.map enc v)) && Enc.sz Coef == 2) = true ∧ (∃ y2 : Coef, AV.pv (PV.rptr (PV.cells (List.getD (List.map enc v) (Int.toNat (ixFind (fun (t : Coef) => Str.s (Coef.v t) == PV.asStr (List.getD (PV.cells (enc y0)) 0 default)) (dec (enc v)))) default))) = AV.pv (PV.rptr (PV.cells ((enc) y2))) ∧ (At T_lev 0 (endP' rs_lev G) ic_lev 0 51 [(1, (.pv (.sl 2 false (List.map enc v)))), (6, (.pv (.int .i64 (IntKind.wrap IntKind.i64 (n + IntKind.wrap IntKind.i64 (PV.asInt (List.getD (PV.cells (enc y0)) (0 + 1) default) * PV.asInt (List.getD (List.drop 1 (PV.cells (enc y2))) 0 default))))))), (17, (.pv (.sl 2 false (List.map enc l.t)))), (18, (.pv (.int .i64 (↑(List.length l.t) : Int)))), (19, (.pv (.int .i64 (IntKind.wrap IntKind.i64 (i + 1)))))] [])))))))))) else (G ((.tup [(.int .i64 n), (.int .i64 0)])))) : At T_lev 0 (endP' rs_lev G) ic_lev 0 51 [(1, .pv (enc v)), (6, .pv (.int .i64 n)), (17, .pv (enc l.t)), (18, .pv (.int .i64 l.t.length)), (19, .pv (.int .i64 i))] [] := At.tp (.lit (.ask (.req (.abs (Coef) (fun YY => AV.pv (PV.rptr (PV.cells ((enc) YY)))) (.lit (.req (.keep (.lit (.ask (.nil) (.req (.abs (Coef) (fun YY => AV.pv (PV.rptr (PV.cells ((enc) YY)))) (.lit (.lit (.ask (.lit (.lit (.lit (.nil)))) (.lit (.lit (.lit (.ask (.nil) (.req (.abs (Coef) (fun YY => AV.pv (PV.rptr (PV.cells ((enc) YY)))) (.lit (.lit (.lit (.lit (.nil))))))))))))))))))))))) (.nil))) h (by kernel_rfl)
end Go.Pl

namespace Go.Pl
open Go.RowKit
open Enc (enc dec is)
open EncL (encL decL isL)
theorem ev1_run : ∀ args os, pre_e1 args os = true -> Gets T_ev1 os.length (endO' os.length rs_ev1 fun r => r = val_e1 args os) ic_ev1 [] (st0O nt_ev1 args os) := by
 intro args os h
 unfold pre_e1 at h
 split at h
 ·rename_i x v c
  obtain ⟨x, rfl⟩ := can_eq h
  exact ev1_s x v c (by simp only [val_e1, Enc.dec_enc])
 ·cases h
theorem ixe_loop (l : List Coef) (v : List UInt8) (c : Int) (hl : l.length <= 9223372036854775807) (H : AV × List AObj × List AObj) (hH : H = (.pv (.int .i64 (ixFind (fun t : Coef => t.v.s == v) l)), [.box [.pv (.str v), .pv (.int .i64 c)]], [])) : ∀ (m i : Nat), m + i = l.length -> (∀ j (hj : j < l.length), j < i -> (l[j].v.s == v) = false) ->
  At T_ixe 1 (endO' 1 rs_ixe fun r => r = H) ic_ixe 0 19 [(0, .pv (enc l)), (1, .fn 110 [] [.ptr 0 0]), (7, .pv (.int .i64 l.length)), (8, .pv (.int .i64 i))] [.obj (.box [.pv (.str v), .pv (.int .i64 c)])] := by
 subst hH
 intro m
 induction m with
 | zero =>
  intro i hi hno
  refine ixe_h0 l v c i (iteF (lt_no' (by omega)) ?_)
  rw [ix_none _ _ (fun j hj => hno j hj (by omega))]
 | succ m ih =>
  intro i hi hno
  have hlt : i < l.length := by omega
  refine ixe_h0 l v c i (iteT (lt_ok' hlt) ⟨idx_ok hlt rfl, el_ex hlt ⟨can_enc l[i], iteB (fun hb => ?_) fun hb => ?_⟩⟩)
  ·rw [ix_step (fun t : Coef => t.v.s == v) l i hlt hno hb]
  ·rw [next (by omega)]
   refine ih (i + 1) (by omega) fun j hj hji => ?_
   by_cases e : j = i
   ·subst e; exact hb
   ·exact hno j hj (by omega)
theorem ixe_run : ∀ args os, pre_ixE 110 args os = true -> Gets T_ixe os.length (endO' os.length rs_ixe fun r => r = val_ixE args os) ic_ixe [] (st0O nt_ixe args os) := by
 intro args os h
 unfold pre_ixE at h
 split at h
 ·rename_i l g v c
  simp only [Bool.and_eq_true, beq_iff_eq, decide_eq_true_eq] at h
  obtain ⟨⟨rfl, hl⟩, h2⟩ := h
  obtain ⟨l, rfl⟩ := can_eq hl
  rw [Enc.dec_enc] at h2
  refine ixe_s l v c ?_
  rw [List.length_map]
  exact ixe_loop l v c h2 _ (by simp only [val_ixE, Enc.dec_enc]) l.length 0 (by omega) (fun j hj h => by omega)
 ·cases h
theorem ix_look (v : List Coef) (s : Str) : (ixFind (fun t : Coef => t.v.s == s.s) v < 0 ∧ lookV v s = none) ∨ ∃ (i : Nat) (hi : i < v.length), ixFind (fun t : Coef => t.v.s == s.s) v = i ∧ lookV v s = some v[i].c := by
 unfold ixFind lookV
 have hp : (fun t : Coef => decide (t.v = s)) = fun t : Coef => t.v.s == s.s := by
  funext t
  by_cases h : t.v = s
  ·simp [h]
  ·have : ¬ t.v.s = s.s := fun e => h (by cases hv : t.v; cases s; rw [hv] at e; cases e; rfl)
   simp [h, this]
 rw [hp]
 cases h : v.findIdx? (fun t : Coef => t.v.s == s.s) with
 | none =>
  left
  refine ⟨by show (-1 : Int) < 0; omega, ?_⟩
  rw [List.findIdx?_eq_none_iff] at h
  have : v.find? (fun t : Coef => t.v.s == s.s) = none := List.find?_eq_none.2 fun x hx => by simp [h x hx]
  rw [this]; rfl
 | some i =>
  right
  have h' := h
  rw [List.findIdx?_eq_some_iff_getElem] at h
  obtain ⟨hi, h1, h2⟩ := h
  refine ⟨i, hi, rfl, ?_⟩
  have : v.find? (fun t : Coef => t.v.s == s.s) = some v[i] := by
   rw [List.find?_eq_some_iff_getElem]
   exact ⟨h1, i, hi, rfl, fun j hj => by simpa using h2 j hj⟩
  rw [this]; rfl
theorem lev_loop (l : Lin) (v : List Coef) (hl : l.t.length <= 9223372036854775807) (hv : v.length <= 9223372036854775807) : ∀ (m i : Nat) (n : Int), m + i = l.t.length ->
  At T_lev 0 (endP' rs_lev (Fits (evalT v n (l.t.drop i)))) ic_lev 0 51 [(1, .pv (enc v)), (6, .pv (.int .i64 n)), (17, .pv (enc l.t)), (18, .pv (.int .i64 l.t.length)), (19, .pv (.int .i64 i))] [] := by
 intro m
 induction m with
 | zero =>
  intro i n hi
  refine lev_h0 l v n i (iteF (lt_no' (by omega)) ?_)
  rw [List.drop_of_length_le (show l.t.length <= i by omega)]
  exact ⟨rfl, rfl⟩
 | succ m ih =>
  intro i n hi
  have hlt : i < l.t.length := by omega
  refine lev_h0 l v n i (iteT (lt_ok' hlt) ⟨idx_ok hlt rfl, el_ex hlt ?_⟩)
  rw [List.drop_eq_getElem_cons hlt, evalT, next (by omega)]
  have e0 : PV.asStr (List.getD (PV.cells (enc l.t[i])) 0 default) = l.t[i].v.s := rfl
  simp only [e0, Enc.dec_enc]
  refine ⟨by show pre_ixE _ [.pv (enc v), _] _ = true; simp [pre_ixE, hv], ?_⟩
  rcases ix_look v l.t[i].v with ⟨h1, h2⟩ | ⟨k, hk, h1, h2⟩
  ·rw [h2]
   exact iteT (by simpa using h1) ⟨rfl, rfl⟩
  ·rw [h2]
   simp only [h1]
   refine iteF (by simp) ⟨idx_ok hk rfl, el_ex hk ?_⟩
   refine iteD (fun h3 => ?_) fun h3 => iteD (fun h4 => ?_) fun h4 => ⟨idx_ok hk rfl, el_ex hk ?_⟩
   ·have h3 : v[k].c < -1000000000 := h3
    rw [if_pos h3]; exact ⟨rfl, rfl⟩
   ·have h3 : ¬ v[k].c < -1000000000 := h3
    have h4 : v[k].c > 1000000000 := h4
    rw [if_neg h3, if_pos h4]; exact ⟨rfl, rfl⟩
   ·have h3 : ¬ v[k].c < -1000000000 := h3
    have h4 : ¬ v[k].c > 1000000000 := h4
    rw [if_neg h3, if_neg h4]
    exact ih (i + 1) _ (by omega)
theorem lev_run : ∀ a : Lin × List Coef × Unit, (linSm a.1 && decide (a.2.1.length <= 9223372036854775807)) = true -> Gets T_lev 0 (endP' rs_lev (Fits (evalL a.1 a.2.1))) ic_lev [] (st0 nt_lev (encL a)) := by
 rintro ⟨l, v, ⟨⟩⟩ h
 simp only [Bool.and_eq_true, decide_eq_true_eq] at h
 have hl : l.t.length <= 9223372036854775807 := by
  have := h.1
  simp only [linSm, linOk, Bool.and_eq_true, decide_eq_true_eq] at this
  exact this.1
 refine lev_s l v ⟨pre_enc (l, ()) rfl h.1, ex_enc (l, ()) rfl ?_⟩
 show if (!validL l) = true then Fits (evalL l v) _ else At T_lev 0 (endP' rs_lev (Fits (evalL l v))) ic_lev 0 51 _ _
 unfold evalL
 refine iteN (fun hv => ?_) fun hv => ?_
 ·rw [if_neg (by rw [hv]; simp)]
  exact ⟨rfl, rfl⟩
 ·rw [if_pos hv, List.length_map]
  exact lev_loop l v hl h.2 l.t.length 0 l.k (by omega)
end Go.Pl

namespace Go.Pl
open Go.RowKit
open Enc (enc dec is)
open EncL (encL decL isL)
set_option maxRecDepth 100000
def ic_combine : IC := (.seq (.reg [⟨(some 3), (.box 2 (.t 0)), 0, none⟩, ⟨(some 4), (.box 2 (.t 1)), 1, none⟩, ⟨(some 6), (.alloc (.agg [(.int .i64 0), (.sl 0 true [])])), 2, none⟩, ⟨(some 7), (.mv (.c (.int .i64 0))), 3, none⟩] none) (.seq (.seq (.reg [⟨(some 9), (.load true [(.int .i64), (.sl 2)] (.t 3)), 0, none⟩, ⟨(some 10), (.call (.c (.fn 73)) [(.t 9)]), 0, none⟩, ⟨(some 11), (.un .not (.t 10)), 2, none⟩, ⟨(some 12), (.mv (.t 11)), 2, none⟩, ⟨(some 13), (.load true [(.int .i64), (.sl 2)] (.t 4)), 2, (some (12, false))⟩, ⟨(some 14), (.call (.c (.fn 73)) [(.t 13)]), 2, (some (12, false))⟩, ⟨(some 15), (.un .not (.t 14)), 4, (some (12, false))⟩, ⟨(some 16), (.pick (.t 12) (.c (.bool true)) (.t 15)), 4, none⟩] none) (.cond (.t 16) (.seq (.reg [⟨(some 17), (.build [(.int .i64 0), (.sl 0 true [])] []), 0, none⟩, ⟨none, (.store 2 (.t 6) (.t 17)), 0, none⟩, ⟨(some 7), (.mv (.c (.int .i64 1))), 0, none⟩] none) .ret) .skip)) (.seq (.reg [⟨(some 18), .mkmap, 0, none⟩, ⟨(some 19), (.build [(.int .i64 0), .nilmap] [(1, (1, (.t 18)))]), 1, none⟩, ⟨(some 8), (.alloc (.agg [(.int .i64 0), .nilmap])), 1, none⟩, ⟨none, (.store 2 (.t 8) (.t 19)), 2, none⟩] none) (.seq (.reg [⟨(some 20), (.load true [(.int .i64), (.sl 2)] (.t 3)), 0, none⟩, ⟨(some 21), (.call (.c (.fn 114)) [(.t 8), (.t 20), (.c (.int .i64 1))]), 0, none⟩] none) (.seq (.reg [⟨(some 22), (.load true [(.int .i64), (.sl 2)] (.t 4)), 0, none⟩, ⟨(some 23), (.mv (.t 2)), 0, none⟩, ⟨(some 24), (.call (.c (.fn 114)) [(.t 8), (.t 22), (.t 23)]), 0, none⟩] none) (.seq (.reg [⟨(some 25), (.call (.c (.fn 82)) [(.t 8)]), 0, none⟩, ⟨(some 26), (.extract (.t 25) 0), 2, none⟩, ⟨(some 27), (.extract (.t 25) 1), 2, none⟩, ⟨none, (.store 2 (.t 6) (.t 26)), 2, none⟩, ⟨(some 7), (.mv (.t 27)), 2, none⟩] none) .ret))))))
def rs_combine : List IRes := [(.cell true 2 6), (.tmp 7)]
abbrev nt_combine : Nat := 28
def T_combine : Tab := tab [(73, .pure (preT (fun x : Lin × Unit => linSm x.1)) (valT (fun x : Lin × Unit => validL x.1))), (114, .own pre_add val_add), (82, .own pre_res val_res)]
theorem combine_s {G : PV -> Prop} (a b : Lin) (k : Int) (h : (Go.Pl.preT (fun (x : Lin × Unit) => linSm x.1) [(.agg [(.int .i64 a.k), (.sl 2 false (List.map enc a.t))])]) = true ∧ (∃ y0 : Bool, AV.pv (valT (fun (x : Lin × Unit) => validL x.1) [(.agg [(.int .i64 a.k), (.sl 2 false (List.map enc a.t))])]) = AV.pv (enc y0) ∧ (if (!y0) = true then G ((.tup [(.agg [(.int .i64 0), (.sl 0 true [])]), (.int .i64 1)])) else ((Go.Pl.preT (fun (x : Lin × Unit) => linSm x.1) [(.agg [(.int .i64 b.k), (.sl 2 false (List.map enc b.t))])]) = true ∧ (∃ y1 : Bool, AV.pv (valT (fun (x : Lin × Unit) => validL x.1) [(.agg [(.int .i64 b.k), (.sl 2 false (List.map enc b.t))])]) = AV.pv (enc y1) ∧ (if (!y1) = true then G ((.tup [(.agg [(.int .i64 0), (.sl 0 true [])]), (.int .i64 1)])) else ((pre_add [(.ptr 0 0), (.pv (.agg [(.int .i64 a.k), (.sl 2 false (List.map enc a.t))])), (.pv (.int .i64 1))] [(.box [(.pv (.int .i64 0)), (.map 1)]), (.map [])]) = true ∧ ((pre_add [(.ptr 0 0), (.pv (.agg [(.int .i64 b.k), (.sl 2 false (List.map enc b.t))])), (.pv (.int .i64 k))] [(.box [(.pv (.int .i64 (w64 (0 + w64 (1 * Lin.k (dec (PV.agg [enc a.k, enc a.t]))))))), (.map 1)]), (.map (mapP (addT 1 (Lin.t (dec (PV.agg [enc a.k, enc a.t]))) (mapD []))))]) = true ∧ ((pre_res [(.ptr 0 0)] [(.box [(.pv (.int .i64 (w64 (w64 (0 + w64 (1 * Lin.k (dec (PV.agg [enc a.k, enc a.t])))) + w64 (k * Lin.k (dec (PV.agg [enc b.k, enc b.t]))))))), (.map 1)]), (.map (mapP (addT k (Lin.t (dec (PV.agg [enc b.k, enc b.t]))) (mapD (mapP (addT 1 (Lin.t (dec (PV.agg [enc a.k, enc a.t]))) (mapD [])))))))]) = true ∧ (G ((.tup [(.agg [(.int .i64 (Lin.k (Prod.fst (resM (w64 (w64 (0 + w64 (1 * Lin.k (dec (PV.agg [enc a.k, enc a.t])))) + w64 (k * Lin.k (dec (PV.agg [enc b.k, enc b.t]))))) (mapD (mapP (addT k (Lin.t (dec (PV.agg [enc b.k, enc b.t]))) (mapD (mapP (addT 1 (Lin.t (dec (PV.agg [enc a.k, enc a.t]))) (mapD []))))))))))), (.sl 2 false (List.map enc (Lin.t (Prod.fst (resM (w64 (w64 (0 + w64 (1 * Lin.k (dec (PV.agg [enc a.k, enc a.t])))) + w64 (k * Lin.k (dec (PV.agg [enc b.k, enc b.t]))))) (mapD (mapP (addT k (Lin.t (dec (PV.agg [enc b.k, enc b.t]))) (mapD (mapP (addT 1 (Lin.t (dec (PV.agg [enc a.k, enc a.t]))) (mapD []))))))))))))]), (.int .i64 (Prod.snd (resM (w64 (w64 (0 + w64 (1 * Lin.k (dec (PV.agg [enc a.k, enc a.t])))) + w64 (k * Lin.k (dec (PV.agg [enc b.k, enc b.t]))))) (mapD (mapP (addT k (Lin.t (dec (PV.agg [enc b.k, enc b.t]))) (mapD (mapP (addT 1 (Lin.t (dec (PV.agg [enc a.k, enc a.t]))) (mapD []))))))))))])))))))))))) : Gets T_combine 0 (endP' rs_combine G) ic_combine [] (st0 28 [enc a, enc b, enc k]) := Gets.tp (.req (.abs (Bool) (fun YY => AV.pv (enc YY)) (.ask (.lit (.lit (.lit (.lit (.nil))))) (.lit (.req (.abs (Bool) (fun YY => AV.pv (enc YY)) (.lit (.lit (.ask (.nil) (.req (.keep (.req (.keep (.req (.keep (.nil)))))))))))))))) h (by kernel_rfl)
def ic_ladd2 : IC := (.seq (.reg [⟨(some 2), (.box 2 (.t 0)), 0, none⟩, ⟨(some 3), (.box 2 (.t 1)), 1, none⟩, ⟨(some 4), (.alloc (.agg [(.int .i64 0), (.sl 0 true [])])), 2, none⟩, ⟨(some 5), (.mv (.c (.int .i64 0))), 3, none⟩] none) (.seq (.reg [⟨(some 6), (.load true [(.int .i64), (.sl 2)] (.t 2)), 0, none⟩, ⟨(some 7), (.load true [(.int .i64), (.sl 2)] (.t 3)), 0, none⟩, ⟨(some 8), (.call (.c (.fn 111)) [(.t 6), (.t 7), (.c (.int .i64 1))]), 0, none⟩, ⟨(some 9), (.extract (.t 8) 0), 2, none⟩, ⟨(some 10), (.extract (.t 8) 1), 2, none⟩, ⟨none, (.store 2 (.t 4) (.t 9)), 2, none⟩, ⟨(some 5), (.mv (.t 10)), 2, none⟩] none) .ret))
def rs_ladd2 : List IRes := [(.cell true 2 4), (.tmp 5)]
abbrev nt_ladd2 : Nat := 11
def T_ladd2 : Tab := tab [(111, .pure (preT (fun x : Lin × Lin × Int × Unit => linSm x.1 && linSm x.2.1)) (valT (fun x : Lin × Lin × Int × Unit => combineL x.1 x.2.1 x.2.2.1)))]
theorem ladd2_s {G : PV -> Prop} (a b : Lin) (h : (Go.Pl.preT (fun (x : Lin × Lin × Int × Unit) => linSm x.1 && linSm x.2.1) [(.agg [(.int .i64 a.k), (.sl 2 false (List.map enc a.t))]), (.agg [(.int .i64 b.k), (.sl 2 false (List.map enc b.t))]), (.int .i64 1)]) = true ∧ (∃ y0 : Lin × Int, AV.pv (valT (fun (x : Lin × Lin × Int × Unit) => combineL x.1 x.2.1 x.2.2.1) [(.agg [(.int .i64 a.k), (.sl 2 false (List.map enc a.t))]), (.agg [(.int .i64 b.k), (.sl 2 false (List.map enc b.t))]), (.int .i64 1)]) = AV.pv (enc y0) ∧ (G ((.tup [(.agg [(.int .i64 y0.1.k), (.sl 2 false (List.map enc y0.1.t))]), (.int .i64 y0.2)]))))) : Gets T_ladd2 0 (endP' rs_ladd2 G) ic_ladd2 [] (st0 11 [enc a, enc b]) := Gets.tp (.req (.abs (Lin × Int) (fun YY => AV.pv (enc YY)) (.nil))) h (by kernel_rfl)
def ic_lscale : IC := (.seq (.reg [⟨(some 2), (.box 2 (.t 0)), 0, none⟩, ⟨(some 4), (.alloc (.agg [(.int .i64 0), (.sl 0 true [])])), 1, none⟩, ⟨(some 5), (.mv (.c (.int .i64 0))), 2, none⟩] none) (.seq (.reg [⟨(some 6), (.build [(.int .i64 0), (.sl 0 true [])] []), 0, none⟩, ⟨(some 7), (.load true [(.int .i64), (.sl 2)] (.t 2)), 0, none⟩, ⟨(some 8), (.mv (.t 1)), 0, none⟩, ⟨(some 9), (.mm false (.t 8) (.c (.int .i64 1000001))), 0, none⟩, ⟨(some 10), (.mm true (.c (.int .i64 (-1000001))) (.t 9)), 0, none⟩, ⟨(some 11), (.call (.c (.fn 111)) [(.t 6), (.t 7), (.t 10)]), 0, none⟩, ⟨(some 12), (.extract (.t 11) 0), 2, none⟩, ⟨(some 13), (.extract (.t 11) 1), 2, none⟩, ⟨none, (.store 2 (.t 4) (.t 12)), 2, none⟩, ⟨(some 5), (.mv (.t 13)), 2, none⟩] none) .ret))
def rs_lscale : List IRes := [(.cell true 2 4), (.tmp 5)]
abbrev nt_lscale : Nat := 14
def T_lscale : Tab := tab [(111, .pure (preT (fun x : Lin × Lin × Int × Unit => linSm x.1 && linSm x.2.1)) (valT (fun x : Lin × Lin × Int × Unit => combineL x.1 x.2.1 x.2.2.1)))]
theorem lscale_s {G : PV -> Prop} (a : Lin) (k : Int) (h : (Go.Pl.preT (fun (x : Lin × Lin × Int × Unit) => linSm x.1 && linSm x.2.1) [(.agg [(.int .i64 0), (.sl 0 true [])]), (.agg [(.int .i64 a.k), (.sl 2 false (List.map enc a.t))]), (.int .i64 (if true = true then if (if false = true then if 1000001 > k then 1000001 else k else if 1000001 < k then 1000001 else k) > (-1000001 : Int) then if false = true then if 1000001 > k then 1000001 else k else if 1000001 < k then 1000001 else k else (-1000001 : Int) else if (if false = true then if 1000001 > k then 1000001 else k else if 1000001 < k then 1000001 else k) < (-1000001 : Int) then if false = true then if 1000001 > k then 1000001 else k else if 1000001 < k then 1000001 else k else (-1000001 : Int)))]) = true ∧ (∃ y0 : Lin × Int, AV.pv (valT (fun (x : Lin × Lin × Int × Unit) => combineL x.1 x.2.1 x.2.2.1) [(.agg [(.int .i64 0), (.sl 0 true [])]), (.agg [(.int .i64 a.k), (.sl 2 false (List.map enc a.t))]), (.int .i64 (if true = true then if (if false = true then if 1000001 > k then 1000001 else k else if 1000001 < k then 1000001 else k) > (-1000001 : Int) then if false = true then if 1000001 > k then 1000001 else k else if 1000001 < k then 1000001 else k else (-1000001 : Int) else if (if false = true then if 1000001 > k then 1000001 else k else if 1000001 < k then 1000001 else k) < (-1000001 : Int) then if false = true then if 1000001 > k then 1000001 else k else if 1000001 < k then 1000001 else k else (-1000001 : Int)))]) = AV.pv (enc y0) ∧ (G ((.tup [(.agg [(.int .i64 y0.1.k), (.sl 2 false (List.map enc y0.1.t))]), (.int .i64 y0.2)]))))) : Gets T_lscale 0 (endP' rs_lscale G) ic_lscale [] (st0 14 [enc a, enc k]) := Gets.tp (.req (.abs (Lin × Int) (fun YY => AV.pv (enc YY)) (.nil))) h (by kernel_rfl)
end Go.Pl

namespace Go.Pl
open Go.RowKit
open Enc (enc dec is)
open EncL (encL decL isL)
theorem sums_sm (k : Int) {a b : Lin} (ha : validL a = true) (hb : validL b = true) : mapSm (addT k b.t (addT 1 a.t [])) = true := by
 have h1 := valid_len ha
 have h2 := valid_len hb
 have h3 := addT_len k b.t (addT 1 a.t [])
 have h4 := addT_len 1 a.t []
 simp only [mapSm, Bool.and_eq_true, decide_eq_true_eq, List.all_eq_true]
 have hz : ([] : List (Str × Int)).length = 0 := rfl
 refine ⟨by omega, fun x hx => ?_⟩
 rcases addT_keys _ _ _ _ hx with hx | ⟨t, ht, rfl⟩
 ·rcases addT_keys _ _ _ _ hx with hx | ⟨t, ht, rfl⟩
  ·cases hx
  ·have := name_len (valid_coef ha ht).1; omega
 ·have := name_len (valid_coef hb ht).1; omega
theorem dec_lin_eq (a : Lin) : (dec (PV.agg [enc a.k, enc a.t]) : Lin) = a := Enc.dec_enc a
theorem combine_run : ∀ a : Lin × Lin × Int × Unit, (linSm a.1 && linSm a.2.1) = true -> Gets T_combine 0 (endP' rs_combine (Fits (combineL a.1 a.2.1 a.2.2.1))) ic_combine [] (st0 nt_combine (encL a)) := by
 rintro ⟨a, b, k, ⟨⟩⟩ h
 simp only [Bool.and_eq_true] at h
 refine combine_s a b k ⟨pre_enc (a, ()) rfl h.1, ex_enc (a, ()) rfl (iteN (fun ha => ?_) fun ha => ⟨pre_enc (b, ()) rfl h.2, ex_enc (b, ()) rfl (iteN (fun hb => ?_) fun hb => ?_)⟩)⟩
 ·have ha : validL a = false := ha
  simp only [combineL, ha]
  exact ⟨rfl, rfl⟩
 ·have ha : validL a = true := ha
  have hb : validL b = false := hb
  simp only [combineL, ha, hb]
  exact ⟨rfl, rfl⟩
 have ha : validL a = true := ha
 have hb : validL b = true := hb
 have h1 := valid_len ha
 have h2 := valid_len hb
 have e0 : mapD [] = [] := rfl
 simp only [dec_lin_eq, mapD_map, e0]
 have c1 : can Lin (PV.agg [PV.int .i64 a.k, PV.sl 2 false (List.map enc a.t)]) = true := can_enc a
 have c2 : can Lin (PV.agg [PV.int .i64 b.k, PV.sl 2 false (List.map enc b.t)]) = true := can_enc b
 have d1 : (dec (PV.agg [PV.int .i64 a.k, PV.sl 2 false (List.map enc a.t)]) : Lin) = a := Enc.dec_enc a
 have d2 : (dec (PV.agg [PV.int .i64 b.k, PV.sl 2 false (List.map enc b.t)]) : Lin) = b := Enc.dec_enc b
 refine ⟨?_, ?_, ?_, ?_⟩
 ·simp only [pre_add, c1, d1]
  simp [canM]; omega
 ·simp only [pre_add, c2, d2, canM_map]
  simp; omega
 ·simp only [pre_res, canM_map, mapD_map, sums_sm k ha hb]
  rfl
 ·simp only [combineL, ha, hb, if_true]
  exact fits_of rfl
theorem ladd2_run : ∀ a : Lin × Lin × Unit, (linSm a.1 && linSm a.2.1) = true -> Gets T_ladd2 0 (endP' rs_ladd2 (Fits (combineL a.1 a.2.1 1))) ic_ladd2 [] (st0 nt_ladd2 (encL a)) := by
 rintro ⟨a, b, ⟨⟩⟩ h
 exact ladd2_s a b ⟨pre_enc (a, b, 1, ()) rfl h, ex_enc (a, b, 1, ()) rfl (fits_of rfl)⟩
theorem clamp_eq (k : Int) : (if true = true then if (if false = true then if 1000001 > k then 1000001 else k else if 1000001 < k then 1000001 else k) > (-1000001 : Int) then if false = true then if 1000001 > k then 1000001 else k else if 1000001 < k then 1000001 else k else (-1000001 : Int) else if (if false = true then if 1000001 > k then 1000001 else k else if 1000001 < k then 1000001 else k) < (-1000001 : Int) then if false = true then if 1000001 > k then 1000001 else k else if 1000001 < k then 1000001 else k else (-1000001 : Int)) = max (-1000001) (min k 1000001) := by
 simp only [if_true, Bool.false_eq_true, if_false]
 by_cases h1 : (1000001 : Int) < k
 ·rw [if_pos h1, if_pos (by omega)]; omega
 ·rw [if_neg h1]
  by_cases h2 : k > -1000001
  ·rw [if_pos h2]; omega
  ·rw [if_neg h2]; omega
theorem lscale_run : ∀ a : Lin × Int × Unit, linSm a.1 = true -> Gets T_lscale 0 (endP' rs_lscale (Fits (scaleL a.1 a.2.1))) ic_lscale [] (st0 nt_lscale (encL a)) := by
 rintro ⟨a, k, ⟨⟩⟩ h
 have h : linSm a = true := h
 refine lscale_s a k ?_
 rw [clamp_eq]
 have hz : linSm ⟨0, []⟩ = true := rfl
 have ez : (PV.agg [PV.int .i64 0, PV.sl 0 true []]) = PV.agg [PV.int .i64 0, PV.sl 0 true []] := rfl
 refine ⟨pre_val (a := ((⟨0, []⟩ : Lin), a, max (-1000001) (min k 1000001), ())) ?_ ?_ (by show (linSm _ && linSm a) = true; rw [h, hz]; rfl), ex_val ((⟨0, []⟩ : Lin), a, max (-1000001) (min k 1000001), ()) ?_ (fits_of rfl)⟩
 ·simp; exact .inr rfl
 ·exact congrArg (fun x => ((⟨0, []⟩ : Lin), x, max (-1000001) (min k 1000001), ())) (Enc.dec_enc a)
 ·exact congrArg (fun x => ((⟨0, []⟩ : Lin), x, max (-1000001) (min k 1000001), ())) (Enc.dec_enc a)
end Go.Pl

namespace Go.Pl
open Go.RowKit
open Enc (enc dec is)
open EncL (encL decL isL)
mutual
def smallC : Cert -> Int -> Bool
 | .mk _ m l ks, n => !decide ((m.length : Int) > 60) && (few4 l 8 && (!decide (n < 1) && (!decide ((ks.length : Int) > n) && smallCs ks n)))
def smallCs : List Cert -> Int -> Bool
 | [], _ => true
 | c :: cs, n => smallC c (w64 (n - 1)) && smallCs cs (w64 (n - sizeC c))
end
end Go.Pl

namespace Go.Pl
open Go.RowKit
open Enc (enc dec is)
open EncL (encL decL isL)
set_option maxRecDepth 100000
end Go.Pl

namespace Go.Pl
open Go.RowKit
open Enc (enc dec is)
open EncL (encL decL isL)
set_option maxRecDepth 100000
def ic_rdig : IC := (.seq (.reg [⟨(some 2), (.mv (.c (.bool false))), 0, none⟩] none) (.seq (.reg [⟨(some 3), (.mv (.t 0)), 0, none⟩, ⟨(some 4), (.bin .num .geq (.t 3) (.c (.int .u8 48))), 0, none⟩, ⟨(some 5), (.mv (.t 4)), 0, none⟩, ⟨(some 6), (.mv (.t 0)), 0, (some (5, true))⟩, ⟨(some 7), (.bin .num .leq (.t 6) (.c (.int .u8 57))), 0, (some (5, true))⟩, ⟨(some 8), (.pick (.t 5) (.t 7) (.c (.bool false))), 0, none⟩, ⟨(some 2), (.mv (.t 8)), 0, none⟩] none) .ret))
def rs_rdig : List IRes := [(.tmp 2)]
abbrev nt_rdig : Nat := 9
def T_rdig : Tab := tab []
theorem rdig_s {G : PV -> Prop} (c : UInt8) (h : if (decide ((↑(UInt8.toNat c) : Int) ≥ 48)) = true then G ((.bool (decide ((↑(UInt8.toNat c) : Int) <= 57)))) else (G ((.bool false)))) : Gets T_rdig 0 (endP' rs_rdig G) ic_rdig [] (st0 9 [enc c]) := Gets.tp (.lit (.ask (.lit (.lit (.lit (.nil)))) (.lit (.lit (.nil))))) h (by kernel_rfl)
def ic_rlet : IC := (.seq (.reg [⟨(some 2), (.mv (.c (.bool false))), 0, none⟩] none) (.seq (.reg [⟨(some 3), (.mv (.t 0)), 0, none⟩, ⟨(some 4), (.bin .num .geq (.t 3) (.c (.int .u8 97))), 0, none⟩, ⟨(some 5), (.mv (.t 4)), 0, none⟩, ⟨(some 6), (.mv (.t 0)), 0, (some (5, true))⟩, ⟨(some 7), (.bin .num .leq (.t 6) (.c (.int .u8 122))), 0, (some (5, true))⟩, ⟨(some 8), (.pick (.t 5) (.t 7) (.c (.bool false))), 0, none⟩, ⟨(some 2), (.mv (.t 8)), 0, none⟩] none) .ret))
def rs_rlet : List IRes := [(.tmp 2)]
abbrev nt_rlet : Nat := 9
def T_rlet : Tab := tab []
theorem rlet_s {G : PV -> Prop} (c : UInt8) (h : if (decide ((↑(UInt8.toNat c) : Int) ≥ 97)) = true then G ((.bool (decide ((↑(UInt8.toNat c) : Int) <= 122)))) else (G ((.bool false)))) : Gets T_rlet 0 (endP' rs_rlet G) ic_rlet [] (st0 9 [enc c]) := Gets.tp (.lit (.ask (.lit (.lit (.lit (.nil)))) (.lit (.lit (.nil))))) h (by kernel_rfl)
def ic_rsmall : IC := (.seq (.reg [⟨(some 2), (.mv (.c (.bool false))), 0, none⟩] none) (.seq (.reg [⟨(some 3), (.mv (.t 0)), 0, none⟩, ⟨(some 4), (.bin .num .geq (.t 3) (.c (.int .i64 (-1000000)))), 0, none⟩, ⟨(some 5), (.mv (.t 4)), 0, none⟩, ⟨(some 6), (.mv (.t 0)), 0, (some (5, true))⟩, ⟨(some 7), (.bin .num .leq (.t 6) (.c (.int .i64 1000000))), 0, (some (5, true))⟩, ⟨(some 8), (.pick (.t 5) (.t 7) (.c (.bool false))), 0, none⟩, ⟨(some 2), (.mv (.t 8)), 0, none⟩] none) .ret))
def rs_rsmall : List IRes := [(.tmp 2)]
abbrev nt_rsmall : Nat := 9
def T_rsmall : Tab := tab []
theorem rsmall_s {G : PV -> Prop} (n : Int) (h : if (decide (n ≥ (-1000000 : Int))) = true then G ((.bool (decide (n <= 1000000)))) else (G ((.bool false)))) : Gets T_rsmall 0 (endP' rs_rsmall G) ic_rsmall [] (st0 9 [enc n]) := Gets.tp (.lit (.ask (.lit (.lit (.lit (.nil)))) (.lit (.lit (.nil))))) h (by kernel_rfl)
def ic_lin : IC := ic_rsmall
def rs_lin : List IRes := [(.tmp 2)]
abbrev nt_lin : Nat := 9
def T_lin : Tab := tab []
theorem lin_s {G : PV -> Prop} (n : Int) (h : if (decide (n ≥ (-1000000 : Int))) = true then G ((.bool (decide (n <= 1000000)))) else (G ((.bool false)))) : Gets T_lin 0 (endP' rs_lin G) ic_lin [] (st0 9 [enc n]) := Gets.tp (.lit (.ask (.lit (.lit (.lit (.nil)))) (.lit (.lit (.nil))))) h (by kernel_rfl)
def ic_ldig : IC := ic_rdig
def rs_ldig : List IRes := [(.tmp 2)]
abbrev nt_ldig : Nat := 9
def T_ldig : Tab := tab []
theorem ldig_s {G : PV -> Prop} (c : UInt8) (h : if (decide ((↑(UInt8.toNat c) : Int) ≥ 48)) = true then G ((.bool (decide ((↑(UInt8.toNat c) : Int) <= 57)))) else (G ((.bool false)))) : Gets T_ldig 0 (endP' rs_ldig G) ic_ldig [] (st0 9 [enc c]) := Gets.tp (.lit (.ask (.lit (.lit (.lit (.nil)))) (.lit (.lit (.nil))))) h (by kernel_rfl)
def ic_rname : IC := (.seq (.reg [⟨(some 2), (.mv (.c (.bool false))), 0, none⟩] none) (.seq (.seq (.reg [⟨(some 5), (.mv (.t 0)), 0, none⟩, ⟨(some 6), (.len 0 (.t 5)), 0, none⟩, ⟨(some 7), (.bin .num .eql (.t 6) (.c (.int .i64 0))), 0, none⟩, ⟨(some 8), (.mv (.t 7)), 0, none⟩, ⟨(some 9), (.mv (.t 0)), 0, (some (8, false))⟩, ⟨(some 10), (.len 0 (.t 9)), 0, (some (8, false))⟩, ⟨(some 11), (.bin .num .gtr (.t 10) (.c (.int .i64 30))), 0, (some (8, false))⟩, ⟨(some 12), (.pick (.t 8) (.c (.bool true)) (.t 11)), 0, none⟩] none) (.cond (.t 12) (.seq (.reg [⟨(some 2), (.mv (.c (.bool false))), 0, none⟩] none) .ret) .skip)) (.seq (.seq (.reg [⟨(some 13), (.mv (.t 0)), 0, none⟩, ⟨(some 14), (.index (.t 13) (.c (.int .i64 0))), 0, none⟩, ⟨(some 15), (.bin .num .eql (.t 14) (.c (.int .u8 95))), 0, none⟩] none) (.cond (.t 15) (.seq (.seq (.reg [⟨(some 16), (.mv (.t 0)), 0, none⟩, ⟨(some 17), (.len 0 (.t 16)), 0, none⟩, ⟨(some 18), (.bin .num .lss (.t 17) (.c (.int .i64 2))), 0, none⟩, ⟨(some 19), (.mv (.t 18)), 0, none⟩, ⟨(some 20), (.mv (.t 0)), 0, (some (19, false))⟩, ⟨(some 21), (.len 0 (.t 20)), 0, (some (19, false))⟩, ⟨(some 22), (.bin .num .gtr (.t 21) (.c (.int .i64 10))), 0, (some (19, false))⟩, ⟨(some 23), (.pick (.t 19) (.c (.bool true)) (.t 22)), 0, none⟩, ⟨(some 24), (.mv (.t 23)), 0, none⟩, ⟨(some 25), (.mv (.t 0)), 0, (some (24, false))⟩, ⟨(some 26), (.index (.t 25) (.c (.int .i64 1))), 0, (some (24, false))⟩, ⟨(some 27), (.bin .num .eql (.t 26) (.c (.int .u8 48))), 0, (some (24, false))⟩, ⟨(some 28), (.pick (.t 24) (.c (.bool true)) (.t 27)), 0, none⟩] none) (.cond (.t 28) (.seq (.reg [⟨(some 2), (.mv (.c (.bool false))), 0, none⟩] none) .ret) .skip)) (.seq (.seq (.reg [⟨(some 3), (.mv (.c (.int .i64 1))), 0, none⟩] none) (.block 0 (.loop [3, 0] (.seq (.seq (.reg [⟨(some 29), (.mv (.t 3)), 0, none⟩, ⟨(some 30), (.mv (.t 0)), 0, none⟩, ⟨(some 31), (.len 0 (.t 30)), 0, none⟩, ⟨(some 32), (.bin .num .lss (.t 29) (.t 31)), 0, none⟩] none) (.cond (.t 32) .skip (.exit 0))) (.seq (.block 1 (.seq (.reg [⟨(some 35), (.mv (.t 0)), 0, none⟩, ⟨(some 36), (.mv (.t 3)), 0, none⟩, ⟨(some 37), (.index (.t 35) (.t 36)), 0, none⟩, ⟨(some 38), (.call (.c (.fn 155)) [(.t 37)]), 0, none⟩, ⟨(some 39), (.un .not (.t 38)), 2, none⟩] none) (.cond (.t 39) (.seq (.reg [⟨(some 2), (.mv (.c (.bool false))), 0, none⟩] none) .ret) .skip))) (.reg [⟨(some 33), (.mv (.t 3)), 0, none⟩, ⟨(some 34), (.bin .num .add (.t 33) (.c (.int .i64 1))), 0, none⟩, ⟨(some 3), (.mv (.t 34)), 0, none⟩] none)))))) (.seq (.reg [⟨(some 2), (.mv (.c (.bool true))), 0, none⟩] none) .ret))) .skip)) (.seq (.seq (.reg [⟨(some 4), (.mv (.c (.int .i64 0))), 0, none⟩] none) (.block 2 (.loop [4, 0] (.seq (.seq (.reg [⟨(some 40), (.mv (.t 4)), 0, none⟩, ⟨(some 41), (.mv (.t 0)), 0, none⟩, ⟨(some 42), (.len 0 (.t 41)), 0, none⟩, ⟨(some 43), (.bin .num .lss (.t 40) (.t 42)), 0, none⟩] none) (.cond (.t 43) .skip (.exit 2))) (.seq (.block 3 (.seq (.reg [⟨(some 46), (.mv (.t 0)), 0, none⟩, ⟨(some 47), (.mv (.t 4)), 0, none⟩, ⟨(some 48), (.index (.t 46) (.t 47)), 0, none⟩, ⟨(some 49), (.call (.c (.fn 156)) [(.t 48)]), 0, none⟩, ⟨(some 50), (.un .not (.t 49)), 2, none⟩, ⟨(some 51), (.mv (.t 50)), 2, none⟩, ⟨(some 52), (.mv (.t 4)), 2, (some (51, true))⟩, ⟨(some 53), (.bin .num .eql (.t 52) (.c (.int .i64 0))), 2, (some (51, true))⟩, ⟨(some 54), (.mv (.t 53)), 2, (some (51, true))⟩, ⟨(some 55), (.mv (.t 0)), 2, (some (54, false))⟩, ⟨(some 56), (.mv (.t 4)), 2, (some (54, false))⟩, ⟨(some 57), (.index (.t 55) (.t 56)), 2, (some (54, false))⟩, ⟨(some 58), (.call (.c (.fn 155)) [(.t 57)]), 2, (some (54, false))⟩, ⟨(some 59), (.un .not (.t 58)), 4, (some (54, false))⟩, ⟨(some 60), (.pick (.t 54) (.c (.bool true)) (.t 59)), 4, (some (51, true))⟩, ⟨(some 61), (.pick (.t 51) (.t 60) (.c (.bool false))), 4, none⟩] none) (.cond (.t 61) (.seq (.reg [⟨(some 2), (.mv (.c (.bool false))), 0, none⟩] none) .ret) .skip))) (.reg [⟨(some 44), (.mv (.t 4)), 0, none⟩, ⟨(some 45), (.bin .num .add (.t 44) (.c (.int .i64 1))), 0, none⟩, ⟨(some 4), (.mv (.t 45)), 0, none⟩] none)))))) (.seq (.reg [⟨(some 2), (.mv (.c (.bool true))), 0, none⟩] none) .ret)))))
def rs_rname : List IRes := [(.tmp 2)]
abbrev nt_rname : Nat := 62
def T_rname : Tab := tab [(155, .pure (preT (fun _ : UInt8 × Unit => true)) (valT (fun x : UInt8 × Unit => digB x.1))), (156, .pure (preT (fun _ : UInt8 × Unit => true)) (valT (fun x : UInt8 × Unit => lowB x.1)))]
theorem rname_s {G : PV -> Prop} (s : List UInt8) (h : if ((↑(List.length s) : Int) == 0) = true then G ((.bool false)) else (if (decide ((↑(List.length s) : Int) > 30)) = true then G ((.bool false)) else ((decide (0 <= 0) && decide (Int.toNat 0 < List.length s)) = true ∧ (if ((↑(UInt8.toNat (List.getD s (Int.toNat 0) (0 : UInt8))) : Int) == 95) = true then if (decide ((↑(List.length s) : Int) < 2)) = true then G ((.bool false)) else (if (decide ((↑(List.length s) : Int) > 10)) = true then G ((.bool false)) else ((decide (0 <= 1) && decide (Int.toNat 1 < List.length s)) = true ∧ (if ((↑(UInt8.toNat (List.getD s (Int.toNat 1) (0 : UInt8))) : Int) == 48) = true then G ((.bool false)) else (At T_rname 0 (endP' rs_rname G) ic_rname 0 62 [(0, (.pv (.str s))), (3, (.pv (.int .i64 1)))] [])))) else (At T_rname 0 (endP' rs_rname G) ic_rname 1 62 [(0, (.pv (.str s))), (4, (.pv (.int .i64 0)))] []))))) : Gets T_rname 0 (endP' rs_rname G) ic_rname [] (st0 62 [.str s]) := Gets.tp (.lit (.ask (.lit (.lit (.lit (.lit (.nil))))) (.lit (.lit (.lit (.lit (.ask (.nil) (.req (.lit (.ask (.lit (.ask (.lit (.lit (.lit (.lit (.lit (.lit (.lit (.lit (.nil))))))))) (.lit (.lit (.lit (.lit (.ask (.lit (.lit (.lit (.lit (.nil))))) (.lit (.req (.lit (.lit (.lit (.ask (.nil) (.nil)))))))))))))) (.nil))))))))))) h (by kernel_rfl)
theorem rname_h0 {G : PV -> Prop} (s : List UInt8) (i : Int) (h : if (decide (i < (↑(List.length s) : Int))) = true then (decide (0 <= i) && decide (Int.toNat i < List.length s)) = true ∧ ((Go.Pl.preT (fun (x : UInt8 × Unit) => true) [(.int IntKind.u8 (↑(UInt8.toNat (List.getD s (Int.toNat i) (0 : UInt8))) : Int))]) = true ∧ (∃ y0 : Bool, AV.pv (valT (fun (x : UInt8 × Unit) => digB x.1) [(.int IntKind.u8 (↑(UInt8.toNat (List.getD s (Int.toNat i) (0 : UInt8))) : Int))]) = AV.pv (enc y0) ∧ (if (!y0) = true then G ((.bool false)) else (At T_rname 0 (endP' rs_rname G) ic_rname 0 62 [(0, (.pv (.str s))), (3, (.pv (.int .i64 (IntKind.wrap IntKind.i64 (i + 1)))))] [])))) else (G ((.bool true)))) : At T_rname 0 (endP' rs_rname G) ic_rname 0 62 [(0, .pv (.str s)), (3, .pv (.int .i64 i))] [] := At.tp (.lit (.ask (.req (.req (.abs (Bool) (fun YY => AV.pv (enc YY)) (.ask (.nil) (.lit (.nil)))))) (.nil))) h (by kernel_rfl)
theorem rname_h1 {G : PV -> Prop} (s : List UInt8) (i : Int) (h : if (decide (i < (↑(List.length s) : Int))) = true then (decide (0 <= i) && decide (Int.toNat i < List.length s)) = true ∧ ((Go.Pl.preT (fun (x : UInt8 × Unit) => true) [(.int IntKind.u8 (↑(UInt8.toNat (List.getD s (Int.toNat i) (0 : UInt8))) : Int))]) = true ∧ (∃ y0 : Bool, AV.pv (valT (fun (x : UInt8 × Unit) => lowB x.1) [(.int IntKind.u8 (↑(UInt8.toNat (List.getD s (Int.toNat i) (0 : UInt8))) : Int))]) = AV.pv (enc y0) ∧ (if (!y0) = true then if (i == 0) = true then G ((.bool false)) else ((decide (0 <= i) && decide (Int.toNat i < List.length s)) = true ∧ ((Go.Pl.preT (fun (x : UInt8 × Unit) => true) [(.int IntKind.u8 (↑(UInt8.toNat (List.getD s (Int.toNat i) (0 : UInt8))) : Int))]) = true ∧ (∃ y1 : Bool, AV.pv (valT (fun (x : UInt8 × Unit) => digB x.1) [(.int IntKind.u8 (↑(UInt8.toNat (List.getD s (Int.toNat i) (0 : UInt8))) : Int))]) = AV.pv (enc y1) ∧ (if (!y1) = true then G ((.bool false)) else (At T_rname 0 (endP' rs_rname G) ic_rname 1 62 [(0, (.pv (.str s))), (4, (.pv (.int .i64 (IntKind.wrap IntKind.i64 (i + 1)))))] []))))) else (At T_rname 0 (endP' rs_rname G) ic_rname 1 62 [(0, (.pv (.str s))), (4, (.pv (.int .i64 (IntKind.wrap IntKind.i64 (i + 1)))))] [])))) else (G ((.bool true)))) : At T_rname 0 (endP' rs_rname G) ic_rname 1 62 [(0, .pv (.str s)), (4, .pv (.int .i64 i))] [] := At.tp (.lit (.ask (.req (.req (.abs (Bool) (fun YY => AV.pv (enc YY)) (.ask (.lit (.lit (.lit (.ask (.lit (.lit (.lit (.lit (.lit (.lit (.lit (.lit (.nil))))))))) (.lit (.lit (.req (.lit (.req (.abs (Bool) (fun YY => AV.pv (enc YY)) (.lit (.lit (.lit (.lit (.ask (.nil) (.lit (.nil))))))))))))))))) (.lit (.lit (.lit (.lit (.lit (.lit (.nil))))))))))) (.nil))) h (by kernel_rfl)
def ic_rvalid : IC := (.seq (.reg [⟨(some 1), (.box 2 (.t 0)), 0, none⟩, ⟨(some 2), (.mv (.c (.bool false))), 1, none⟩] none) (.seq (.seq (.reg [⟨(some 5), (.faddr 0 (.t 1)), 0, none⟩, ⟨(some 6), (.load false [(.int .i64)] (.t 5)), 0, none⟩, ⟨(some 7), (.call (.c (.fn 83)) [(.t 6)]), 0, none⟩, ⟨(some 8), (.un .not (.t 7)), 2, none⟩, ⟨(some 9), (.mv (.t 8)), 2, none⟩, ⟨(some 10), (.faddr 1 (.t 1)), 2, (some (9, false))⟩, ⟨(some 11), (.load false [(.sl 2)] (.t 10)), 2, (some (9, false))⟩, ⟨(some 12), (.len 1 (.t 11)), 2, (some (9, false))⟩, ⟨(some 13), (.bin .num .gtr (.t 12) (.c (.int .i64 12))), 2, (some (9, false))⟩, ⟨(some 14), (.pick (.t 9) (.c (.bool true)) (.t 13)), 2, none⟩] none) (.cond (.t 14) (.seq (.reg [⟨(some 2), (.mv (.c (.bool false))), 0, none⟩] none) .ret) .skip)) (.seq (.seq (.reg [⟨(some 3), (.mv (.c (.int .i64 0))), 0, none⟩] none) (.block 0 (.loop [3, 1] (.seq (.seq (.reg [⟨(some 15), (.mv (.t 3)), 0, none⟩, ⟨(some 16), (.faddr 1 (.t 1)), 0, none⟩, ⟨(some 17), (.load false [(.sl 2)] (.t 16)), 0, none⟩, ⟨(some 18), (.len 1 (.t 17)), 0, none⟩, ⟨(some 19), (.bin .num .lss (.t 15) (.t 18)), 0, none⟩] none) (.cond (.t 19) .skip (.exit 0))) (.seq (.block 1 (.seq (.reg [⟨(some 22), (.faddr 1 (.t 1)), 0, none⟩, ⟨(some 23), (.load false [(.sl 2)] (.t 22)), 0, none⟩, ⟨(some 24), (.mv (.t 3)), 0, none⟩, ⟨(some 25), (.iaddr 2 (.t 23) (.t 24)), 0, none⟩, ⟨(some 26), (.load true [.str, (.int .i64)] (.t 25)), 0, none⟩, ⟨(some 4), (.alloc (.agg [(.str []), (.int .i64 0)])), 0, none⟩, ⟨none, (.store 2 (.t 4) (.t 26)), 1, none⟩] none) (.seq (.reg [⟨(some 27), (.faddr 0 (.t 4)), 0, none⟩, ⟨(some 28), (.load false [.str] (.t 27)), 0, none⟩, ⟨(some 29), (.call (.c (.fn 84)) [(.t 28)]), 0, none⟩, ⟨(some 30), (.un .not (.t 29)), 2, none⟩, ⟨(some 31), (.mv (.t 30)), 2, none⟩, ⟨(some 32), (.faddr 1 (.t 4)), 2, (some (31, false))⟩, ⟨(some 33), (.load false [(.int .i64)] (.t 32)), 2, (some (31, false))⟩, ⟨(some 34), (.bin .num .eql (.t 33) (.c (.int .i64 0))), 2, (some (31, false))⟩, ⟨(some 35), (.pick (.t 31) (.c (.bool true)) (.t 34)), 2, none⟩, ⟨(some 36), (.mv (.t 35)), 2, none⟩, ⟨(some 37), (.faddr 1 (.t 4)), 2, (some (36, false))⟩, ⟨(some 38), (.load false [(.int .i64)] (.t 37)), 2, (some (36, false))⟩, ⟨(some 39), (.call (.c (.fn 83)) [(.t 38)]), 2, (some (36, false))⟩, ⟨(some 40), (.un .not (.t 39)), 4, (some (36, false))⟩, ⟨(some 41), (.pick (.t 36) (.c (.bool true)) (.t 40)), 4, none⟩, ⟨(some 42), (.mv (.t 41)), 4, none⟩, ⟨(some 43), (.mv (.t 3)), 4, (some (42, false))⟩, ⟨(some 44), (.bin .num .gtr (.t 43) (.c (.int .i64 0))), 4, (some (42, false))⟩, ⟨(some 45), (.mv (.t 44)), 4, (some (42, false))⟩, ⟨(some 46), (.faddr 1 (.t 1)), 4, (some (45, true))⟩, ⟨(some 47), (.load false [(.sl 2)] (.t 46)), 4, (some (45, true))⟩, ⟨(some 48), (.mv (.t 3)), 4, (some (45, true))⟩, ⟨(some 49), (.bin .num .sub (.t 48) (.c (.int .i64 1))), 4, (some (45, true))⟩, ⟨(some 50), (.iaddr 2 (.t 47) (.t 49)), 4, (some (45, true))⟩, ⟨(some 51), (.faddr 0 (.t 50)), 4, (some (45, true))⟩, ⟨(some 52), (.load false [.str] (.t 51)), 4, (some (45, true))⟩, ⟨(some 53), (.faddr 0 (.t 4)), 4, (some (45, true))⟩, ⟨(some 54), (.load false [.str] (.t 53)), 4, (some (45, true))⟩, ⟨(some 55), (.bin .num .geq (.t 52) (.t 54)), 4, (some (45, true))⟩, ⟨(some 56), (.pick (.t 45) (.t 55) (.c (.bool false))), 4, (some (42, false))⟩, ⟨(some 57), (.pick (.t 42) (.c (.bool true)) (.t 56)), 4, none⟩] (some [[], [0], [1, 0], [2, 1, 0], [3, 2, 1, 0], [4, 3, 2, 1, 0], [5, 4, 3, 2, 1, 0], [6, 4, 5, 3, 2, 1, 0], [4, 7, 3, 2, 1, 0, 6, 5], [8, 4, 7, 3, 2, 1, 0, 6, 5], [9, 8, 4, 7, 3, 2, 1, 0, 6, 5], [10, 9, 8, 4, 7, 3, 2, 1, 0, 6, 5], [11, 9, 10, 8, 4, 7, 3, 2, 1, 0, 6, 5], [12, 9, 11, 10, 8, 4, 7, 3, 2, 1, 0, 6, 5], [9, 13, 8, 4, 7, 3, 2, 1, 0, 6, 5, 12, 11, 10], [14, 12, 9, 13, 8, 4, 7, 3, 2, 1, 0, 6, 5, 11, 10], [15, 14, 12, 9, 13, 8, 4, 7, 3, 2, 1, 0, 6, 5, 11, 10], [16, 15, 14, 12, 9, 13, 8, 4, 7, 3, 2, 1, 0, 6, 5, 11, 10], [17, 15, 16, 14, 12, 9, 13, 8, 4, 7, 3, 2, 1, 0, 6, 5, 11, 10], [18, 17, 15, 16, 14, 12, 9, 13, 8, 4, 7, 3, 2, 1, 0, 6, 5, 11, 10], [19, 18, 17, 15, 16, 14, 12, 9, 13, 8, 4, 7, 3, 2, 1, 0, 6, 5, 11, 10], [18, 17, 15, 16, 14, 12, 9, 13, 8, 4, 7, 3, 2, 1, 0, 6, 5, 11, 10], [21, 18, 17, 15, 16, 14, 12, 9, 13, 8, 4, 7, 3, 2, 1, 0, 6, 5, 11, 10], [20, 22, 18, 19, 17, 15, 16, 14, 12, 9, 13, 8, 4, 7, 3, 2, 1, 0, 6, 5, 11, 10, 21], [23, 18, 20, 22, 19, 17, 15, 16, 14, 12, 9, 13, 8, 4, 7, 3, 2, 1, 0, 6, 5, 11, 10, 21], [24, 18, 23, 20, 22, 19, 17, 15, 16, 14, 12, 9, 13, 8, 4, 7, 3, 2, 1, 0, 6, 5, 11, 10, 21], [18, 17, 15, 16, 14, 12, 9, 13, 8, 4, 7, 3, 2, 1, 0, 6, 5, 11, 10], [26, 18, 17, 15, 16, 14, 12, 9, 13, 8, 4, 7, 3, 2, 1, 0, 6, 5, 11, 10], [25, 27, 18, 24, 23, 20, 22, 19, 17, 15, 16, 14, 12, 9, 13, 8, 4, 7, 3, 2, 1, 0, 6, 5, 11, 10, 21, 26], [18, 28, 15, 17, 16, 14, 12, 9, 13, 8, 4, 7, 3, 2, 1, 0, 6, 5, 11, 10, 25, 27, 24, 23, 20, 22, 19, 21, 26], [15, 29, 14, 12, 9, 13, 8, 4, 7, 3, 2, 1, 0, 6, 5, 11, 10, 18, 28, 17, 16, 25, 27, 24, 23, 20, 22, 19, 21, 26]])) (.cond (.t 57) (.seq (.reg [⟨(some 2), (.mv (.c (.bool false))), 0, none⟩] none) .ret) .skip)))) (.reg [⟨(some 20), (.mv (.t 3)), 0, none⟩, ⟨(some 21), (.bin .num .add (.t 20) (.c (.int .i64 1))), 0, none⟩, ⟨(some 3), (.mv (.t 21)), 0, none⟩] none)))))) (.seq (.reg [⟨(some 2), (.mv (.c (.bool true))), 0, none⟩] none) .ret))))
def rs_rvalid : List IRes := [(.tmp 2)]
abbrev nt_rvalid : Nat := 58
def T_rvalid : Tab := tab [(83, .pure (preT (fun _ : Int × Unit => true)) (valT (fun x : Int × Unit => coefIn x.1))), (84, .pure (preT (fun _ : Str × Unit => true)) (valT (fun x : Str × Unit => nameB x.1)))]
theorem rvalid_s {G : PV -> Prop} (l : Lin) (h : ∃ y0 : Bool, AV.pv (valT (fun (x : Int × Unit) => coefIn x.1) [(.int .i64 l.k)]) = AV.pv (enc y0) ∧ (if (!y0) = true then G ((.bool false)) else (if (decide ((↑(List.length (List.map enc l.t)) : Int) > 12)) = true then G ((.bool false)) else (At T_rvalid 0 (endP' rs_rvalid G) ic_rvalid 0 58 [(1, (.ptr 0 0)), (3, (.pv (.int .i64 0)))] [(.obj (.box [(.pv (.int .i64 l.k)), (.pv (.sl 2 false (List.map enc l.t)))]))])))) : Gets T_rvalid 0 (endP' rs_rvalid G) ic_rvalid [] (st0 58 [enc l]) := Gets.tp (.lit (.abs (Bool) (fun YY => AV.pv (enc YY)) (.ask (.lit (.lit (.lit (.lit (.lit (.nil)))))) (.lit (.lit (.lit (.lit (.lit (.ask (.nil) (.nil)))))))))) h (by kernel_rfl)
theorem rvalid_h0 {G : PV -> Prop} (l : Lin) (i : Int) (h : if (decide (i < (↑(List.length (List.map enc l.t)) : Int))) = true then (decide (0 <= i) && decide (Int.toNat i < List.length (List.map enc l.t)) && Enc.sz Coef == 2) = true ∧ (∃ y0 : Coef, AV.pv (PV.rptr (PV.cells (List.getD (List.map enc l.t) (Int.toNat i) default))) = AV.pv (PV.rptr (PV.cells ((enc) y0))) ∧ (∃ y1 : Bool, AV.pv (valT (fun (x : Str × Unit) => nameB x.1) [(.str (PV.asStr (List.getD (PV.cells (enc y0)) 0 default)))]) = AV.pv (enc y1) ∧ (if (!y1) = true then G ((.bool false)) else (if (PV.asInt (List.getD (PV.cells (enc y0)) (0 + 1) default) == 0) = true then G ((.bool false)) else (∃ y2 : Bool, AV.pv (valT (fun (x : Int × Unit) => coefIn x.1) [(.int .i64 (PV.asInt (List.getD (PV.cells (enc y0)) (0 + 1) default)))]) = AV.pv (enc y2) ∧ (if (!y2) = true then G ((.bool false)) else (if (decide (i > 0)) = true then (decide (0 <= IntKind.wrap IntKind.i64 (i - 1)) && decide (Int.toNat (IntKind.wrap IntKind.i64 (i - 1)) < List.length (List.map enc l.t)) && Enc.sz Coef == 2) = true ∧ (∃ y3 : Coef, AV.pv (PV.rptr (PV.cells (List.getD (List.map enc l.t) (Int.toNat (IntKind.wrap IntKind.i64 (i - 1))) default))) = AV.pv (PV.rptr (PV.cells ((enc) y3))) ∧ (if (!Op.bytesLess (PV.asStr (List.getD (List.drop 0 (PV.cells (enc y3))) 0 default)) (PV.asStr (List.getD (PV.cells (enc y0)) 0 default))) = true then G ((.bool false)) else (At T_rvalid 0 (endP' rs_rvalid G) ic_rvalid 0 58 [(1, (.ptr 0 0)), (3, (.pv (.int .i64 (IntKind.wrap IntKind.i64 (i + 1)))))] [(.obj (.box [(.pv (.int .i64 l.k)), (.pv (.sl 2 false (List.map enc l.t)))]))]))) else (At T_rvalid 0 (endP' rs_rvalid G) ic_rvalid 0 58 [(1, (.ptr 0 0)), (3, (.pv (.int .i64 (IntKind.wrap IntKind.i64 (i + 1)))))] [(.obj (.box [(.pv (.int .i64 l.k)), (.pv (.sl 2 false (List.map enc l.t)))]))])))))))) else (G ((.bool true)))) : At T_rvalid 0 (endP' rs_rvalid G) ic_rvalid 0 58 [(1, .ptr 0 0), (3, .pv (.int .i64 i))] [.obj (.box [.pv (.int .i64 l.k), .pv (enc l.t)])] := At.tp (.lit (.ask (.req (.abs (Coef) (fun YY => AV.pv (PV.rptr (PV.cells ((enc) YY)))) (.lit (.lit (.abs (Bool) (fun YY => AV.pv (enc YY)) (.ask (.lit (.lit (.lit (.lit (.lit (.lit (.lit (.lit (.lit (.lit (.lit (.lit (.lit (.lit (.nil))))))))))))))) (.lit (.lit (.lit (.lit (.ask (.lit (.lit (.lit (.lit (.lit (.lit (.lit (.lit (.lit (.lit (.nil))))))))))) (.lit (.lit (.lit (.abs (Bool) (fun YY => AV.pv (enc YY)) (.lit (.lit (.ask (.lit (.lit (.lit (.lit (.lit (.nil)))))) (.lit (.lit (.lit (.ask (.lit (.lit (.lit (.lit (.lit (.req (.abs (Coef) (fun YY => AV.pv (PV.rptr (PV.cells ((enc) YY)))) (.lit (.lit (.lit (.lit (.lit (.lit (.lit (.lit (.lit (.lit (.ask (.nil) (.lit (.nil)))))))))))))))))))) (.lit (.lit (.lit (.lit (.lit (.lit (.lit (.lit (.lit (.lit (.lit (.lit (.lit (.lit (.nil))))))))))))))))))))))))))))))))))))) (.nil))) h (by kernel_rfl)
def ic_rfew : IC := (.seq (.reg [⟨(some 2), (.box 2 (.t 0)), 0, none⟩, ⟨(some 4), (.mv (.c (.bool false))), 1, none⟩] none) (.seq (.seq (.reg [⟨(some 5), (.mv (.c (.int .i64 0))), 0, none⟩] none) (.block 0 (.loop [5, 2, 1] (.seq (.seq (.reg [⟨(some 6), (.mv (.t 5)), 0, none⟩, ⟨(some 7), (.faddr 1 (.t 2)), 0, none⟩, ⟨(some 8), (.load false [(.sl 2)] (.t 7)), 0, none⟩, ⟨(some 9), (.len 1 (.t 8)), 0, none⟩, ⟨(some 10), (.bin .num .lss (.t 6) (.t 9)), 0, none⟩] none) (.cond (.t 10) .skip (.exit 0))) (.seq (.block 1 (.seq (.reg [⟨(some 13), (.faddr 1 (.t 2)), 0, none⟩, ⟨(some 14), (.load false [(.sl 2)] (.t 13)), 0, none⟩, ⟨(some 15), (.mv (.t 5)), 0, none⟩, ⟨(some 16), (.iaddr 2 (.t 14) (.t 15)), 0, none⟩, ⟨(some 17), (.faddr 0 (.t 16)), 0, none⟩, ⟨(some 18), (.load false [.str] (.t 17)), 0, none⟩, ⟨(some 19), (.len 0 (.t 18)), 0, none⟩, ⟨(some 20), (.bin .num .gtr (.t 19) (.c (.int .i64 40))), 0, none⟩] none) (.cond (.t 20) (.seq (.reg [⟨(some 4), (.mv (.c (.bool false))), 0, none⟩] none) .ret) .skip))) (.reg [⟨(some 11), (.mv (.t 5)), 0, none⟩, ⟨(some 12), (.bin .num .add (.t 11) (.c (.int .i64 1))), 0, none⟩, ⟨(some 5), (.mv (.t 12)), 0, none⟩] none)))))) (.seq (.reg [⟨(some 21), (.faddr 1 (.t 2)), 0, none⟩, ⟨(some 22), (.load false [(.sl 2)] (.t 21)), 0, none⟩, ⟨(some 23), (.len 1 (.t 22)), 0, none⟩, ⟨(some 24), (.mv (.t 1)), 0, none⟩, ⟨(some 25), (.bin .num .leq (.t 23) (.t 24)), 0, none⟩, ⟨(some 4), (.mv (.t 25)), 0, none⟩] none) .ret)))
def rs_rfew : List IRes := [(.tmp 4)]
abbrev nt_rfew : Nat := 26
def T_rfew : Tab := tab []
theorem rfew_s {G : PV -> Prop} (l : Lin) (n : Int) (h : At T_rfew 0 (endP' rs_rfew G) ic_rfew 0 26 [(1, (.pv (.int .i64 n))), (2, (.ptr 0 0)), (5, (.pv (.int .i64 0)))] [(.obj (.box [(.pv (.int .i64 l.k)), (.pv (.sl 2 false (List.map enc l.t)))]))]) : Gets T_rfew 0 (endP' rs_rfew G) ic_rfew [] (st0 26 [enc l, enc n]) := Gets.tp (.nil) h (by kernel_rfl)
theorem rfew_h0 {G : PV -> Prop} (l : Lin) (n : Int) (i : Int) (h : if (decide (i < (↑(List.length (List.map enc l.t)) : Int))) = true then (decide (0 <= i) && decide (Int.toNat i < List.length (List.map enc l.t)) && Enc.sz Coef == 2) = true ∧ (∃ y0 : Coef, AV.pv (PV.rptr (PV.cells (List.getD (List.map enc l.t) (Int.toNat i) default))) = AV.pv (PV.rptr (PV.cells ((enc) y0))) ∧ (if (decide ((↑(List.length (PV.asStr (List.getD (List.drop 0 (PV.cells (enc y0))) 0 default))) : Int) > 40)) = true then G ((.bool false)) else (At T_rfew 0 (endP' rs_rfew G) ic_rfew 0 26 [(1, (.pv (.int .i64 n))), (2, (.ptr 0 0)), (5, (.pv (.int .i64 (IntKind.wrap IntKind.i64 (i + 1)))))] [(.obj (.box [(.pv (.int .i64 l.k)), (.pv (.sl 2 false (List.map enc l.t)))]))]))) else (G ((.bool (decide ((↑(List.length (List.map enc l.t)) : Int) <= n)))))) : At T_rfew 0 (endP' rs_rfew G) ic_rfew 0 26 [(1, .pv (.int .i64 n)), (2, .ptr 0 0), (5, .pv (.int .i64 i))] [.obj (.box [.pv (.int .i64 l.k), .pv (enc l.t)])] := At.tp (.lit (.ask (.req (.abs (Coef) (fun YY => AV.pv (PV.rptr (PV.cells ((enc) YY)))) (.lit (.lit (.ask (.nil) (.lit (.nil))))))) (.lit (.nil)))) h (by kernel_rfl)
-- IMPOSSIBLE
end Go.Pl

namespace Go.Pl
open Go.RowKit
open Enc (enc dec is)
open EncL (encL decL isL)
theorem dig_eq (c : UInt8) : digB c = (decide ((c.toNat : Int) ≥ 48) && decide ((c.toNat : Int) <= 57)) := by
 simp only [digB, UInt8.le_iff_toNat_le, ge_iff_le]
 have e1 : (48 : UInt8).toNat = 48 := rfl
 have e2 : (57 : UInt8).toNat = 57 := rfl
 rw [e1, e2]
 congr 1 <;> exact decide_eq_decide.2 (by omega)
theorem low_eq (c : UInt8) : lowB c = (decide ((c.toNat : Int) ≥ 97) && decide ((c.toNat : Int) <= 122)) := by
 simp only [lowB, UInt8.le_iff_toNat_le, ge_iff_le]
 have e1 : (97 : UInt8).toNat = 97 := rfl
 have e2 : (122 : UInt8).toNat = 122 := rfl
 rw [e1, e2]
 congr 1 <;> exact decide_eq_decide.2 (by omega)
theorem and_if {a b : Bool} {G : PV -> Prop} (h : G (.bool (a && b))) : if a = true then G (.bool b) else G (.bool false) := by cases a <;> simpa using h
theorem rdig_run : ∀ a : UInt8 × Unit, true = true -> Gets T_rdig 0 (endP' rs_rdig (Fits (digB a.1))) ic_rdig [] (st0 nt_rdig (encL a)) := by
 rintro ⟨c, ⟨⟩⟩ -
 exact rdig_s c (and_if (fitB (dig_eq c).symm))
theorem ldig_run : ∀ a : UInt8 × Unit, true = true -> Gets T_ldig 0 (endP' rs_ldig (Fits (digB a.1))) ic_ldig [] (st0 nt_ldig (encL a)) := by
 rintro ⟨c, ⟨⟩⟩ -
 exact ldig_s c (and_if (fitB (dig_eq c).symm))
theorem rlet_run : ∀ a : UInt8 × Unit, true = true -> Gets T_rlet 0 (endP' rs_rlet (Fits (lowB a.1))) ic_rlet [] (st0 nt_rlet (encL a)) := by
 rintro ⟨c, ⟨⟩⟩ -
 exact rlet_s c (and_if (fitB (low_eq c).symm))
theorem rsmall_run : ∀ a : Int × Unit, true = true -> Gets T_rsmall 0 (endP' rs_rsmall (Fits (coefIn a.1))) ic_rsmall [] (st0 nt_rsmall (encL a)) := by
 rintro ⟨n, ⟨⟩⟩ -
 exact rsmall_s n (and_if (fitB rfl))
theorem lin_run : ∀ a : Int × Unit, true = true -> Gets T_lin 0 (endP' rs_lin (Fits (coefIn a.1))) ic_lin [] (st0 nt_lin (encL a)) := by
 rintro ⟨n, ⟨⟩⟩ -
 exact lin_s n (and_if (fitB rfl))
theorem rname_l0 (s : List UInt8) (hs : s.length <= 30) : ∀ (j i : Nat), j + i = s.length -> At T_rname 0 (endP' rs_rname (Fits ((s.drop i).all digB))) ic_rname 0 62 [(0, .pv (.str s)), (3, .pv (.int .i64 i))] [] := by
 intro j
 induction j with
 | zero =>
  intro i hi
  refine rname_h0 s i ?_
  rw [if_neg (lt_no' (by omega))]
  exact fitB (by rw [List.drop_of_length_le (by omega)]; rfl)
 | succ j ih =>
  intro i hi
  have hlt : i < s.length := by omega
  refine rname_h0 s i ?_
  rw [if_pos (lt_ok' hlt)]
  have eg : List.getD s (Int.toNat (i : Int)) 0 = s[i] := by simp [List.getD, hlt]
  rw [eg, next (by omega)]
  refine ⟨by simp [hlt], pre_enc (s[i], ()) rfl rfl, ex_enc (s[i], ()) rfl ?_⟩
  rw [List.drop_eq_getElem_cons hlt, List.all_cons]
  show if (!digB s[i]) = true then _ else _
  cases hd : digB s[i]
  ·exact fitB rfl
  ·rw [if_neg (by simp)]
   simpa using ih (i + 1) (by omega)
theorem rname_l1 (s : List UInt8) (hs : s.length <= 30) : ∀ (j i : Nat), j + i = s.length -> 0 < i -> At T_rname 0 (endP' rs_rname (Fits ((s.drop i).all fun c => lowB c || digB c))) ic_rname 1 62 [(0, .pv (.str s)), (4, .pv (.int .i64 i))] [] := by
 intro j
 induction j with
 | zero =>
  intro i hi _
  refine rname_h1 s i ?_
  rw [if_neg (lt_no' (by omega))]
  exact fitB (by rw [List.drop_of_length_le (by omega)]; rfl)
 | succ j ih =>
  intro i hi h0
  have hlt : i < s.length := by omega
  refine rname_h1 s i ?_
  rw [if_pos (lt_ok' hlt)]
  have eg : List.getD s (Int.toNat (i : Int)) 0 = s[i] := by simp [List.getD, hlt]
  rw [eg, next (by omega)]
  refine ⟨by simp [hlt], pre_enc (s[i], ()) rfl rfl, ex_enc (s[i], ()) rfl ?_⟩
  rw [List.drop_eq_getElem_cons hlt, List.all_cons]
  show if (!lowB s[i]) = true then _ else _
  cases hd : lowB s[i]
  ·rw [if_nf, if_neg (by simp; omega)]
   refine ⟨by simp [hlt], pre_enc (s[i], ()) rfl rfl, ex_enc (s[i], ()) rfl ?_⟩
   show if (!digB s[i]) = true then _ else _
   cases hd : digB s[i]
   ·exact fitB rfl
   ·rw [if_neg (by simp)]
    simpa using ih (i + 1) (by omega) (by omega)
  ·rw [if_neg (by simp)]
   simpa using ih (i + 1) (by omega) (by omega)
theorem rname_run : ∀ a : Str × Unit, true = true -> Gets T_rname 0 (endP' rs_rname (Fits (nameB a.1))) ic_rname [] (st0 nt_rname (encL a)) := by
 rintro ⟨⟨s⟩, ⟨⟩⟩ -
 refine rname_s s ?_
 cases s with
 | nil => exact fitB rfl
 | cons c r =>
  rw [if_neg (by simp; omega)]
  by_cases h30 : ((c :: r).length : Int) > 30
  ·rw [if_pos (by simpa using h30)]
   refine fitB ?_
   have : ¬ r.length <= 29 := by simp at h30; omega
   have h9 : ¬ r.length <= 9 := by omega
   simp [nameB, this, h9]
  ·rw [if_neg (by simpa using h30)]
   have hl : (c :: r).length <= 30 := by omega
   refine ⟨by simp, ?_⟩
   show if ((c.toNat : Int) == 95) = true then _ else _
   by_cases hc : c = 95
   ·subst hc
    rw [if_pos (by rfl)]
    simp only [nameB, if_true]
    cases r with
    | nil => exact fitB rfl
    | cons d r =>
     rw [if_neg (by simp; omega)]
     by_cases h10 : ((95 :: d :: r : List UInt8).length : Int) > 10
     ·rw [if_pos (by simpa using h10)]
      refine fitB ?_
      have : decide ((d :: r).length <= 9) = false := decide_eq_false (by simp at h10 ⊢; omega)
      rw [this, Bool.and_false]
     ·rw [if_neg (by simpa using h10)]
      refine ⟨by simp, ?_⟩
      show if ((d.toNat : Int) == 48) = true then _ else _
      by_cases hd : d = 48
      ·subst hd
       rw [if_pos (by rfl)]
       exact fitB (by simp)
      ·rw [if_neg (by exact u8_no 48 hd (by omega))]
       have h := rname_l0 (95 :: d :: r) hl (d :: r).length 1 (by simp)
       have e : (d :: r).length <= 9 := by simp at h10 ⊢; omega
       have e2 : ((d :: r).all digB && !(d :: r).isEmpty && decide ((d :: r).head? ≠ some 48) && decide ((d :: r).length <= 9)) = (d :: r).all digB := by rw [decide_eq_true e, show decide ((d :: r).head? ≠ some (48 : UInt8)) = true by simpa using hd]; simp
       rw [e2]
       exact h
   ·rw [if_neg (by exact u8_no 95 hc (by omega))]
    refine rname_h1 (c :: r) 0 ?_
    rw [if_pos (by simp)]
    refine ⟨by simp, pre_enc (c, ()) rfl rfl, ex_enc (c, ()) rfl ?_⟩
    show if (!lowB c) = true then _ else _
    have en : nameB ⟨c :: r⟩ = (lowB c && r.all (fun c => lowB c || digB c)) := by
     have : r.length <= 29 := by simp at hl; omega
     simp [nameB, hc, this]
    rw [en]
    cases hlow : lowB c
    ·rw [if_nf, if_pos (by rfl)]
     exact fitB rfl
    ·rw [if_neg (by simp)]
     exact rname_l1 (c :: r) hl r.length 1 (by simp) (by omega)
end Go.Pl

namespace Go.Pl
open Go.RowKit
open Enc (enc dec is)
open EncL (encL decL isL)
def chkT (prev : Option (List UInt8)) : List Coef -> Bool
 | [] => true
 | t :: r => nameB t.v && decide (t.c ≠ 0) && coefIn t.c && (match prev with | none => true | some p => decide (p < t.v.s)) && chkT (some t.v.s) r
theorem chk_cons (p : Option (List UInt8)) (t : Coef) (r : List Coef) : chkT p (t :: r) = (nameB t.v && decide (t.c ≠ 0) && coefIn t.c && (match p with | none => true | some p => decide (p < t.v.s)) && chkT (some t.v.s) r) := by cases p <;> rfl
theorem chk_some : ∀ (l : List Coef) (p : List UInt8), chkT (some p) l = (l.all (fun t => nameB t.v && decide (t.c ≠ 0) && coefIn t.c) && (match l with | [] => true | t :: _ => decide (p < t.v.s)) && ascB l)
 | [], p => by simp [chkT, ascB]
 | t :: r, p => by
  rw [chk_cons, chk_some r]
  cases r with
  | nil => simp [ascB]
  | cons u r =>
   simp only [List.all_cons, ascB]
   ac_rfl
theorem chk_none (l : List Coef) : chkT none l = (l.all (fun t => nameB t.v && decide (t.c ≠ 0) && coefIn t.c) && ascB l) := by
 cases l with
 | nil => simp [chkT, ascB]
 | cons t r =>
  rw [chk_cons, chk_some r]
  cases r with
  | nil => simp [ascB]
  | cons u r =>
   simp only [List.all_cons, ascB, Bool.and_true]
   ac_rfl
theorem valid_eq (l : Lin) : validL l = (coefIn l.k && decide (l.t.length <= 12) && chkT none l.t) := by
 rw [chk_none, validL]
 ac_rfl
def pvS (ts : List Coef) : Nat -> Option (List UInt8)
 | 0 => none
 | i + 1 => (ts[i]?).map (·.v.s)
theorem pred_ok {k : Nat} (h : k < 9223372036854775807) : IntKind.i64.wrap (((k + 1 : Nat) : Int) - 1) = (k : Int) := by rw [wrap64 (by omega) (by omega)]; omega
theorem rvalid_loop (l : Lin) (hl : l.t.length <= 9223372036854775807) : ∀ (j i : Nat), j + i = l.t.length -> At T_rvalid 0 (endP' rs_rvalid (Fits (chkT (pvS l.t i) (l.t.drop i)))) ic_rvalid 0 58 [(1, .ptr 0 0), (3, .pv (.int .i64 i))] [.obj (.box [.pv (.int .i64 l.k), .pv (enc l.t)])] := by
 intro j
 induction j with
 | zero =>
  intro i hi
  refine rvalid_h0 l i ?_
  rw [if_neg (lt_no (by omega))]
  exact fitB (by rw [List.drop_of_length_le (by omega)]; rfl)
 | succ j ih =>
  intro i hi
  have hlt : i < l.t.length := by omega
  have h := ih (i + 1) (by omega)
  refine rvalid_h0 l i ?_
  simp only [co1, co2, co3, co4]
  refine iteT (lt_ok hlt) ⟨idx_ok hlt rfl, el_ex hlt (ex_enc (l.t[i].v, ()) rfl (iteN (fun hn => ?_) fun hn => iteE (fun hc => ?_) fun hc => ex_enc (l.t[i].c, ()) rfl (iteN (fun hk => ?_) fun hk => ?_)))⟩
  all_goals rw [List.drop_eq_getElem_cons hlt, chk_cons]
  ·have hn : nameB l.t[i].v = false := hn
   exact fitB (by simp [hn])
  ·exact fitB (by simp [hc])
  ·have hk : coefIn l.t[i].c = false := hk
   exact fitB (by simp [hk])
  have hn : nameB l.t[i].v = true := hn
  have hk : coefIn l.t[i].c = true := hk
  rw [next (by omega), hn, hk, decide_eq_true hc]
  have ep : pvS l.t (i + 1) = some l.t[i].v.s := by simp [pvS, hlt]
  rw [ep] at h
  cases i with
  | zero => exact iteF (by simp) h
  | succ i =>
   refine iteT (by simp) ?_
   rw [pred_ok (by omega)]
   refine ⟨idx_ok (by omega) rfl, el_ex (by omega) ?_⟩
   have e2 : pvS l.t (i + 1) = some l.t[i].v.s := by simp [pvS, show i < l.t.length by omega]
   rw [e2]
   refine iteN (fun hb => ?_) fun hb => ?_
   all_goals
    have hb' := (bytesLess_eq l.t[i].v.s l.t[i + 1].v.s).symm.trans hb
    simp only [hb', Bool.and_true, Bool.true_and, Bool.and_false, Bool.false_and]
   ·exact fitB rfl
   ·exact h
theorem rvalid_run : ∀ a : Lin × Unit, linOk a.1 = true -> Gets T_rvalid 0 (endP' rs_rvalid (Fits (validL a.1))) ic_rvalid [] (st0 nt_rvalid (encL a)) := by
 rintro ⟨l, ⟨⟩⟩ hl
 have hl : l.t.length <= 9223372036854775807 := by simpa [linOk] using hl
 refine rvalid_s l (ex_enc (l.k, ()) rfl ?_)
 show if (!coefIn l.k) = true then _ else _
 show if (!coefIn l.k) = true then Fits (validL l) _ else if _ then Fits (validL l) _ else At T_rvalid 0 (endP' rs_rvalid (Fits (validL l))) ic_rvalid 0 58 _ _
 rw [valid_eq]
 cases hk : coefIn l.k
 ·exact fitB rfl
 rw [if_nt]
 by_cases h12 : l.t.length <= 12
 ·rw [if_neg (by simp; omega)]
  have h := rvalid_loop l hl l.t.length 0 (by omega)
  simp only [h12, decide_true, Bool.true_and]
  exact h
 ·rw [if_pos (by simp; omega)]
  exact fitB (by simp [h12])
theorem rfew_loop (l : Lin) (n : Int) (hl : l.t.length <= 9223372036854775807) : ∀ (j i : Nat), j + i = l.t.length -> At T_rfew 0 (endP' rs_rfew (Fits ((l.t.drop i).all (fun t => decide (t.v.s.length <= 40)) && decide ((l.t.length : Int) <= n)))) ic_rfew 0 26 [(1, .pv (.int .i64 n)), (2, .ptr 0 0), (5, .pv (.int .i64 i))] [.obj (.box [.pv (.int .i64 l.k), .pv (enc l.t)])] := by
 intro j
 induction j with
 | zero =>
  intro i hi
  exact rfew_h0 l n i (iteF (lt_no (by omega)) (fitB (by rw [List.drop_of_length_le (by omega), List.length_map]; rfl)))
 | succ j ih =>
  intro i hi
  have hlt : i < l.t.length := by omega
  have h := ih (i + 1) (by omega)
  refine rfew_h0 l n i (iteT (lt_ok hlt) ⟨idx_ok hlt rfl, el_ex hlt ?_⟩)
  rw [List.drop_eq_getElem_cons hlt, List.all_cons, next (by omega)]
  refine iteD (fun h40 => ?_) fun h40 => ?_
  ·have h40 : (l.t[i].v.s.length : Int) > 40 := h40
   exact fitB (by rw [decide_eq_false (show ¬ l.t[i].v.s.length <= 40 by omega)]; rfl)
  ·have h40 : ¬ (l.t[i].v.s.length : Int) > 40 := h40
   rw [decide_eq_true (show l.t[i].v.s.length <= 40 by omega), Bool.true_and]
   exact h
theorem rfew_run : ∀ a : Lin × Int × Unit, linOk a.1 = true -> Gets T_rfew 0 (endP' rs_rfew (Fits (few4 a.1 a.2.1))) ic_rfew [] (st0 nt_rfew (encL a)) := by
 rintro ⟨l, n, ⟨⟩⟩ hl
 exact rfew_s l n (rfew_loop l n (by simpa [linOk] using hl) l.t.length 0 (by omega))
end Go.Pl

namespace Go.Pl
open Go.RowKit
open Enc (enc dec is)
open EncL (encL decL isL)
end Go.Pl

namespace Go.Pl
open Go.RowKit
open Enc (enc dec is)
open EncL (encL decL isL)
def nS : Str := ⟨[110]⟩
theorem sortS_one (x : List UInt8) : sortS [x] = [x] := by simp [sortS]
end Go.Pl

namespace Go.Pl
open Go.RowKit
open Enc (enc dec is)
open EncL (encL decL isL)
end Go.Pl

namespace Go.Pl
open Go.RowKit
open Enc (enc dec is)
open EncL (encL decL isL)
theorem tri {x y : List UInt8} (h1 : ¬ x < y) (h2 : x ≠ y) : y < x := Decidable.byContradiction fun h => h2 (List.le_antisymm (List.not_lt.1 h) (List.not_lt.1 h1))
theorem ins_t (s : Str) (c : Int) (t : Coef) (r : List Coef) : insT s c true (t :: r) = (if t.v = s then ⟨t.v, w64 (t.c + c)⟩ else t) :: insT s c true r := by
 rw [insT]; simp only [Bool.not_true, Bool.false_and, Bool.false_eq_true, if_false, Bool.true_or, List.nil_append]; split <;> rfl
theorem ins_f (s : Str) (c : Int) (t : Coef) (r : List Coef) : insT s c false (t :: r) = if s.s < t.v.s then ⟨s, c⟩ :: t :: insT s c true r else if t.v = s then ⟨t.v, w64 (t.c + c)⟩ :: insT s c true r else t :: insT s c false r := by
 rw [insT]
 by_cases h : s.s < t.v.s
 ·have : ¬ t.v = s := fun e => by rw [e] at h; exact List.lt_irrefl _ h
  simp [h, this]
 ·simp [h]
theorem str_ext {a b : Str} : a = b ↔ a.s = b.s := ⟨fun h => by rw [h], fun h => by cases a; cases b; cases h; rfl⟩
end Go.Pl

namespace Go.Pl
open Go.RowKit
open Enc (enc dec is)
open EncL (encL decL isL)
set_option maxRecDepth 100000
end Go.Pl

namespace Go.Pl
open Go.RowKit
open Enc (enc dec is)
open EncL (encL decL isL)
end Go.Pl

namespace Go.Pl
open Go.RowKit
open Enc (enc dec is)
open EncL (encL decL isL)
set_option maxRecDepth 100000
def ic_lname : IC := (.seq (.reg [⟨(some 2), (.mv (.c (.bool false))), 0, none⟩] none) (.seq (.seq (.reg [⟨(some 7), (.mv (.t 0)), 0, none⟩, ⟨(some 8), (.call (.c (.fn 152)) [(.t 7), (.c (.str [95]))]), 0, none⟩] none) (.cond (.t 8) (.seq (.reg [⟨(some 10), (.mv (.t 0)), 0, none⟩, ⟨(some 11), (.strslc (.t 10) (some (.c (.int .i64 1))) none), 0, none⟩, ⟨(some 12), (.call (.c (.fn 182)) [(.t 11)]), 0, none⟩, ⟨(some 9), (.mv (.t 12)), 2, none⟩, ⟨(some 13), (.extract (.t 9) 0), 2, none⟩, ⟨(some 14), (.extract (.t 9) 1), 2, none⟩, ⟨(some 3), (.mv (.t 13)), 2, none⟩, ⟨(some 4), (.mv (.t 14)), 2, none⟩] none) (.seq (.reg [⟨(some 15), (.mv (.t 4)), 0, none⟩, ⟨(some 16), (.bin .ifc .eql (.t 15) (.c .nili)), 0, none⟩, ⟨(some 17), (.mv (.t 16)), 0, none⟩, ⟨(some 18), (.mv (.t 3)), 0, (some (17, true))⟩, ⟨(some 19), (.bin .num .gtr (.t 18) (.c (.int .i64 0))), 0, (some (17, true))⟩, ⟨(some 20), (.pick (.t 17) (.t 19) (.c (.bool false))), 0, none⟩, ⟨(some 21), (.mv (.t 20)), 0, none⟩, ⟨(some 22), (.mv (.t 0)), 0, (some (21, true))⟩, ⟨(some 23), (.len 0 (.t 22)), 0, (some (21, true))⟩, ⟨(some 24), (.bin .num .leq (.t 23) (.c (.int .i64 10))), 0, (some (21, true))⟩, ⟨(some 25), (.pick (.t 21) (.t 24) (.c (.bool false))), 0, none⟩, ⟨(some 26), (.mv (.t 25)), 0, none⟩, ⟨(some 27), (.mv (.t 3)), 0, (some (26, true))⟩, ⟨(some 28), (.call (.c (.fn 76)) [(.t 27)]), 0, (some (26, true))⟩, ⟨(some 29), (.mv (.t 0)), 2, (some (26, true))⟩, ⟨(some 30), (.strslc (.t 29) (some (.c (.int .i64 1))) none), 2, (some (26, true))⟩, ⟨(some 31), (.bin .num .eql (.t 28) (.t 30)), 2, (some (26, true))⟩, ⟨(some 32), (.pick (.t 26) (.t 31) (.c (.bool false))), 2, none⟩, ⟨(some 2), (.mv (.t 32)), 2, none⟩] (some [[], [0], [1, 0], [2, 1, 0], [3, 2, 1, 0], [2, 4, 1, 0, 3], [5, 2, 4, 1, 0, 3], [6, 5, 2, 4, 1, 0, 3], [7, 6, 5, 2, 4, 1, 0, 3], [8, 6, 7, 5, 2, 4, 1, 0, 3], [6, 9, 5, 2, 4, 1, 0, 3, 8, 7], [10, 6, 9, 5, 2, 4, 1, 0, 3, 8, 7], [11, 10, 6, 9, 5, 2, 4, 1, 0, 3, 8, 7], [12, 11, 10, 6, 9, 5, 2, 4, 1, 0, 3, 8, 7], [11, 10, 6, 9, 5, 2, 4, 1, 0, 3, 8, 7], [14, 11, 10, 6, 9, 5, 2, 4, 1, 0, 3, 8, 7], [13, 15, 11, 12, 10, 6, 9, 5, 2, 4, 1, 0, 3, 8, 7, 14], [11, 16, 10, 6, 9, 5, 2, 4, 1, 0, 3, 8, 7, 13, 15, 12, 14], [17, 13, 0, 1, 2, 3, 4, 5, 6, 7, 8, 9, 10, 11, 12, 14, 15, 16]])) .ret)) .skip)) (.seq (.seq (.reg [⟨(some 33), (.mv (.t 0)), 0, none⟩, ⟨(some 34), (.sbytes (.t 33)), 0, none⟩, ⟨(some 35), (.len 1 (.t 34)), 0, none⟩, ⟨(some 36), (.mv (.c (.int .i64 0))), 0, none⟩] none) (.block 0 (.loop [36, 35, 34, 0] (.seq (.reg [⟨(some 37), (.bin .num .lss (.t 36) (.t 35)), 0, none⟩] none) (.seq (.cond (.t 37) .skip (.exit 0)) (.seq (.block 1 (.seq (.reg [⟨(some 38), (.mv (.t 36)), 0, none⟩, ⟨(some 39), (.iaddr 1 (.t 34) (.t 36)), 0, none⟩, ⟨(some 40), (.load false [(.int .u8)] (.t 39)), 0, none⟩, ⟨(some 5), (.mv (.t 38)), 0, none⟩, ⟨(some 6), (.mv (.t 40)), 0, none⟩] none) (.seq (.reg [⟨(some 41), (.mv (.t 6)), 0, none⟩, ⟨(some 42), (.bin .num .lss (.t 41) (.c (.int .u8 97))), 0, none⟩, ⟨(some 43), (.mv (.t 42)), 0, none⟩, ⟨(some 44), (.mv (.t 6)), 0, (some (43, false))⟩, ⟨(some 45), (.bin .num .gtr (.t 44) (.c (.int .u8 122))), 0, (some (43, false))⟩, ⟨(some 46), (.pick (.t 43) (.c (.bool true)) (.t 45)), 0, none⟩, ⟨(some 47), (.mv (.t 46)), 0, none⟩, ⟨(some 48), (.mv (.t 5)), 0, (some (47, true))⟩, ⟨(some 49), (.bin .num .eql (.t 48) (.c (.int .i64 0))), 0, (some (47, true))⟩, ⟨(some 50), (.mv (.t 49)), 0, (some (47, true))⟩, ⟨(some 51), (.mv (.t 6)), 0, (some (50, false))⟩, ⟨(some 52), (.bin .num .lss (.t 51) (.c (.int .u8 48))), 0, (some (50, false))⟩, ⟨(some 53), (.pick (.t 50) (.c (.bool true)) (.t 52)), 0, (some (47, true))⟩, ⟨(some 54), (.mv (.t 53)), 0, (some (47, true))⟩, ⟨(some 55), (.mv (.t 6)), 0, (some (54, false))⟩, ⟨(some 56), (.bin .num .gtr (.t 55) (.c (.int .u8 57))), 0, (some (54, false))⟩, ⟨(some 57), (.pick (.t 54) (.c (.bool true)) (.t 56)), 0, (some (47, true))⟩, ⟨(some 58), (.pick (.t 47) (.t 57) (.c (.bool false))), 0, none⟩] none) (.cond (.t 58) (.seq (.reg [⟨(some 2), (.mv (.c (.bool false))), 0, none⟩] none) .ret) .skip)))) (.reg [⟨(some 59), (.bin .num .add (.t 36) (.c (.int .i64 1))), 0, none⟩, ⟨(some 36), (.mv (.t 59)), 0, none⟩] none))))))) (.seq (.reg [⟨(some 60), (.mv (.t 0)), 0, none⟩, ⟨(some 61), (.bin .num .neq (.t 60) (.c (.str []))), 0, none⟩, ⟨(some 62), (.mv (.t 61)), 0, none⟩, ⟨(some 63), (.mv (.t 0)), 0, (some (62, true))⟩, ⟨(some 64), (.len 0 (.t 63)), 0, (some (62, true))⟩, ⟨(some 65), (.bin .num .leq (.t 64) (.c (.int .i64 30))), 0, (some (62, true))⟩, ⟨(some 66), (.pick (.t 62) (.t 65) (.c (.bool false))), 0, none⟩, ⟨(some 2), (.mv (.t 66)), 0, none⟩] none) .ret))))
def rs_lname : List IRes := [(.tmp 2)]
abbrev nt_lname : Nat := 67
def T_lname : Tab := tab [(152, .pure (preT (fun _ : Str × Str × Unit => true)) (valT (fun x : Str × Str × Unit => x.2.1.s.isPrefixOf x.1.s))), (182, .pure (preT (fun x : Str × Unit => decide (x.1.s.length <= 1000000))) (valT (fun x : Str × Unit => atoiE x.1))), (76, .pure (preT (fun x : Int × Unit => decide (-9223372036854775808 <= x.1) && decide (x.1 <= 9223372036854775807))) (valT (fun x : Int × Unit => itoaS x.1)))]
theorem lname_s {G : PV -> Prop} (s : List UInt8) (h : ∃ y0 : Bool, AV.pv (valT (fun (x : Str × Str × Unit) => List.isPrefixOf (Str.s x.2.1) (Str.s x.1)) [(.str s), (.str [(95 : UInt8)])]) = AV.pv (enc y0) ∧ (if (y0) = true then (decide (0 <= 1) && true && decide (Int.toNat 1 <= List.length s) && decide (List.length s <= List.length s)) = true ∧ ((Go.Pl.preT (fun (x : Str × Unit) => decide (List.length (Str.s x.1) <= 1000000)) [(.str (List.drop (Int.toNat 1) (List.take (List.length s) s)))]) = true ∧ (∃ y1 : Int × Er, AV.pv (valT (fun (x : Str × Unit) => atoiE x.1) [(.str (List.drop (Int.toNat 1) (List.take (List.length s) s)))]) = AV.pv (enc y1) ∧ ((isIfP (enc y1.2) && Prod.fst (true, PV.bool (isNilI (enc y1.2)))) = true ∧ (if (isNilI (enc y1.2)) = true then if (decide (y1.1 > 0)) = true then if (decide ((↑(List.length s) : Int) <= 10)) = true then (Go.Pl.preT (fun (x : Int × Unit) => decide ((-9223372036854775808 : Int) <= x.1) && decide (x.1 <= 9223372036854775807)) [(.int .i64 y1.1)]) = true ∧ (∃ y2 : Str, AV.pv (valT (fun (x : Int × Unit) => itoaS x.1) [(.int .i64 y1.1)]) = AV.pv (enc y2) ∧ ((decide (0 <= 1) && true && decide (Int.toNat 1 <= List.length s) && decide (List.length s <= List.length s)) = true ∧ (G ((.bool (Str.s y2 == List.drop (Int.toNat 1) (List.take (List.length s) s))))))) else (G ((.bool false))) else (G ((.bool false))) else (G ((.bool false))))))) else (At T_lname 0 (endP' rs_lname G) ic_lname 0 67 [(0, (.pv (.str s))), (34, (.pv (.sl 1 false (bytesP s)))), (35, (.pv (.int .i64 (↑(List.length (bytesP s)) : Int)))), (36, (.pv (.int .i64 0)))] []))) : Gets T_lname 0 (endP' rs_lname G) ic_lname [] (st0 67 [.str s]) := Gets.tp (.lit (.abs (Bool) (fun YY => AV.pv (enc YY)) (.ask (.req (.req (.abs (Int × Er) (fun YY => AV.pv (enc YY)) (.req (.ask (.lit (.lit (.lit (.ask (.lit (.lit (.lit (.lit (.ask (.lit (.req (.abs (Str) (fun YY => AV.pv (enc YY)) (.lit (.lit (.req (.lit (.lit (.lit (.nil)))))))))) (.lit (.lit (.lit (.lit (.lit (.nil))))))))))) (.lit (.lit (.lit (.lit (.lit (.lit (.lit (.lit (.lit (.nil)))))))))))))) (.lit (.lit (.lit (.lit (.lit (.lit (.lit (.lit (.lit (.lit (.lit (.lit (.nil)))))))))))))))))) (.nil)))) h (by kernel_rfl)
theorem lname_h0 {G : PV -> Prop} (s : List UInt8) (i : Int) (h : if (decide (i < (↑(List.length (bytesP s)) : Int))) = true then (decide (0 <= i) && decide (Int.toNat i < List.length (bytesP s)) && 1 == 1) = true ∧ ((decide (0 + List.length [Sh.int IntKind.u8] <= List.length (PV.cells (List.getD (bytesP s) (Int.toNat i) default))) && shFit (PV.cells (List.getD (bytesP s) (Int.toNat i) default)) 0 [Sh.int IntKind.u8]) = true ∧ (if (decide (PV.asInt (List.getD (PV.cells (List.getD (bytesP s) (Int.toNat i) default)) 0 default) < 97)) = true then if (i == 0) = true then G ((.bool false)) else (if (decide (PV.asInt (List.getD (PV.cells (List.getD (bytesP s) (Int.toNat i) default)) 0 default) < 48)) = true then G ((.bool false)) else (if (decide (PV.asInt (List.getD (PV.cells (List.getD (bytesP s) (Int.toNat i) default)) 0 default) > 57)) = true then G ((.bool false)) else (At T_lname 0 (endP' rs_lname G) ic_lname 0 67 [(0, (.pv (.str s))), (34, (.pv (.sl 1 false (bytesP s)))), (35, (.pv (.int .i64 (↑(List.length (bytesP s)) : Int)))), (36, (.pv (.int .i64 (IntKind.wrap IntKind.i64 (i + 1)))))] []))) else (if (decide (PV.asInt (List.getD (PV.cells (List.getD (bytesP s) (Int.toNat i) default)) 0 default) > 122)) = true then if (i == 0) = true then G ((.bool false)) else (if (decide (PV.asInt (List.getD (PV.cells (List.getD (bytesP s) (Int.toNat i) default)) 0 default) < 48)) = true then G ((.bool false)) else (if (decide (PV.asInt (List.getD (PV.cells (List.getD (bytesP s) (Int.toNat i) default)) 0 default) > 57)) = true then G ((.bool false)) else (At T_lname 0 (endP' rs_lname G) ic_lname 0 67 [(0, (.pv (.str s))), (34, (.pv (.sl 1 false (bytesP s)))), (35, (.pv (.int .i64 (↑(List.length (bytesP s)) : Int)))), (36, (.pv (.int .i64 (IntKind.wrap IntKind.i64 (i + 1)))))] []))) else (At T_lname 0 (endP' rs_lname G) ic_lname 0 67 [(0, (.pv (.str s))), (34, (.pv (.sl 1 false (bytesP s)))), (35, (.pv (.int .i64 (↑(List.length (bytesP s)) : Int)))), (36, (.pv (.int .i64 (IntKind.wrap IntKind.i64 (i + 1)))))] [])))) else (if (!s == []) = true then G ((.bool (decide ((↑(List.length s) : Int) <= 30)))) else (G ((.bool false))))) : At T_lname 0 (endP' rs_lname G) ic_lname 0 67 [(0, .pv (.str s)), (34, .pv (.sl 1 false (bytesP s))), (35, .pv (.int .i64 (bytesP s).length)), (36, .pv (.int .i64 i))] [] := At.tp (.lit (.ask (.req (.keep (.req (.lit (.ask (.lit (.lit (.lit (.lit (.lit (.lit (.ask (.lit (.lit (.lit (.lit (.lit (.lit (.lit (.lit (.lit (.lit (.nil))))))))))) (.lit (.lit (.lit (.lit (.lit (.ask (.lit (.lit (.lit (.lit (.lit (.nil)))))) (.lit (.lit (.lit (.lit (.lit (.ask (.nil) (.lit (.nil))))))))))))))))))))) (.lit (.lit (.lit (.ask (.lit (.lit (.lit (.ask (.lit (.lit (.lit (.lit (.lit (.lit (.lit (.lit (.lit (.lit (.nil))))))))))) (.lit (.lit (.lit (.lit (.lit (.ask (.lit (.lit (.lit (.lit (.lit (.nil)))))) (.lit (.lit (.lit (.lit (.lit (.ask (.nil) (.lit (.nil)))))))))))))))))) (.lit (.lit (.lit (.lit (.lit (.lit (.lit (.lit (.nil)))))))))))))))))) (.lit (.ask (.lit (.lit (.lit (.lit (.nil))))) (.lit (.lit (.lit (.nil)))))))) h (by kernel_rfl)
def ic_lvalid : IC := (.seq (.reg [⟨(some 1), (.box 2 (.t 0)), 0, none⟩, ⟨(some 2), (.mv (.c (.bool false))), 1, none⟩] none) (.seq (.seq (.reg [⟨(some 5), (.faddr 1 (.t 1)), 0, none⟩, ⟨(some 6), (.load false [(.sl 2)] (.t 5)), 0, none⟩, ⟨(some 7), (.len 1 (.t 6)), 0, none⟩, ⟨(some 8), (.mv (.c (.int .i64 0))), 0, none⟩] none) (.block 0 (.loop [8, 7, 6, 1] (.seq (.reg [⟨(some 9), (.bin .num .lss (.t 8) (.t 7)), 0, none⟩] none) (.seq (.cond (.t 9) .skip (.exit 0)) (.seq (.block 1 (.seq (.reg [⟨(some 10), (.mv (.t 8)), 0, none⟩, ⟨(some 11), (.iaddr 2 (.t 6) (.t 8)), 0, none⟩, ⟨(some 12), (.load true [.str, (.int .i64)] (.t 11)), 0, none⟩, ⟨(some 4), (.alloc (.agg [(.str []), (.int .i64 0)])), 0, none⟩, ⟨(some 3), (.mv (.t 10)), 1, none⟩, ⟨none, (.store 2 (.t 4) (.t 12)), 1, none⟩] none) (.seq (.reg [⟨(some 13), (.faddr 0 (.t 4)), 0, none⟩, ⟨(some 14), (.load false [.str] (.t 13)), 0, none⟩, ⟨(some 15), (.call (.c (.fn 119)) [(.t 14)]), 0, none⟩, ⟨(some 16), (.un .not (.t 15)), 2, none⟩, ⟨(some 17), (.mv (.t 16)), 2, none⟩, ⟨(some 18), (.faddr 1 (.t 4)), 2, (some (17, false))⟩, ⟨(some 19), (.load false [(.int .i64)] (.t 18)), 2, (some (17, false))⟩, ⟨(some 20), (.bin .num .eql (.t 19) (.c (.int .i64 0))), 2, (some (17, false))⟩, ⟨(some 21), (.pick (.t 17) (.c (.bool true)) (.t 20)), 2, none⟩, ⟨(some 22), (.mv (.t 21)), 2, none⟩, ⟨(some 23), (.faddr 1 (.t 4)), 2, (some (22, false))⟩, ⟨(some 24), (.load false [(.int .i64)] (.t 23)), 2, (some (22, false))⟩, ⟨(some 25), (.call (.c (.fn 144)) [(.t 24)]), 2, (some (22, false))⟩, ⟨(some 26), (.un .not (.t 25)), 4, (some (22, false))⟩, ⟨(some 27), (.pick (.t 22) (.c (.bool true)) (.t 26)), 4, none⟩, ⟨(some 28), (.mv (.t 27)), 4, none⟩, ⟨(some 29), (.mv (.t 3)), 4, (some (28, false))⟩, ⟨(some 30), (.bin .num .gtr (.t 29) (.c (.int .i64 0))), 4, (some (28, false))⟩, ⟨(some 31), (.mv (.t 30)), 4, (some (28, false))⟩, ⟨(some 32), (.faddr 1 (.t 1)), 4, (some (31, true))⟩, ⟨(some 33), (.load false [(.sl 2)] (.t 32)), 4, (some (31, true))⟩, ⟨(some 34), (.mv (.t 3)), 4, (some (31, true))⟩, ⟨(some 35), (.bin .num .sub (.t 34) (.c (.int .i64 1))), 4, (some (31, true))⟩, ⟨(some 36), (.iaddr 2 (.t 33) (.t 35)), 4, (some (31, true))⟩, ⟨(some 37), (.faddr 0 (.t 36)), 4, (some (31, true))⟩, ⟨(some 38), (.load false [.str] (.t 37)), 4, (some (31, true))⟩, ⟨(some 39), (.faddr 0 (.t 4)), 4, (some (31, true))⟩, ⟨(some 40), (.load false [.str] (.t 39)), 4, (some (31, true))⟩, ⟨(some 41), (.bin .num .geq (.t 38) (.t 40)), 4, (some (31, true))⟩, ⟨(some 42), (.pick (.t 31) (.t 41) (.c (.bool false))), 4, (some (28, false))⟩, ⟨(some 43), (.pick (.t 28) (.c (.bool true)) (.t 42)), 4, none⟩] (some [[], [0], [1, 0], [2, 1, 0], [3, 2, 1, 0], [4, 3, 2, 1, 0], [5, 4, 3, 2, 1, 0], [6, 4, 5, 3, 2, 1, 0], [4, 7, 3, 2, 1, 0, 6, 5], [8, 4, 7, 3, 2, 1, 0, 6, 5], [9, 8, 4, 7, 3, 2, 1, 0, 6, 5], [10, 9, 8, 4, 7, 3, 2, 1, 0, 6, 5], [11, 9, 10, 8, 4, 7, 3, 2, 1, 0, 6, 5], [12, 9, 11, 10, 8, 4, 7, 3, 2, 1, 0, 6, 5], [9, 13, 8, 4, 7, 3, 2, 1, 0, 6, 5, 12, 11, 10], [14, 12, 9, 13, 8, 4, 7, 3, 2, 1, 0, 6, 5, 11, 10], [15, 14, 12, 9, 13, 8, 4, 7, 3, 2, 1, 0, 6, 5, 11, 10], [16, 15, 14, 12, 9, 13, 8, 4, 7, 3, 2, 1, 0, 6, 5, 11, 10], [17, 15, 16, 14, 12, 9, 13, 8, 4, 7, 3, 2, 1, 0, 6, 5, 11, 10], [18, 17, 15, 16, 14, 12, 9, 13, 8, 4, 7, 3, 2, 1, 0, 6, 5, 11, 10], [19, 18, 17, 15, 16, 14, 12, 9, 13, 8, 4, 7, 3, 2, 1, 0, 6, 5, 11, 10], [18, 17, 15, 16, 14, 12, 9, 13, 8, 4, 7, 3, 2, 1, 0, 6, 5, 11, 10], [21, 18, 17, 15, 16, 14, 12, 9, 13, 8, 4, 7, 3, 2, 1, 0, 6, 5, 11, 10], [20, 22, 18, 19, 17, 15, 16, 14, 12, 9, 13, 8, 4, 7, 3, 2, 1, 0, 6, 5, 11, 10, 21], [23, 18, 20, 22, 19, 17, 15, 16, 14, 12, 9, 13, 8, 4, 7, 3, 2, 1, 0, 6, 5, 11, 10, 21], [24, 18, 23, 20, 22, 19, 17, 15, 16, 14, 12, 9, 13, 8, 4, 7, 3, 2, 1, 0, 6, 5, 11, 10, 21], [18, 17, 15, 16, 14, 12, 9, 13, 8, 4, 7, 3, 2, 1, 0, 6, 5, 11, 10], [26, 18, 17, 15, 16, 14, 12, 9, 13, 8, 4, 7, 3, 2, 1, 0, 6, 5, 11, 10], [25, 27, 18, 24, 23, 20, 22, 19, 17, 15, 16, 14, 12, 9, 13, 8, 4, 7, 3, 2, 1, 0, 6, 5, 11, 10, 21, 26], [18, 28, 15, 17, 16, 14, 12, 9, 13, 8, 4, 7, 3, 2, 1, 0, 6, 5, 11, 10, 25, 27, 24, 23, 20, 22, 19, 21, 26], [15, 29, 14, 12, 9, 13, 8, 4, 7, 3, 2, 1, 0, 6, 5, 11, 10, 18, 28, 17, 16, 25, 27, 24, 23, 20, 22, 19, 21, 26]])) (.cond (.t 43) (.seq (.reg [⟨(some 2), (.mv (.c (.bool false))), 0, none⟩] none) .ret) .skip)))) (.reg [⟨(some 44), (.bin .num .add (.t 8) (.c (.int .i64 1))), 0, none⟩, ⟨(some 8), (.mv (.t 44)), 0, none⟩] none))))))) (.seq (.reg [⟨(some 45), (.faddr 0 (.t 1)), 0, none⟩, ⟨(some 46), (.load false [(.int .i64)] (.t 45)), 0, none⟩, ⟨(some 47), (.call (.c (.fn 144)) [(.t 46)]), 0, none⟩, ⟨(some 48), (.mv (.t 47)), 2, none⟩, ⟨(some 49), (.faddr 1 (.t 1)), 2, (some (48, true))⟩, ⟨(some 50), (.load false [(.sl 2)] (.t 49)), 2, (some (48, true))⟩, ⟨(some 51), (.len 1 (.t 50)), 2, (some (48, true))⟩, ⟨(some 52), (.bin .num .leq (.t 51) (.c (.int .i64 12))), 2, (some (48, true))⟩, ⟨(some 53), (.pick (.t 48) (.t 52) (.c (.bool false))), 2, none⟩, ⟨(some 2), (.mv (.t 53)), 2, none⟩] none) .ret)))
def rs_lvalid : List IRes := [(.tmp 2)]
abbrev nt_lvalid : Nat := 54
def T_lvalid : Tab := tab [(144, .pure (preT (fun _ : Int × Unit => true)) (valT (fun x : Int × Unit => coefIn x.1))), (119, .pure (preT (fun x : Str × Unit => decide (x.1.s.length <= 1000000))) (valT (fun x : Str × Unit => nameB x.1)))]
theorem lvalid_s {G : PV -> Prop} (l : Lin) (h : At T_lvalid 0 (endP' rs_lvalid G) ic_lvalid 0 54 [(1, (.ptr 0 0)), (6, (.pv (.sl 2 false (List.map enc l.t)))), (7, (.pv (.int .i64 (↑(List.length (List.map enc l.t)) : Int)))), (8, (.pv (.int .i64 0)))] [(.obj (.box [(.pv (.int .i64 l.k)), (.pv (.sl 2 false (List.map enc l.t)))]))]) : Gets T_lvalid 0 (endP' rs_lvalid G) ic_lvalid [] (st0 54 [enc l]) := Gets.tp (.nil) h (by kernel_rfl)
theorem lvalid_h0 {G : PV -> Prop} (l : Lin) (i : Int) (h : if (decide (i < (↑(List.length l.t) : Int))) = true then (decide (0 <= i) && decide (Int.toNat i < List.length (List.map enc l.t)) && Enc.sz Coef == 2) = true ∧ (∃ y0 : Coef, AV.pv (PV.rptr (PV.cells (List.getD (List.map enc l.t) (Int.toNat i) default))) = AV.pv (PV.rptr (PV.cells ((enc) y0))) ∧ ((Go.Pl.preT (fun (x : Str × Unit) => decide (List.length (Str.s x.1) <= 1000000)) [(.str (PV.asStr (List.getD (PV.cells (enc y0)) 0 default)))]) = true ∧ (∃ y1 : Bool, AV.pv (valT (fun (x : Str × Unit) => nameB x.1) [(.str (PV.asStr (List.getD (PV.cells (enc y0)) 0 default)))]) = AV.pv (enc y1) ∧ (if (!y1) = true then G ((.bool false)) else (if (PV.asInt (List.getD (PV.cells (enc y0)) (0 + 1) default) == 0) = true then G ((.bool false)) else (∃ y2 : Bool, AV.pv (valT (fun (x : Int × Unit) => coefIn x.1) [(.int .i64 (PV.asInt (List.getD (PV.cells (enc y0)) (0 + 1) default)))]) = AV.pv (enc y2) ∧ (if (!y2) = true then G ((.bool false)) else (if (decide (i > 0)) = true then (decide (0 <= IntKind.wrap IntKind.i64 (i - 1)) && decide (Int.toNat (IntKind.wrap IntKind.i64 (i - 1)) < List.length (List.map enc l.t)) && Enc.sz Coef == 2) = true ∧ (∃ y3 : Coef, AV.pv (PV.rptr (PV.cells (List.getD (List.map enc l.t) (Int.toNat (IntKind.wrap IntKind.i64 (i - 1))) default))) = AV.pv (PV.rptr (PV.cells ((enc) y3))) ∧ (if (!Op.bytesLess (PV.asStr (List.getD (List.drop 0 (PV.cells (enc y3))) 0 default)) (PV.asStr (List.getD (PV.cells (enc y0)) 0 default))) = true then G ((.bool false)) else (At T_lvalid 0 (endP' rs_lvalid G) ic_lvalid 0 54 [(1, (.ptr 0 0)), (6, (.pv (.sl 2 false (List.map enc l.t)))), (7, (.pv (.int .i64 (↑(List.length l.t) : Int)))), (8, (.pv (.int .i64 (IntKind.wrap IntKind.i64 (i + 1)))))] [(.obj (.box [(.pv (.int .i64 l.k)), (.pv (.sl 2 false (List.map enc l.t)))]))]))) else (At T_lvalid 0 (endP' rs_lvalid G) ic_lvalid 0 54 [(1, (.ptr 0 0)), (6, (.pv (.sl 2 false (List.map enc l.t)))), (7, (.pv (.int .i64 (↑(List.length l.t) : Int)))), (8, (.pv (.int .i64 (IntKind.wrap IntKind.i64 (i + 1)))))] [(.obj (.box [(.pv (.int .i64 l.k)), (.pv (.sl 2 false (List.map enc l.t)))]))]))))))))) else (∃ y4 : Bool, AV.pv (valT (fun (x : Int × Unit) => coefIn x.1) [(.int .i64 l.k)]) = AV.pv (enc y4) ∧ (if (y4) = true then G ((.bool (decide ((↑(List.length (List.map enc l.t)) : Int) <= 12)))) else (G ((.bool false)))))) : At T_lvalid 0 (endP' rs_lvalid G) ic_lvalid 0 54 [(1, .ptr 0 0), (6, .pv (enc l.t)), (7, .pv (.int .i64 l.t.length)), (8, .pv (.int .i64 i))] [.obj (.box [.pv (.int .i64 l.k), .pv (enc l.t)])] := At.tp (.lit (.ask (.req (.abs (Coef) (fun YY => AV.pv (PV.rptr (PV.cells ((enc) YY)))) (.lit (.req (.abs (Bool) (fun YY => AV.pv (enc YY)) (.ask (.lit (.lit (.lit (.lit (.lit (.lit (.lit (.lit (.lit (.lit (.lit (.lit (.lit (.lit (.nil))))))))))))))) (.lit (.lit (.lit (.lit (.ask (.lit (.lit (.lit (.lit (.lit (.lit (.lit (.lit (.lit (.lit (.nil))))))))))) (.lit (.lit (.lit (.abs (Bool) (fun YY => AV.pv (enc YY)) (.lit (.lit (.ask (.lit (.lit (.lit (.lit (.lit (.nil)))))) (.lit (.lit (.lit (.ask (.lit (.lit (.lit (.lit (.lit (.req (.abs (Coef) (fun YY => AV.pv (PV.rptr (PV.cells ((enc) YY)))) (.lit (.lit (.lit (.lit (.lit (.lit (.lit (.lit (.lit (.lit (.ask (.nil) (.lit (.nil)))))))))))))))))))) (.lit (.lit (.lit (.lit (.lit (.lit (.lit (.lit (.lit (.lit (.lit (.lit (.lit (.lit (.nil))))))))))))))))))))))))))))))))))))) (.lit (.abs (Bool) (fun YY => AV.pv (enc YY)) (.ask (.lit (.lit (.lit (.lit (.lit (.nil)))))) (.lit (.lit (.lit (.lit (.nil)))))))))) h (by kernel_rfl)
end Go.Pl

namespace Go.Pl
open Go.RowKit
open Enc (enc dec is)
open EncL (encL decL isL)
theorem bytes_at {s : List UInt8} {i : Nat} (h : i < s.length) : List.getD (bytesP s) (Int.toNat (i : Int)) default = .int .u8 (s[i].toNat : Int) := by
 simp [bytesP, List.getD, h]
theorem bytes_len (s : List UInt8) : (bytesP s).length = s.length := by simp [bytesP]
def low1 (c : UInt8) : Bool := lowB c || digB c
theorem low_iff {c : UInt8} : lowB c = true ↔ 97 <= c.toNat ∧ c.toNat <= 122 := by
 simp only [lowB, Bool.and_eq_true, decide_eq_true_eq, UInt8.le_iff_toNat_le]
 have e1 : (97 : UInt8).toNat = 97 := rfl
 have e2 : (122 : UInt8).toNat = 122 := rfl
 rw [e1, e2]
theorem low_false {c : UInt8} (h : ¬ (97 <= c.toNat ∧ c.toNat <= 122)) : lowB c = false := by
 cases e : lowB c
 ·rfl
 ·exact absurd (low_iff.1 e) h
theorem dig_false {c : UInt8} (h : ¬ (48 <= c.toNat ∧ c.toNat <= 57)) : digB c = false := by
 cases e : digB c
 ·rfl
 ·exact absurd (digB_iff.1 e) h
def bodyB (s : List UInt8) (i : Nat) : Bool := (match i with | 0 => (match s with | [] => true | c :: r => lowB c && r.all low1) | i + 1 => (s.drop (i + 1)).all low1) && (!(s == [])) && decide (s.length <= 30)
theorem body_step {s : List UInt8} {i : Nat} (h : i < s.length) (hb : lowB s[i] = true ∨ (i ≠ 0 ∧ digB s[i] = true)) : bodyB s i = bodyB s (i + 1) := by
 cases i with
 | zero =>
  cases s with
  | nil => simp at h
  | cons c r =>
   rcases hb with hb | hb
   ·have hb : lowB c = true := hb
    simp [bodyB, hb]
   ·exact absurd rfl hb.1
 | succ i =>
  unfold bodyB
  simp only
  rw [List.drop_eq_getElem_cons h, List.all_cons]
  have : low1 s[i + 1] = true := by
   rcases hb with hb | hb
   ·simp [low1, hb]
   ·simp [low1, hb.2]
  rw [this, Bool.true_and]
theorem body_stop {s : List UInt8} {i : Nat} (h : i < s.length) (hb : lowB s[i] = false ∧ (i = 0 ∨ digB s[i] = false)) : bodyB s i = false := by
 cases i with
 | zero =>
  cases s with
  | nil => simp at h
  | cons c r =>
   have hb : lowB c = false := hb.1
   simp [bodyB, hb]
 | succ i =>
  unfold bodyB
  simp only
  rw [List.drop_eq_getElem_cons h, List.all_cons]
  have : low1 s[i + 1] = false := by
   rcases hb.2 with h0 | h0
   ·cases h0
   ·simp [low1, hb.1, h0]
  rw [this]; simp
theorem lname_loop (s : List UInt8) (hs : s.length <= 1000000) : ∀ (m i : Nat), m + i = s.length -> At T_lname 0 (endP' rs_lname (Fits (bodyB s i))) ic_lname 0 67 [(0, .pv (.str s)), (34, .pv (.sl 1 false (bytesP s))), (35, .pv (.int .i64 (bytesP s).length)), (36, .pv (.int .i64 i))] [] := by
 intro m
 induction m with
 | zero =>
  intro i hi
  have e : bodyB s i = (!(s == []) && decide (s.length <= 30)) := by
   unfold bodyB
   cases i with
   | zero => cases s with
    | nil => rfl
    | cons c r => simp at hi
   | succ i => simp only; rw [List.drop_of_length_le (show s.length <= i + 1 by omega)]; simp
  rw [e]
  refine lname_h0 s i (iteF (lt_no' (by rw [bytes_len]; omega)) (iteB (fun h => fitB ?_) fun h => fitB ?_))
  ·rw [h, Bool.true_and]; exact decide_eq_decide.2 (by omega)
  ·rw [h, Bool.false_and]
 | succ m ih =>
  intro i hi
  have hlt : i < s.length := by omega
  have h := ih (i + 1) (by omega)
  refine lname_h0 s i ?_
  rw [bytes_at hlt, next (by omega)]
  have stop : (lowB s[i] = false ∧ (i = 0 ∨ digB s[i] = false)) -> Fits (bodyB s i) (.bool false) := fun hb => fitB (body_stop hlt hb).symm
  have go : (lowB s[i] = true ∨ (i ≠ 0 ∧ digB s[i] = true)) -> At T_lname 0 (endP' rs_lname (Fits (bodyB s i))) ic_lname 0 67 [(0, .pv (.str s)), (34, .pv (.sl 1 false (bytesP s))), (35, .pv (.int .i64 (bytesP s).length)), (36, .pv (.int .i64 ((i + 1 : Nat) : Int)))] [] := fun hb => by rw [body_step hlt hb]; exact h
  have rest : lowB s[i] = false -> (if ((i : Int) == 0) = true then Fits (bodyB s i) (.bool false) else if decide ((s[i].toNat : Int) < 48) = true then Fits (bodyB s i) (.bool false) else if decide ((s[i].toNat : Int) > 57) = true then Fits (bodyB s i) (.bool false) else At T_lname 0 (endP' rs_lname (Fits (bodyB s i))) ic_lname 0 67 [(0, .pv (.str s)), (34, .pv (.sl 1 false (bytesP s))), (35, .pv (.int .i64 (bytesP s).length)), (36, .pv (.int .i64 ((i + 1 : Nat) : Int)))] []) := by
   intro hl
   refine iteE (fun h0 => stop ⟨hl, .inl (by omega)⟩) fun h0 => iteD (fun h1 => stop ⟨hl, .inr (dig_false (by omega))⟩) fun h1 => iteD (fun h2 => stop ⟨hl, .inr (dig_false (by omega))⟩) fun h2 => go (.inr ⟨by omega, digB_iff.2 (by omega)⟩)
  refine iteT (lt_ok' (by rw [bytes_len]; exact hlt)) ⟨by rw [bytes_len]; simp [hlt], by rfl, ?_⟩
  refine iteD (fun h1 => rest (low_false ?_)) fun h1 => iteD (fun h2 => rest (low_false ?_)) fun h2 => go (.inl (low_iff.2 ?_))
  ·have h1 : (s[i].toNat : Int) < 97 := h1
   omega
  ·have h2 : (s[i].toNat : Int) > 122 := h2
   omega
  ·have h1 : ¬ (s[i].toNat : Int) < 97 := h1
   have h2 : ¬ (s[i].toNat : Int) > 122 := h2
   omega
theorem name_body {s : List UInt8} (h : [95].isPrefixOf s = false) : nameB ⟨s⟩ = bodyB s 0 := by
 cases s with
 | nil => rfl
 | cons c r =>
  have hc : ¬ c = 95 := by intro e; subst e; simp at h
  have e : decide ((c :: r).length <= 30) = decide (r.length <= 29) := decide_eq_decide.2 (by simp)
  unfold bodyB
  rw [e]
  simp only [nameB, if_neg hc]
  show _ = (lowB c && r.all low1 && !((c :: r) == []) && _)
  have e2 : ((c :: r) == []) = false := rfl
  rw [e2]
  simp only [Bool.not_false, Bool.and_true]
  rfl
theorem atoi_range (s : Str) : -9223372036854775808 <= (atoiE s).1 ∧ ((atoiE s).1 <= 9223372036854775807) := by
 unfold atoiE
 split
 ·rename_i v hv; exact Lib.atoiAll_bounds hv
 ·have := Lib.atoiSat_bounds s.s
  exact ⟨by show _ <= Lib.atoiSat s.s; omega, by show Lib.atoiSat s.s <= _; omega⟩
 ·exact ⟨by show (-9223372036854775808 : Int) <= 0; omega, by show (0 : Int) <= _; omega⟩
theorem lname_run : ∀ a : Str × Unit, decide (a.1.s.length <= 1000000) = true -> Gets T_lname 0 (endP' rs_lname (Fits (nameB a.1))) ic_lname [] (st0 nt_lname (encL a)) := by
 rintro ⟨⟨s⟩, ⟨⟩⟩ hl
 have hl : s.length <= 1000000 := by simpa using hl
 refine lname_s s (ex_enc (⟨s⟩, ⟨[95]⟩, ()) rfl (iteB (fun h => ?_) fun h => ?_))
 ·have h : [95].isPrefixOf s = true := h
  obtain ⟨r, rfl⟩ : ∃ r, s = 95 :: r := by
   cases s with
   | nil => simp at h
   | cons c r =>
    have : 95 = c := by simpa using h
    exact ⟨r, by rw [this]⟩
  have e1 : List.drop (Int.toNat 1) (List.take (List.length (95 :: r)) (95 :: r)) = r := by rw [List.take_of_length_le (Nat.le_refl _)]; rfl
  simp only [e1]
  refine ⟨by simp, pre_enc (⟨r⟩, ()) rfl (by simp at hl ⊢; omega), ex_enc (⟨r⟩, ()) rfl ⟨by show (isIfP (enc (atoiE ⟨r⟩).2) && true) = true; rw [if_ok]; rfl, ?_⟩⟩
  show if isNilI (enc (atoiE ⟨r⟩).2) = true then (if decide ((atoiE ⟨r⟩).1 > 0) = true then (if _ then _ else Fits (nameB ⟨95 :: r⟩) _) else Fits (nameB ⟨95 :: r⟩) _) else Fits (nameB ⟨95 :: r⟩) _
  rw [nameB_us]
  by_cases h9 : r.length <= 9
  ·rw [<- numeral r h9, decide_eq_true h9, Bool.and_true]
   refine iteB (fun h1 => iteB (fun h2 => iteT (by simp; omega) ⟨pre_enc ((atoiE ⟨r⟩).1, ()) rfl (by have := atoi_range ⟨r⟩; simp; omega), ex_enc ((atoiE ⟨r⟩).1, ()) rfl ⟨by simp, fitB ?_⟩⟩) fun h2 => fitB ?_) fun h1 => fitB ?_
   ·rw [h1, h2]; simp only [Bool.true_and, Bool.and_true]; rfl
   ·rw [h2]; simp
   ·rw [h1]; simp
  ·rw [decide_eq_false h9, Bool.and_false]
   refine iteB (fun h1 => iteB (fun h2 => iteF (by simp; omega) (fitB rfl)) fun h2 => fitB rfl) fun h1 => fitB rfl
 ·have h : [95].isPrefixOf s = false := h
  show At T_lname 0 (endP' rs_lname (Fits (nameB ⟨s⟩))) ic_lname 0 67 _ _
  rw [name_body h]
  exact lname_loop s hl s.length 0 (by omega)
theorem lvalid_loop (l : Lin) (hl : l.t.length <= 9223372036854775807) (hs : l.t.all (fun t => decide (t.v.s.length <= 1000000)) = true) : ∀ (j i : Nat), j + i = l.t.length -> At T_lvalid 0 (endP' rs_lvalid (Fits (chkT (pvS l.t i) (l.t.drop i) && (coefIn l.k && decide (l.t.length <= 12))))) ic_lvalid 0 54 [(1, .ptr 0 0), (6, .pv (enc l.t)), (7, .pv (.int .i64 l.t.length)), (8, .pv (.int .i64 i))] [.obj (.box [.pv (.int .i64 l.k), .pv (enc l.t)])] := by
 intro j
 induction j with
 | zero =>
  intro i hi
  refine lvalid_h0 l i (iteF (lt_no' (by omega)) (ex_enc (l.k, ()) rfl ?_))
  rw [List.drop_of_length_le (show l.t.length <= i by omega)]
  refine iteB (fun h => fitB ?_) fun h => fitB ?_
  ·have h : coefIn l.k = true := h
   rw [h]
   show _ = (true && (true && _))
   rw [Bool.true_and, Bool.true_and]
   exact decide_eq_decide.2 (by simp; omega)
  ·have h : coefIn l.k = false := h
   rw [h]; simp
 | succ j ih =>
  intro i hi
  have hlt : i < l.t.length := by omega
  have h := ih (i + 1) (by omega)
  have hsi : l.t[i].v.s.length <= 1000000 := by rw [List.all_eq_true] at hs; simpa using hs _ (List.getElem_mem hlt)
  refine lvalid_h0 l i ?_
  refine iteT (lt_ok' hlt) ⟨idx_ok hlt rfl, el_ex hlt ⟨pre_enc (l.t[i].v, ()) rfl (by simpa using hsi), ex_enc (l.t[i].v, ()) rfl (iteN (fun hn => ?_) fun hn => iteE (fun hc => ?_) fun hc => ex_enc (l.t[i].c, ()) rfl (iteN (fun hk => ?_) fun hk => ?_))⟩⟩
  all_goals rw [List.drop_eq_getElem_cons hlt, chk_cons]
  ·have hn : nameB l.t[i].v = false := hn
   exact fitB (by simp [hn])
  ·have hc : l.t[i].c = 0 := hc
   exact fitB (by simp [hc])
  ·have hk : coefIn l.t[i].c = false := hk
   exact fitB (by simp [hk])
  have hn : nameB l.t[i].v = true := hn
  have hk : coefIn l.t[i].c = true := hk
  have hc : l.t[i].c ≠ 0 := hc
  rw [next (by omega), hn, hk, decide_eq_true hc]
  have ep : pvS l.t (i + 1) = some l.t[i].v.s := by simp [pvS, hlt]
  rw [ep] at h
  cases i with
  | zero => exact iteF (by simp) h
  | succ i =>
   refine iteT (by simp) ?_
   rw [pred_ok (by omega)]
   refine ⟨idx_ok (by omega) rfl, el_ex (by omega) ?_⟩
   have e2 : pvS l.t (i + 1) = some l.t[i].v.s := by simp [pvS, show i < l.t.length by omega]
   rw [e2]
   refine iteN (fun hb => ?_) fun hb => ?_
   all_goals
    have hb' := (bytesLess_eq l.t[i].v.s l.t[i + 1].v.s).symm.trans hb
    simp only [hb', Bool.and_true, Bool.true_and, Bool.and_false, Bool.false_and]
   ·exact fitB rfl
   ·exact h
theorem lvalid_run : ∀ a : Lin × Unit, linSm a.1 = true -> Gets T_lvalid 0 (endP' rs_lvalid (Fits (validL a.1))) ic_lvalid [] (st0 nt_lvalid (encL a)) := by
 rintro ⟨l, ⟨⟩⟩ hl
 simp only [linSm, linOk, Bool.and_eq_true, decide_eq_true_eq] at hl
 refine lvalid_s l ?_
 show At T_lvalid 0 (endP' rs_lvalid (Fits (validL l))) ic_lvalid 0 54 _ _
 have e : validL l = (chkT (pvS l.t 0) (l.t.drop 0) && (coefIn l.k && decide (l.t.length <= 12))) := by rw [valid_eq, Bool.and_comm]; rfl
 rw [e, List.length_map]
 exact lvalid_loop l hl.1 hl.2 l.t.length 0 (by omega)
end Go.Pl

namespace Go.Pl
open Go.RowKit
open Enc (enc dec is)
open EncL (encL decL isL)
structure LR where
 k : Int
 w : Nat
 ts : List Coef
def LR.ob (r : LR) : AObj := .row false 61 2 (r.ts.map enc)
def zeroL : PV := .agg [.int .i64 0, .sl 0 true []]
end Go.Pl

namespace Go.Pl
open Go.RowKit
open Enc (enc dec is)
open EncL (encL decL isL)
set_option maxRecDepth 100000
end Go.Pl

namespace Go.Pl
open Go.RowKit
open Enc (enc dec is)
open EncL (encL decL isL)
end Go.Pl

namespace Go.Pl
open Go.RowKit
open Enc (enc dec is)
open EncL (encL decL isL)
theorem SubL.rfl (ps : List PV) : SubL ps ps := ⟨Eq.refl _, fun j x y hx hy Φ v h => by rw [hx] at hy; cases hy; exact h⟩
end Go.Pl

namespace Go.Pl
open Go.RowKit
open Enc (enc dec is)
open EncL (encL decL isL)
end Go.Pl

namespace Go.Pl
open Go.RowKit
open Enc (enc dec is)
open EncL (encL decL isL)
set_option maxRecDepth 100000
-- IMPOSSIBLE
end Go.Pl

namespace Go.Pl
open Go.RowKit
open Enc (enc dec is)
open EncL (encL decL isL)
end Go.Pl

namespace Go.Pl
open Go.RowKit
open Enc (enc dec is)
open EncL (encL decL isL)
end Go.Pl

namespace Go.Pl
open Go.RowKit
open Enc (enc dec is)
open EncL (encL decL isL)
set_option maxRecDepth 100000
end Go.Pl

namespace Go.Pl
open Go.RowKit
open Enc (enc dec is)
open EncL (encL decL isL)
set_option maxRecDepth 100000
end Go.Pl

namespace Go.Pl
open Go.RowKit
open Enc (enc dec is)
open EncL (encL decL isL)
structure Cert2 where
 a : Cert
 b : Cert
instance : Enc Cert2 where
 sz := 10
 enc x := .agg (PV.cells (enc x.a) ++ PV.cells (enc x.b))
 dec | .agg [a, b, c, d, e, f, g, h, i, j] => ⟨dec (.agg [a, b, c, d, e]), dec (.agg [f, g, h, i, j])⟩ | _ => ⟨.mk 0 [] ⟨0, []⟩ [], .mk 0 [] ⟨0, []⟩ []⟩
 is | .agg [a, b, c, d, e, f, g, h, i, j] => is Cert (.agg [a, b, c, d, e]) && is Cert (.agg [f, g, h, i, j]) | _ => false
 is_enc v := by
  obtain ⟨⟨k, m, l, ks⟩, ⟨k', m', l', ks'⟩⟩ := v
  rw [enc_cert, enc_cert]
  show (is Cert (.agg [enc k, enc m, enc l.k, enc l.t, enc ks]) && is Cert (.agg [enc k', enc m', enc l'.k, enc l'.t, enc ks'])) = true
  rw [<- enc_cert, <- enc_cert, Enc.is_enc, Enc.is_enc]; rfl
 dec_enc v := by
  obtain ⟨⟨k, m, l, ks⟩, ⟨k', m', l', ks'⟩⟩ := v
  rw [enc_cert, enc_cert]
  show (⟨dec (.agg [enc k, enc m, enc l.k, enc l.t, enc ks]), dec (.agg [enc k', enc m', enc l'.k, enc l'.t, enc ks'])⟩ : Cert2) = _
  rw [<- enc_cert, <- enc_cert, Enc.dec_enc, Enc.dec_enc]
 sub p h := by
  cases p with
  | agg xs =>
   match xs, h with
   | [a, b, c, d, e, f, g, h', i, j], h =>
    simp only [Bool.and_eq_true] at h
    have h1 := Enc.sub (α := Cert) _ h.1
    have h2 := Enc.sub (α := Cert) _ h.2
    exact SubC.agg (h1.1.append h2.1)
  | _ => cases h
theorem few_sm {l : Lin} {n : Int} (h : few4 l n = true) (hl : linOk l = true) : linSm l = true := by
 simp only [few4, Bool.and_eq_true, List.all_eq_true, decide_eq_true_eq] at h
 simp only [linSm, hl, Bool.true_and, List.all_eq_true, decide_eq_true_eq]
 intro t ht
 have := h.1 t ht
 omega
mutual
theorem small_c : ∀ (c : Cert) (n : Int), n <= 12 -> smallC c n = true -> cOk c = true -> 1 <= n ∧ (depC c : Int) <= n ∧ 1 <= sizeC c ∧ sizeC c <= n ∧ cSm c = true
 | .mk k m l ks, n, hn, h, ho => by
  simp only [smallC, Bool.and_eq_true, Bool.not_eq_true', decide_eq_false_iff_not] at h
  obtain ⟨h1, h2, h3, h4, h5⟩ := h
  simp only [cOk, Bool.and_eq_true, decide_eq_true_eq] at ho
  obtain ⟨⟨⟨o1, o2⟩, o3⟩, o4⟩ := ho
  obtain ⟨a1, a2, a3, a4⟩ := small_cs ks n 1 (by omega) hn (by omega) (by omega) h5 o4
  rw [depC, sizeC]
  refine ⟨by omega, by omega, by omega, by omega, ?_⟩
  simp only [cSm, few_sm h2 o2, a4, decide_eq_true o1, decide_eq_true o3]
  rfl
theorem small_cs : ∀ (cs : List Cert) (n s : Int), 1 <= n -> n <= 12 -> 1 <= s -> s <= 100 - n -> smallCs cs n = true -> cOks cs = true -> (depCs cs : Int) <= n - 1 ∧ s <= sizeCs s cs ∧ sizeCs s cs <= s + n - 1 ∧ cSms cs = true
 | [], n, s, h1, h2, h3, h4, _, _ => by
  rw [depCs, sizeCs]
  exact ⟨by omega, by omega, by omega, rfl⟩
 | c :: cs, n, s, h1, h2, h3, h4, h, ho => by
  simp only [smallCs, Bool.and_eq_true] at h
  simp only [cOks, Bool.and_eq_true] at ho
  rw [w64_id (by omega) (by omega)] at h
  obtain ⟨b1, b2, b3, b4, b5⟩ := small_c c (n - 1) (by omega) h.1 ho.1
  have h' := h.2
  rw [w64_id (by omega) (by omega)] at h'
  obtain ⟨a1, a2, a3, a4⟩ := small_cs cs (n - sizeC c) (s + sizeC c) (by omega) (by omega) (by omega) (by omega) h' ho.2
  rw [depCs, sizeCs, w64_id (by omega) (by omega)]
  refine ⟨by omega, by omega, by omega, ?_⟩
  simp only [cSms, b5, a4]
  rfl
end
end Go.Pl

namespace Go.Pl
open Go.RowKit
open Enc (enc dec is)
open EncL (encL decL isL)
set_option maxRecDepth 100000
end Go.Pl

namespace Go.Pl
open Go.RowKit
open Enc (enc dec is)
open EncL (encL decL isL)
def xV (v : List Coef) (s : Str) : Int := (lookV v s).getD 0
def sumV (x : Str -> Int) (ts : List Coef) : Int := (ts.map fun t => t.c * x t.v).sum
def evM (x : Str -> Int) (m : List (Str × Int)) : Int := (m.map fun p => p.2 * x p.1).sum
def okV (v : List Coef) (s : Str) : Prop := ∃ x, lookV v s = some x ∧ -1000000000 <= x ∧ x <= 1000000000
theorem mul_bnd2 {c x : Int} (hc1 : -1000000 <= c) (hc2 : c <= 1000000) (hx1 : -1000000000 <= x) (hx2 : x <= 1000000000) : -1000000000000000 <= c * x ∧ c * x <= 1000000000000000 := by
 have := mul_bnd hx1 hx2 hc1 hc2
 rw [Int.mul_comm] at this
 exact this
theorem evalT_val (v : List Coef) : ∀ (ts : List Coef) (n B : Int), (∀ t ∈ ts, okV v t.v ∧ -1000000 <= t.c ∧ t.c <= 1000000) -> -B <= n -> n <= B -> B + ts.length * 1000000000000000 <= 9000000000000000000 -> evalT v n ts = (n + sumV (xV v) ts, 0)
 | [], n, B, _, _, _, _ => by simp [evalT, sumV]
 | t :: ts, n, B, h, h1, h2, h3 => by
  obtain ⟨⟨x, e, hx1, hx2⟩, hc1, hc2⟩ := h t (by simp)
  have hm := mul_bnd2 hc1 hc2 hx1 hx2
  have el : (((t :: ts).length : Nat) : Int) * 1000000000000000 = 1000000000000000 + (ts.length : Int) * 1000000000000000 := by rw [List.length_cons]; omega
  rw [el] at h3
  have hlen : (0 : Int) <= (ts.length : Int) * 1000000000000000 := by omega
  rw [evalT]
  simp only [e]
  rw [if_neg (by omega), if_neg (by omega), w64_id (n := t.c * x) (by omega) (by omega), w64_id (by omega) (by omega)]
  rw [evalT_val v ts (n + t.c * x) (B + 1000000000000000) (fun u hu => h u (by simp [hu])) (by omega) (by omega) (by omega)]
  have ex : xV v t.v = x := by unfold xV; rw [e]; rfl
  simp only [sumV, List.map_cons, List.sum_cons, ex]
  congr 1
  omega
theorem upd_ev (x : Str -> Int) (s : Str) (d : Int) : ∀ m : List (Str × Int), evM x (updM s (atM m s.s + d) m) = evM x m + d * x s
 | [] => by simp [updM, evM, atM]
 | p :: m => by
  rw [updM]
  by_cases h : s.s = p.1.s
  ·rw [if_pos h]
   have hs : s = p.1 := by cases s; obtain ⟨⟨b⟩, c⟩ := p; cases h; rfl
   have ea : atM (p :: m) s.s = p.2 := by simp [atM, h]
   rw [ea]
   simp only [evM, List.map_cons, List.sum_cons, hs, Int.add_mul]
   omega
  ·rw [if_neg h]
   have ea : atM (p :: m) s.s = atM m s.s := by
    have : (p.1.s == s.s) = false := by simpa using fun e : p.1.s = s.s => h e.symm
    simp [atM, List.find?_cons, this]
   rw [ea]
   have ih := upd_ev x s d m
   simp only [evM, List.map_cons, List.sum_cons] at ih ⊢
   omega
theorem addT_ev (x : Str -> Int) {k : Int} (hk1 : -1000000000 <= k) (hk2 : k <= 1000000000) : ∀ (l : List Coef) (m : List (Str × Int)) (B : Int), 0 <= B -> B + l.length * 1000000000000000 <= 4000000000000000000 -> (∀ t ∈ l, -1000000 <= t.c ∧ t.c <= 1000000) -> bndM m B -> evM x (addT k l m) = evM x m + k * sumV x l
 | [], m, B, _, _, _, h => by simp [addT, sumV]
 | t :: l, m, B, hB, hl, ht, h => by
  rw [addT]
  have h1 := ht t (by simp)
  have h2 := mul_bnd hk1 hk2 h1.1 h1.2
  have h3 := atM_bnd hB h t.v.s
  have e : (((t :: l).length : Nat) : Int) * 1000000000000000 = 1000000000000000 + (l.length : Int) * 1000000000000000 := by rw [List.length_cons]; omega
  rw [e] at hl
  have w1 : IntKind.i64.wrap (k * t.c) = k * t.c := w64_id (by omega) (by omega)
  have w2 : IntKind.i64.wrap (atM m t.v.s + k * t.c) = atM m t.v.s + k * t.c := w64_id (by omega) (by omega)
  rw [w1, w2]
  rw [addT_ev x hk1 hk2 l _ (B + 1000000000000000) (by omega) (by omega) (fun u hu => ht u (by simp [hu])) (fun p hp => by
   rcases upd_mem hp with e | hp
   ·rw [e]; omega
   ·have := h p hp; omega), upd_ev]
  simp only [sumV, List.map_cons, List.sum_cons, Int.mul_add, Int.mul_assoc]
  omega
theorem nz_ev (x : Str -> Int) : ∀ m : List (Str × Int), evM x (nzM m) = evM x m
 | [] => rfl
 | p :: m => by
  have ih := nz_ev x m
  simp only [nzM, evM] at ih ⊢
  by_cases h : p.2 = 0
  ·rw [List.filter_cons_of_neg (by simp [h]), ih]; simp [h]
  ·rw [List.filter_cons_of_pos (by simpa using h), List.map_cons, List.map_cons, List.sum_cons, List.sum_cons, ih]
theorem sum_perm {l l' : List Int} (h : l.Perm l') : l.sum = l'.sum := by
 induction h with
 | nil => rfl
 | cons a _ ih => simp [ih]
 | swap a b l => simp; omega
 | trans _ _ h1 h2 => exact h1.trans h2
theorem atM_mem : ∀ {m : List (Str × Int)}, (keysM m).Nodup -> ∀ p ∈ m, atM m p.1.s = p.2
 | q :: m, h, p, hp => by
  simp only [keysM, List.map_cons, List.nodup_cons] at h
  rcases List.mem_cons.1 hp with rfl | hp
  ·simp [atM]
  ·have : (q.1.s == p.1.s) = false := by
    simp only [beq_eq_false_iff_ne, ne_eq]
    intro e
    exact h.1 (e ▸ List.mem_map.2 ⟨p, hp, rfl⟩)
   have ih := atM_mem (m := m) h.2 p hp
   simp only [atM, List.find?_cons, this] at ih ⊢
   exact ih
end Go.Pl

namespace Go.Pl
open Go.RowKit
open Enc (enc dec is)
open EncL (encL decL isL)
end Go.Pl

namespace Go.Pl
open Go.RowKit
open Enc (enc dec is)
open EncL (encL decL isL)
theorem termsM_ev (x : Str -> Int) {m : List (Str × Int)} (hd : (keysM m).Nodup) : sumV x (termsM m) = evM x m := by
 have h1 : sumV x (termsM m) = ((sortS ((m.filter fun p => decide (p.2 ≠ 0)).map (·.1.s))).map fun v => atM m v * x ⟨v⟩).sum := by simp only [sumV, termsM, List.map_map]; rfl
 have h2 : ((sortS ((m.filter fun p => decide (p.2 ≠ 0)).map (·.1.s))).map fun v => atM m v * x ⟨v⟩).sum = (((m.filter fun p => decide (p.2 ≠ 0)).map (·.1.s)).map fun v => atM m v * x ⟨v⟩).sum := sum_perm ((List.mergeSort_perm _ _).map _)
 have h3 : ((m.filter fun p => decide (p.2 ≠ 0)).map (·.1.s)).map (fun v => atM m v * x ⟨v⟩) = (nzM m).map fun p => p.2 * x p.1 := by
  simp only [List.map_map, nzM]
  apply List.map_congr_left
  intro p hp
  show atM m p.1.s * x ⟨p.1.s⟩ = _
  rw [atM_mem hd p (List.mem_filter.1 hp).1]
 rw [h1, h2, h3]
 exact nz_ev x m
theorem bnd_nil : bndM [] 0 := by intro p hp; cases hp
theorem comb_sem (x : Str -> Int) {a b : Lin} {k : Int} (hk1 : -1000000000 <= k) (hk2 : k <= 1000000000) (h : (combineL a b k).2 = 0) : (combineL a b k).1.k + sumV x (combineL a b k).1.t = (a.k + sumV x a.t) + k * (b.k + sumV x b.t) := by
 obtain ⟨ha, hb, hv⟩ := comb_valid h
 have hka := valid_k ha
 have hkb := valid_k hb
 have hla := valid_len ha
 have hlb := valid_len hb
 have hca : ∀ t ∈ a.t, -1000000 <= t.c ∧ t.c <= 1000000 := fun t ht => (valid_coef ha ht).2.2
 have hcb : ∀ t ∈ b.t, -1000000 <= t.c ∧ t.c <= 1000000 := fun t ht => (valid_coef hb ht).2.2
 have hm := mul_bnd hk1 hk2 hkb.1 hkb.2
 have b1 := addT_bnd (k := 1) (by omega) (by omega) a.t [] 0 (by omega) (by omega) hca bnd_nil
 have e1 := addT_ev x (k := 1) (by omega) (by omega) a.t [] 0 (by omega) (by omega) hca bnd_nil
 have e2 := addT_ev x hk1 hk2 b.t (addT 1 a.t []) (0 + a.t.length * 1000000000000000) (by omega) (by omega) hcb b1
 have hd : (keysM (addT k b.t (addT 1 a.t []))).Nodup := addT_nodup _ _ _ (addT_nodup _ _ _ (by simp [keysM]))
 have ez : evM x ([] : List (Str × Int)) = 0 := rfl
 have w0 : w64 (1 * a.k) = a.k := by rw [Int.one_mul]; exact w64_id (by omega) (by omega)
 have w1 : w64 (0 + a.k) = a.k := by rw [Int.zero_add]; exact w64_id (by omega) (by omega)
 have w2 : w64 (k * b.k) = k * b.k := w64_id (by omega) (by omega)
 have w3 : w64 (a.k + k * b.k) = a.k + k * b.k := w64_id (by omega) (by omega)
 unfold combineL at h ⊢
 rw [ha, hb, if_pos rfl, if_pos rfl] at h ⊢
 rw [w0, w1, w2, w3] at h ⊢
 unfold resM at h ⊢
 by_cases hr : validL ⟨a.k + k * b.k, termsM (addT k b.t (addT 1 a.t []))⟩ = true
 ·rw [if_pos hr]
  show a.k + k * b.k + sumV x (termsM (addT k b.t (addT 1 a.t []))) = _
  rw [termsM_ev x hd, e2, e1, ez, Int.mul_add]
  omega
 ·rw [if_neg hr] at h; cases h
end Go.Pl

namespace Go.Pl
open Go.RowKit
def coefT (ts : List Coef) (s : List UInt8) : Int := ((ts.find? fun t => t.v.s == s).map (·.c)).getD 0
def ascP (ts : List Coef) : Prop := ts.Pairwise fun a b => a.v.s < b.v.s
def nzP (ts : List Coef) : Prop := ∀ t ∈ ts, t.c ≠ 0
theorem coefT_nil (s : List UInt8) : coefT [] s = 0 := rfl
theorem coefT_cons (t : Coef) (ts : List Coef) (s : List UInt8) : coefT (t :: ts) s = if t.v.s = s then t.c else coefT ts s := by
 simp only [coefT, List.find?_cons]
 by_cases h : t.v.s = s
 ·simp [h]
 ·have : (t.v.s == s) = false := by simpa using h
  simp [this, h]
theorem coefT_lt {s : List UInt8} : ∀ {ts : List Coef}, (∀ t ∈ ts, s < t.v.s) -> coefT ts s = 0
 | [], _ => rfl
 | t :: ts, h => by
  have h1 := h t (by simp)
  rw [coefT_cons, if_neg (fun e => by rw [e] at h1; exact List.lt_irrefl _ h1)]
  exact coefT_lt fun u hu => h u (by simp [hu])
theorem asc_cons {t : Coef} {ts : List Coef} : ascP (t :: ts) ↔ (∀ u ∈ ts, t.v.s < u.v.s) ∧ ascP ts := List.pairwise_cons
theorem canon_ext : ∀ {a b : List Coef}, ascP a -> nzP a -> ascP b -> nzP b -> (∀ s, coefT a s = coefT b s) -> a = b
 | [], [], _, _, _, _, _ => rfl
 | [], y :: ys, _, _, _, hn, h => by
  have := h y.v.s
  rw [coefT_nil, coefT_cons, if_pos rfl] at this
  exact absurd this.symm (hn y (by simp))
 | x :: xs, [], _, hn, _, _, h => by
  have := h x.v.s
  rw [coefT_nil, coefT_cons, if_pos rfl] at this
  exact absurd this (hn x (by simp))
 | x :: xs, y :: ys, ha, hna, hb, hnb, h => by
  obtain ⟨ha1, ha2⟩ := asc_cons.1 ha
  obtain ⟨hb1, hb2⟩ := asc_cons.1 hb
  have hxy : x.v.s = y.v.s := by
   by_cases h1 : x.v.s < y.v.s
   ·have e := h x.v.s
    rw [coefT_cons, if_pos rfl, coefT_lt (ts := y :: ys) (fun t ht => by
     rcases List.mem_cons.1 ht with rfl | ht
     ·exact h1
     ·exact List.lt_trans h1 (hb1 t ht))] at e
    exact absurd e (hna x (by simp))
   ·by_cases h2 : x.v.s = y.v.s
    ·exact h2
    ·have h3 := tri h1 h2
     have e := h y.v.s
     rw [coefT_cons (t := y), if_pos rfl, coefT_lt (ts := x :: xs) (fun t ht => by
      rcases List.mem_cons.1 ht with rfl | ht
      ·exact h3
      ·exact List.lt_trans h3 (ha1 t ht))] at e
     exact absurd e.symm (hnb y (by simp))
  have hc : x.c = y.c := by
   have e := h x.v.s
   rwa [coefT_cons, if_pos rfl, coefT_cons, if_pos hxy.symm] at e
  have hxe : x = y := by
   have hv : x.v = y.v := str_ext.2 hxy
   cases x; cases y; simp only at hv hc; rw [hv, hc]
  have ht : xs = ys := canon_ext ha2 (fun t ht => hna t (by simp [ht])) hb2 (fun t ht => hnb t (by simp [ht])) fun s => by
   by_cases hs : x.v.s = s
   ·rw [coefT_lt (ts := xs) (fun t ht => hs ▸ ha1 t ht), coefT_lt (ts := ys) (fun t ht => hs ▸ hxy ▸ hb1 t ht)]
   ·have e := h s
    rwa [coefT_cons, if_neg hs, coefT_cons, if_neg (fun e => hs (hxy.trans e))] at e
  rw [hxe, ht]
theorem ins_skip (s : Str) (c : Int) : ∀ {ts : List Coef}, (∀ t ∈ ts, s.s < t.v.s) -> insT s c true ts = ts
 | [], _ => by simp [insT]
 | t :: ts, h => by
  have h1 := h t (by simp)
  rw [ins_t, if_neg (fun e => by rw [e] at h1; exact List.lt_irrefl _ h1), ins_skip s c fun u hu => h u (by simp [hu])]
theorem ins_mem (s : Str) (c : Int) : ∀ {ts : List Coef}, ascP ts -> ∀ u ∈ insT s c false ts, u.v.s = s.s ∨ ∃ t ∈ ts, t.v.s = u.v.s
 | [], _, u, hu => by
  simp only [insT, Bool.false_eq_true, if_false, List.mem_singleton] at hu
  exact .inl (by rw [hu])
 | t :: ts, h, u, hu => by
  obtain ⟨h1, h2⟩ := asc_cons.1 h
  rw [ins_f] at hu
  split at hu
  ·rename_i hlt
   rw [ins_skip s c (fun u hu => List.lt_trans hlt (h1 u hu))] at hu
   rcases List.mem_cons.1 hu with rfl | hu
   ·exact .inl rfl
   ·exact .inr ⟨u, hu, rfl⟩
  ·split at hu
   ·rename_i he
    rw [ins_skip s c (fun u hu => he ▸ h1 u hu)] at hu
    rcases List.mem_cons.1 hu with rfl | hu
    ·exact .inr ⟨t, by simp, rfl⟩
    ·exact .inr ⟨u, by simp [hu], rfl⟩
   ·rcases List.mem_cons.1 hu with rfl | hu
    ·exact .inr ⟨u, by simp, rfl⟩
    ·rcases ins_mem s c h2 u hu with h | ⟨w, hw, e⟩
     ·exact .inl h
     ·exact .inr ⟨w, by simp [hw], e⟩
theorem ins_asc (s : Str) (c : Int) : ∀ {ts : List Coef}, ascP ts -> ascP (insT s c false ts)
 | [], _ => by simp [insT, ascP]
 | t :: ts, h => by
  obtain ⟨h1, h2⟩ := asc_cons.1 h
  rw [ins_f]
  split
  ·rename_i hlt
   rw [ins_skip s c (fun u hu => List.lt_trans hlt (h1 u hu))]
   exact asc_cons.2 ⟨fun u hu => by
    rcases List.mem_cons.1 hu with rfl | hu
    ·exact hlt
    ·exact List.lt_trans hlt (h1 u hu), h⟩
  ·rename_i hlt
   split
   ·rename_i he
    rw [ins_skip s c (fun u hu => he ▸ h1 u hu)]
    exact asc_cons.2 ⟨h1, h2⟩
   ·rename_i he
    have hts : t.v.s < s.s := tri hlt (fun e => he (str_ext.2 e.symm))
    refine asc_cons.2 ⟨fun u hu => ?_, ins_asc s c h2⟩
    rcases ins_mem s c h2 u hu with e | ⟨w, hw, e⟩
    ·rw [e]; exact hts
    ·rw [<- e]; exact h1 w hw
theorem ins_coef (s : Str) (c : Int) (hc : w64 c = c) : ∀ {ts : List Coef}, ascP ts -> ∀ x, coefT (insT s c false ts) x = if s.s = x then w64 (coefT ts s.s + c) else coefT ts x
 | [], _, x => by
  have e : insT s c false [] = [⟨s, c⟩] := by simp [insT]
  rw [e, coefT_cons, coefT_nil, coefT_nil, Int.zero_add, hc]
 | t :: ts, h, x => by
  obtain ⟨h1, h2⟩ := asc_cons.1 h
  rw [ins_f]
  split
  ·rename_i hlt
   rw [ins_skip s c (fun u hu => List.lt_trans hlt (h1 u hu)), coefT_cons, coefT_lt (ts := t :: ts) (s := s.s) (fun u hu => by
    rcases List.mem_cons.1 hu with rfl | hu
    ·exact hlt
    ·exact List.lt_trans hlt (h1 u hu)), Int.zero_add, hc]
  ·rename_i hlt
   split
   ·rename_i he
    have he' : t.v.s = s.s := by rw [he]
    have e1 : coefT (t :: ts) s.s = t.c := by rw [coefT_cons, if_pos he']
    have e2 : coefT (t :: ts) x = if s.s = x then t.c else coefT ts x := by rw [coefT_cons, he']
    rw [ins_skip s c (fun u hu => he ▸ h1 u hu), coefT_cons, e1, e2]
    show (if t.v.s = x then w64 (t.c + c) else coefT ts x) = _
    rw [he']
    by_cases hx : s.s = x
    ·rw [if_pos hx, if_pos hx]
    ·rw [if_neg hx, if_neg hx, if_neg hx]
   ·rename_i he
    have he' : ¬ t.v.s = s.s := fun e => he (str_ext.2 e)
    rw [coefT_cons, ins_coef s c hc h2 x, coefT_cons (s := s.s), if_neg he', coefT_cons (s := x)]
    by_cases hx : s.s = x
    ·rw [if_pos hx, if_pos hx, if_neg (fun e => he' (e.trans hx.symm))]
    ·rw [if_neg hx, if_neg hx]
theorem filt_coef : ∀ {ts : List Coef}, ascP ts -> ∀ x, coefT (ts.filter fun t => decide (t.c ≠ 0)) x = coefT ts x
 | [], _, x => rfl
 | t :: ts, h, x => by
  obtain ⟨h1, h2⟩ := asc_cons.1 h
  rw [List.filter_cons]
  split
  ·rw [coefT_cons, coefT_cons, filt_coef h2 x]
  ·rename_i hz
   have hz0 : t.c = 0 := by simpa using hz
   rw [coefT_cons, filt_coef h2 x]
   by_cases hx : t.v.s = x
   ·rw [if_pos hx, hz0, coefT_lt fun u hu => hx ▸ h1 u hu]
   ·rw [if_neg hx]
theorem plus_asc {l : Lin} (s : Str) (c : Int) (h : ascP l.t) : ascP (plusL l s c).t := (ins_asc s c h).sublist List.filter_sublist
theorem plus_nz (l : Lin) (s : Str) (c : Int) : nzP (plusL l s c).t := fun t ht => by simpa using (List.mem_filter.1 ht).2
theorem plus_coef {l : Lin} (s : Str) {c : Int} (hc : w64 c = c) (h : ascP l.t) (x : List UInt8) : coefT (plusL l s c).t x = if s.s = x then w64 (coefT l.t s.s + c) else coefT l.t x := by
 show coefT (List.filter _ _) x = _
 rw [filt_coef (ins_asc s c h), ins_coef s c hc h]
theorem w64_rng (n : Int) : -9223372036854775808 <= w64 n ∧ w64 n <= 9223372036854775807 := by
 unfold w64 IntKind.wrap
 simp only [IntKind.bits, IntKind.signed]
 simp
 split <;> omega
theorem wrap_wrap (n : Int) : w64 (w64 n) = w64 n := w64_id (by have := w64_rng n; omega) (by have := w64_rng n; omega)
theorem upd_at (s : Str) (c : Int) (x : List UInt8) : ∀ m : List (Str × Int), atM (updM s c m) x = if s.s = x then c else atM m x
 | [] => by
  rw [updM]
  simp only [atM, List.find?_cons]
  by_cases h : s.s = x
  ·simp [h]
  ·have : (s.s == x) = false := by simpa using h
   simp [this, h]
 | p :: m => by
  have ih := upd_at s c x m
  rw [updM]
  split
  ·rename_i he
   simp only [atM, List.find?_cons]
   by_cases h : s.s = x
   ·simp [h]
   ·have h1 : (s.s == x) = false := by simpa using h
    have h2 : (p.1.s == x) = false := by rw [<- he]; exact h1
    simp [h1, h2, h]
  ·rename_i he
   simp only [atM, List.find?_cons] at ih ⊢
   by_cases h : p.1.s = x
   ·have h2 : ¬ s.s = x := fun e => he (e.trans h.symm)
    simp [h, h2]
   ·have h2 : (p.1.s == x) = false := by simpa using h
    rw [h2]
    exact ih
def repM (ts : List Coef) (m : List (Str × Int)) : Prop := ascP ts ∧ ∀ s, coefT ts s = atM m s
theorem times_rep (k : Int) : ∀ (x : List Coef) (l : Lin) (m : List (Str × Int)), repM l.t m -> repM (x.foldl (fun o t => plusL o t.v (w64 (k * t.c))) l).t (addT k x m)
 | [], l, m, h => h
 | t :: x, l, m, h => by
  rw [List.foldl_cons, addT]
  refine times_rep k x _ _ ⟨plus_asc _ _ h.1, fun s => ?_⟩
  rw [plus_coef _ (wrap_wrap _) h.1, upd_at, h.2, h.2]
theorem fold_nz (k : Int) : ∀ (x : List Coef) (l : Lin), nzP l.t -> nzP (x.foldl (fun o t => plusL o t.v (w64 (k * t.c))) l).t
 | [], l, h => h
 | t :: x, l, h => fold_nz k x _ (plus_nz _ _ _)
theorem fold_k (k : Int) : ∀ (x : List Coef) (l : Lin), (x.foldl (fun o t => plusL o t.v (w64 (k * t.c))) l).k = l.k
 | [], l => rfl
 | t :: x, l => fold_k k x _
theorem times_nz {l x : Lin} {k : Int} (h : nzP l.t) : nzP (timesL l x k).t := fold_nz k x.t _ h
theorem times_k (l x : Lin) (k : Int) : (timesL l x k).k = w64 (l.k + w64 (k * x.k)) := fold_k k x.t _
theorem atM_none {m : List (Str × Int)} {s : List UInt8} (h : s ∉ keysM m) : atM m s = 0 := by
 have : (m.find? fun p => p.1.s == s) = none := by
  rw [List.find?_eq_none]
  intro p hp e
  exact h (List.mem_map.2 ⟨p, hp, by simpa using e⟩)
 simp [atM, this]
theorem find_map_names (m : List (Str × Int)) (x : List UInt8) : ∀ l : List (List UInt8), coefT (l.map fun s => (⟨⟨s⟩, atM m s⟩ : Coef)) x = if x ∈ l then atM m x else 0
 | [] => by simp [coefT]
 | s :: l => by
  rw [List.map_cons, coefT_cons, find_map_names m x l]
  by_cases h : s = x
  ·subst h; simp
  ·have : ¬ x = s := fun e => h e.symm
   simp [h, this]
theorem sort_asc {l : List (List UInt8)} (h : l.Nodup) : (sortS l).Pairwise (· < ·) := by
 have tr : ∀ x y z : List UInt8, decide (x <= y) = true -> decide (y <= z) = true -> decide (x <= z) = true := fun x y z h k => by simp only [decide_eq_true_eq] at *; exact List.le_trans h k
 have to : ∀ x y : List UInt8, (decide (x <= y) || decide (y <= x)) = true := fun x y => by simp only [Bool.or_eq_true, decide_eq_true_eq]; exact List.le_total x y
 have h1 := List.pairwise_mergeSort tr to l
 have h2 : (sortS l).Nodup := (List.mergeSort_perm l _).nodup_iff.2 h
 refine (h1.and h2).imp fun {a b} hab => ?_
 have h3 : a <= b := by simpa using hab.1
 exact Decidable.byContradiction fun hn => hab.2 (List.le_antisymm h3 (List.not_lt.1 hn))
theorem names_asc (m : List (Str × Int)) {l : List (List UInt8)} (h : l.Nodup) : ascP ((sortS l).map fun s => (⟨⟨s⟩, atM m s⟩ : Coef)) := List.Pairwise.map _ (fun a b hab => hab) (sort_asc h)
theorem terms_rep {m : List (Str × Int)} (hd : (keysM m).Nodup) : repM (termsM m) m ∧ nzP (termsM m) := by
 have hd2 : ((m.filter fun p => decide (p.2 ≠ 0)).map (·.1.s)).Nodup := hd.sublist (List.filter_sublist.map _)
 refine ⟨⟨names_asc m hd2, fun s => ?_⟩, fun t ht => ?_⟩
 ·rw [termsM, find_map_names]
  split
  ·rfl
  ·rename_i hn
   refine (Decidable.byContradiction fun h0 => hn ?_)
   have hk : s ∈ keysM m := Decidable.byContradiction fun hk => h0 (atM_none hk).symm
   obtain ⟨p, hp, rfl⟩ := List.mem_map.1 hk
   have e := atM_mem hd p hp
   refine ((List.mergeSort_perm _ _).mem_iff).2 (List.mem_map.2 ⟨p, List.mem_filter.2 ⟨hp, ?_⟩, rfl⟩)
   rw [<- e]
   simpa using fun e => h0 e.symm
 ·obtain ⟨s, hs, rfl⟩ := List.mem_map.1 ht
  have hs := ((List.mergeSort_perm _ _).mem_iff).1 hs
  obtain ⟨p, hp, rfl⟩ := List.mem_map.1 hs
  obtain ⟨hp1, hp2⟩ := List.mem_filter.1 hp
  show atM m p.1.s ≠ 0
  rw [atM_mem hd p hp1]
  simpa using hp2
theorem rep_terms {ts : List Coef} {m : List (Str × Int)} (h : repM ts m) (hn : nzP ts) (hd : (keysM m).Nodup) : ts = termsM m :=
 canon_ext h.1 hn (terms_rep hd).1.1 (terms_rep hd).2 fun s => (h.2 s).trans ((terms_rep hd).1.2 s).symm
theorem ascB_asc : ∀ {l : List Coef}, ascB l = true -> ascP l
 | [], _ => List.Pairwise.nil
 | [a], _ => by simp [ascP]
 | a :: b :: l, h => by
  simp only [ascB, Bool.and_eq_true, decide_eq_true_eq] at h
  have ih := ascB_asc (l := b :: l) h.2
  refine asc_cons.2 ⟨fun u hu => ?_, ih⟩
  rcases List.mem_cons.1 hu with rfl | hu
  ·exact h.1
  ·exact List.lt_trans h.1 ((asc_cons.1 ih).1 u hu)
theorem valid_asc {l : Lin} (h : validL l = true) : ascP l.t := by
 simp only [validL, Bool.and_eq_true] at h
 exact ascB_asc h.1.1.2
theorem valid_nz {l : Lin} (h : validL l = true) : nzP l.t := fun t ht => (valid_coef h ht).2.1
theorem one_rep : ∀ (x pre : List Coef) (m : List (Str × Int)), ascP (pre ++ x) -> (∀ t ∈ x, w64 t.c = t.c) -> (∀ s, coefT pre s = atM m s) -> ∀ s, coefT (pre ++ x) s = atM (addT 1 x m) s
 | [], pre, m, _, _, h, s => by rw [List.append_nil]; exact h s
 | t :: x, pre, m, ha, hw, h, s => by
  have e : pre ++ t :: x = (pre ++ [t]) ++ x := by simp
  rw [addT, e]
  refine one_rep x (pre ++ [t]) _ (e ▸ ha) (fun u hu => hw u (by simp [hu])) (fun y => ?_) s
  have hp : ∀ u ∈ pre, u.v.s < t.v.s := fun u hu => (List.pairwise_append.1 ha).2.2 u hu t (by simp)
  have hnone : coefT pre t.v.s = 0 := by
   have : (pre.find? fun u => u.v.s == t.v.s) = none := by
    rw [List.find?_eq_none]
    intro u hu e
    have e : u.v.s = t.v.s := by simpa using e
    have := hp u hu
    rw [e] at this
    exact List.lt_irrefl _ this
   simp [coefT, this]
  have hw1 : IntKind.i64.wrap t.c = t.c := hw t (by simp)
  rw [upd_at, <- h, <- h, hnone, Int.one_mul, hw1, Int.zero_add, hw1]
  by_cases hy : t.v.s = y
  ·have hn : (pre.find? fun u => u.v.s == y) = none := by
    rw [List.find?_eq_none]
    intro u hu e
    have e : u.v.s = y := by simpa using e
    have := hp u hu
    rw [e, hy] at this
    exact List.lt_irrefl _ this
   rw [if_pos hy]
   simp [coefT, List.find?_append, hn, hy]
  ·have hn : ([t].find? fun u => u.v.s == y) = none := by simp [hy]
   rw [if_neg hy]
   simp only [coefT, List.find?_append, hn, Option.or_none]
theorem coef_w {l : Lin} (h : validL l = true) : ∀ t ∈ l.t, w64 t.c = t.c := fun t ht => by
 have := (valid_coef h ht).2.2
 exact w64_id (by omega) (by omega)
theorem self_rep {l : Lin} (h : validL l = true) : repM l.t (addT 1 l.t []) := ⟨valid_asc h, fun s => by
 have := one_rep l.t [] [] (by simpa using valid_asc h) (coef_w h) (fun s => rfl) s
 simpa using this⟩
def limL (l : Lin) : Lin × Int := if validL l then (l, 0) else (⟨0, []⟩, 3)
theorem combine_times {a b : Lin} (k : Int) (ha : validL a = true) (hb : validL b = true) : combineL a b k = limL (timesL a b k) := by
 have hk := valid_k ha
 have hr := times_rep k b.t ⟨w64 (a.k + w64 (k * b.k)), a.t⟩ _ (self_rep (l := a) ha)
 have hd : (keysM (addT k b.t (addT 1 a.t []))).Nodup := addT_nodup _ _ _ (addT_nodup _ _ _ (by simp [keysM]))
 have e1 : (timesL a b k).t = termsM (addT k b.t (addT 1 a.t [])) := rep_terms hr (times_nz (valid_nz ha)) hd
 have e2 : w64 (w64 (0 + w64 (1 * a.k)) + w64 (k * b.k)) = (timesL a b k).k := by
  rw [times_k, Int.one_mul, w64_id (n := a.k) (by omega) (by omega), Int.zero_add, w64_id (n := a.k) (by omega) (by omega)]
 have e3 : (⟨(timesL a b k).k, (timesL a b k).t⟩ : Lin) = timesL a b k := rfl
 unfold combineL
 rw [ha, hb, if_pos rfl, if_pos rfl, e2, resM, <- e1, e3, limL]
end Go.Pl

namespace Go.Pl
open Go.RowKit
def wM (m : List (Str × Int)) : Prop := ∀ s, w64 (atM m s) = atM m s
theorem add_zero : ∀ (x : List Coef) (m : List (Str × Int)), wM m -> ∀ s, atM (addT 0 x m) s = atM m s
 | [], m, h, s => rfl
 | t :: x, m, h, s => by
  have e : ∀ y, atM (updM t.v (IntKind.i64.wrap (atM m t.v.s + IntKind.i64.wrap (0 * t.c))) m) y = atM m y := fun y => by
   rw [upd_at]
   split
   ·rename_i hy
    have : IntKind.i64.wrap (0 * t.c) = 0 := by rw [Int.zero_mul]; rfl
    rw [this, Int.add_zero, <- hy]
    exact h t.v.s
   ·rfl
  rw [addT, add_zero x _ (fun y => by rw [e]; exact h y), e]
end Go.Pl

namespace Go.Pl
open Go.RowKit
theorem valid_zero : validL ⟨0, []⟩ = true := by decide
end Go.Pl

namespace Go.Pl
open Go.RowKit
open Enc (enc dec is)
open EncL (encL decL isL)
end Go.Pl

namespace Go.Pl
open Go.RowKit
open Enc (enc dec is)
open EncL (encL decL isL)
set_option maxRecDepth 100000
end Go.Pl

namespace Go.Pl
open Go.RowKit
open Enc (enc dec is)
open EncL (encL decL isL)
set_option maxRecDepth 100000
end Go.Pl

namespace Go.Pl
open Go.RowKit
open Enc (enc dec is)
open EncL (encL decL isL)
end Go.Pl

namespace Go.Pl
open Go.RowKit
open Enc (enc dec is)
open EncL (encL decL isL)
end Go.Pl

namespace Go.Pl
open Go.RowKit
open Enc (enc dec is)
open EncL (encL decL isL)
end Go.Pl

namespace Go.Pl
open Go.RowKit
open Enc (enc dec is)
open EncL (encL decL isL)
theorem one_of {α : Type} : ∀ {ks : List α}, ks.length = 1 -> ∃ a, ks = [a]
 | [a], _ => ⟨a, rfl⟩
end Go.Pl

namespace Go.Pl
open Go.RowKit
open Enc (enc dec is)
open EncL (encL decL isL)
set_option maxRecDepth 100000
end Go.Pl

namespace Go.Pl
open Go.RowKit
open Enc (enc dec is)
open EncL (encL decL isL)
end Go.Pl

namespace Go.Pl
open Go.RowKit
open Enc (enc dec is)
open EncL (encL decL isL)
theorem sub_zero (b : Bool) : Sub (.tup [zeroL, .bool b]) (enc (((⟨0, []⟩ : Lin), b) : Lin × Bool)) := Sub.pair (Sub.agg_cons (.refl _) (Sub.agg_cons (.sl0 _ _ _) Sub.agg_nil)) (.refl _)
end Go.Pl

namespace Go.Pl
open Go.RowKit
open Enc (enc dec is)
open EncL (encL decL isL)
def letB (c : UInt8) : Bool := lowB c || c == 95 || digB c
def blanksS (s : List UInt8) : List UInt8 := s.dropWhile fun c => c == 32
def rdV (s : List UInt8) (n : Int) (es : List (PV × PV)) : List AObj := [.box [.pv (.str s), .pv (.int .i64 n), .map 1], .map es]
def pre_rd0 : List AV -> List AObj -> Bool
 | [.ptr 0 0], [.box [.pv (.str s), .pv (.int .i64 n), .map 1], .map es] => decide (s.length <= 1000000)
 | _, _ => false
def pre_take (g : Nat) : List AV -> List AObj -> Bool
 | [.ptr 0 0, .pv (.fn g')], [.box [.pv (.str s), .pv (.int .i64 n), .map 1], .map es] => g' == g && decide (s.length <= 1000000)
 | _, _ => false
def val_spaces : List AV -> List AObj -> AV × List AObj × List AObj
 | _, [.box [.pv (.str s), .pv (.int .i64 n), .map 1], .map es] => (.tup [], rdV (blanksS s) n es, [])
 | _, _ => combN
def takeW (p : UInt8 -> Bool) : List AV -> List AObj -> AV × List AObj × List AObj
 | _, [.box [.pv (.str s), .pv (.int .i64 n), .map 1], .map es] => (.pv (.str (s.takeWhile p)), rdV (s.dropWhile p) n es, [])
 | _, _ => combN
def numOk (d : List UInt8) : Bool := !(atoiE ⟨d⟩).2.b && decide (d.length <= 7) && (decide (d.head? ≠ some 48) || decide (d = [48]))
def val_number : List AV -> List AObj -> AV × List AObj × List AObj
 | _, [.box [.pv (.str s), .pv (.int .i64 n), .map 1], .map es] => (.tup [.pv (.int .i64 (atoiE ⟨s.takeWhile digB⟩).1), .pv (.bool (numOk (s.takeWhile digB)))], rdV (s.dropWhile digB) n es, [])
 | _, _ => combN
def val_variable : List AV -> List AObj -> AV × List AObj × List AObj
 | _, [.box [.pv (.str s), .pv (.int .i64 n), .map 1], .map es] => (.tup [.pv (.str (s.takeWhile letB)), .pv (.bool (nameB ⟨s.takeWhile letB⟩))], rdV (s.dropWhile letB) n es, [])
 | _, _ => combN
def signR : List UInt8 -> (Int × Bool) × List UInt8
 | [] => ((1, false), [])
 | c :: r => if c = 43 then ((1, true), r) else if c = 45 then ((-1, true), r) else ((1, false), c :: r)
def val_sign : List AV -> List AObj -> AV × List AObj × List AObj
 | _, [.box [.pv (.str s), .pv (.int .i64 n), .map 1], .map es] => (.tup [.pv (.int .i64 (signR s).1.1), .pv (.bool (signR s).1.2)], rdV (signR s).2 n es, [])
 | _, _ => combN
end Go.Pl

namespace Go.Pl
open Go.RowKit
open Enc (enc dec is)
open EncL (encL decL isL)
structure RdS where
 s : List UInt8
 n : Int
 m : List (Str × Int)
def RdS.os (r : RdS) : List AObj := rdV r.s r.n (mapP r.m)
def varR (s : List UInt8) (n : Int) (m : List (Str × Int)) (k : Int) : Bool × RdS :=
 (nameB ⟨s.takeWhile letB⟩, ⟨s.dropWhile letB, n, updM ⟨s.takeWhile letB⟩ (w64 (atM m (s.takeWhile letB) + k)) m⟩)
def afterR (s : List UInt8) (n : Int) (m : List (Str × Int)) (k : Int) : Bool × RdS :=
 if ([42] : List UInt8).isPrefixOf (blanksS s) then varR (blanksS ((blanksS s).drop 1)) n m k
 else if s = [] ∨ letB (s.headD 0) = false then (true, ⟨s, w64 (n + k), m⟩)
 else varR s n m k
def itemR (r : RdS) (g : Int) : Bool × RdS :=
 if r.s = [] then (false, r)
 else if digB (r.s.headD 0) = false then varR r.s r.n r.m g
 else if numOk (r.s.takeWhile digB) = false then (false, ⟨r.s.dropWhile digB, r.n, r.m⟩)
 else afterR (r.s.dropWhile digB) r.n r.m (w64 (g * (atoiE ⟨r.s.takeWhile digB⟩).1))
def pre_rd1 : List AV -> List AObj -> Bool
 | [.ptr 0 0, .pv (.int .i64 g)], [.box [.pv (.str s), .pv (.int .i64 n), .map 1], .map es] => canM es && decide (s.length <= 1000000)
 | _, _ => false
def itemV (z : Bool × RdS) : AV × List AObj × List AObj := (.pv (.bool z.1), z.2.os, [])
def val_item : List AV -> List AObj -> AV × List AObj × List AObj
 | [_, .pv (.int .i64 g)], [.box [.pv (.str s), .pv (.int .i64 n), .map 1], .map es] => itemV (itemR ⟨s, n, mapD es⟩ g)
 | _, _ => combN
end Go.Pl

namespace Go.Pl
open Go.RowKit
def parseR : Nat -> List UInt8 -> Int -> List (Str × Int) -> Int -> Lin × Int
 | 0, _, _, _, _ => (⟨0, []⟩, 6)
 | f + 1, t, n, m, g =>
  if (itemR ⟨blanksS t, n, m⟩ g).1 = false then (⟨0, []⟩, 6)
  else if blanksS (itemR ⟨blanksS t, n, m⟩ g).2.s = [] then resM (itemR ⟨blanksS t, n, m⟩ g).2.n (itemR ⟨blanksS t, n, m⟩ g).2.m
  else if (signR (blanksS (itemR ⟨blanksS t, n, m⟩ g).2.s)).1.2 = false then (⟨0, []⟩, 6)
  else parseR f (signR (blanksS (itemR ⟨blanksS t, n, m⟩ g).2.s)).2 (itemR ⟨blanksS t, n, m⟩ g).2.n (itemR ⟨blanksS t, n, m⟩ g).2.m (signR (blanksS (itemR ⟨blanksS t, n, m⟩ g).2.s)).1.1
def parseL (s : List UInt8) : Lin × Int := parseR (s.length + 1) (signR (blanksS s)).2 0 [] (signR (blanksS s)).1.1
end Go.Pl

namespace Go.Pl
open Go.RowKit
open Enc (enc dec is)
open EncL (encL decL isL)
def cmpC (x y : Coef) : Int := if Lib.compareBytes x.v.s y.v.s ≠ 0 then Lib.compareBytes x.v.s y.v.s else cmpK x.c y.c
def cmpCs : List Coef -> List Coef -> Int
 | [], [] => 0
 | [], _ :: _ => -1
 | _ :: _, [] => 1
 | x :: l, y :: m => if cmpC x y ≠ 0 then cmpC x y else cmpCs l m
def cmpLin (a b : Lin) : Int := if cmpCs a.t b.t ≠ 0 then cmpCs a.t b.t else cmpK a.k b.k
def partS (o : List UInt8) (n : Int) (s : List UInt8) : List UInt8 :=
 (if decide (n ≥ 0) && decide (o ≠ []) then o ++ [43] else o) ++ ((if decide (s ≠ []) && (decide (n = 1) || decide (n = -1)) then Lib.trimSuffix (itoaS n).s [49] else (itoaS n).s) ++ s)
def partsS (ts : List Coef) : List UInt8 := ts.foldl (fun o t => partS o t.c t.v.s) []
def printL (l : Lin) : List UInt8 := if validL l then (if decide (l.k ≠ 0) || decide (partsS l.t = []) then partS (partsS l.t) l.k [] else partsS l.t) else []
def pre_part : List AV -> List AObj -> Bool
 | [.pv (.int .i64 n), .pv (.str s), .ptr 0 0], [.box [.pv (.str o)]] => decide (-9223372036854775808 <= n) && decide (n <= 9223372036854775807) && decide (s.length <= 1000000) && decide (o.length <= 1000000)
 | _, _ => false
def val_part : List AV -> List AObj -> AV × List AObj × List AObj
 | [.pv (.int .i64 n), .pv (.str s), .ptr 0 0], [.box [.pv (.str o)]] => (.tup [], [.box [.pv (.str (partS o n s))]], [])
 | _, _ => combN
end Go.Pl

namespace Go.Pl
open Go.RowKit
open Enc (enc dec is)
open EncL (encL decL isL)
def bndB (v : List UInt8) (b : Bnd) : Bool := decide (b.kind = 1) && b.v.s == v
def pre_s1 : List AV -> List AObj -> Bool
 | [.pv x, .ptr 0 0], [.box [.pv (.str v), .pv (.int .i64 c)]] => can Bnd x
 | _, _ => false
def val_s1 : List AV -> List AObj -> AV × List AObj × List AObj
 | [.pv x, _], [.box [.pv (.str v), .pv (.int .i64 c)]] => (.pv (.bool (bndB v (dec x))), [.box [.pv (.str v), .pv (.int .i64 c)]], [])
 | _, _ => combN
def pre_ixS (g : Nat) : List AV -> List AObj -> Bool
 | [.pv l, .fn g' [] [.ptr 0 0]], [.box [.pv (.str v), .pv (.int .i64 c)]] => g' == g && can (List Bnd) l && decide ((dec l : List Bnd).length <= 9223372036854775807)
 | _, _ => false
def val_ixS : List AV -> List AObj -> AV × List AObj × List AObj
 | [.pv l, _], [.box [.pv (.str v), .pv (.int .i64 c)]] => (.pv (.int .i64 (ixFind (bndB v) (dec l))), [.box [.pv (.str v), .pv (.int .i64 c)]], [])
 | _, _ => combN
def putS (bs : List Bnd) (s : Int × List (Str × Int)) (t : Coef) : Option (Int × List (Str × Int)) := match bs.find? (bndB t.v.s) with
 | none => some (s.1, updM t.v (w64 (atM s.2 t.v.s + t.c)) s.2)
 | some b => if validL b.dim then some (w64 (s.1 + w64 (t.c * b.dim.k)), addT t.c b.dim.t s.2) else none
def foldS (bs : List Bnd) : List Coef -> Int × List (Str × Int) -> Option (Int × List (Str × Int))
 | [], s => some s
 | t :: ts, s => match putS bs s t with | none => none | some s' => foldS bs ts s'
def substL (l : Lin) (bs : List Bnd) : Lin × Int := if validL l then (match foldS bs l.t (l.k, []) with | none => (⟨0, []⟩, 1) | some s => resM s.1 s.2) else (⟨0, []⟩, 1)
def bndsSm (bs : List Bnd) : Bool := decide (bs.length <= 9223372036854775807) && bs.all fun b => linSm b.dim
end Go.Pl

namespace Go.Pl
open Go.RowKit
open Enc (enc dec is)
open EncL (encL decL isL)
set_option maxRecDepth 100000
def ic_awake4 : IC := (.seq (.reg [⟨(some 0), (.mv (.c (.bool false))), 0, none⟩] none) (.seq (.reg [⟨(some 16), (.call (.c (.fn 19)) [(.c (.str [50, 110]))]), 0, none⟩, ⟨(some 15), (.mv (.t 16)), 2, none⟩, ⟨(some 17), (.extract (.t 15) 0), 2, none⟩, ⟨(some 18), (.extract (.t 15) 1), 2, none⟩, ⟨(some 1), (.alloc (.agg [(.int .i64 0), (.sl 0 true [])])), 2, none⟩, ⟨none, (.store 2 (.t 1) (.t 17)), 3, none⟩, ⟨(some 2), (.mv (.t 18)), 3, none⟩] none) (.seq (.reg [⟨(some 20), (.call (.c (.fn 19)) [(.c (.str [109, 32, 45, 32, 49]))]), 0, none⟩, ⟨(some 19), (.mv (.t 20)), 2, none⟩, ⟨(some 21), (.extract (.t 19) 0), 2, none⟩, ⟨(some 22), (.extract (.t 19) 1), 2, none⟩, ⟨(some 3), (.alloc (.agg [(.int .i64 0), (.sl 0 true [])])), 2, none⟩, ⟨none, (.store 2 (.t 3) (.t 21)), 3, none⟩, ⟨(some 4), (.mv (.t 22)), 3, none⟩] none) (.seq (.reg [⟨(some 24), (.load true [(.int .i64), (.sl 2)] (.t 1)), 0, none⟩, ⟨(some 25), (.load true [(.int .i64), (.sl 2)] (.t 3)), 0, none⟩, ⟨(some 26), (.call (.c (.fn 39)) [(.t 24), (.t 25)]), 0, none⟩, ⟨(some 23), (.mv (.t 26)), 2, none⟩, ⟨(some 27), (.extract (.t 23) 0), 2, none⟩, ⟨(some 28), (.extract (.t 23) 1), 2, none⟩, ⟨(some 5), (.alloc (.agg [(.int .i64 0), (.sl 0 true [])])), 2, none⟩, ⟨none, (.store 2 (.t 5) (.t 27)), 3, none⟩, ⟨(some 6), (.mv (.t 28)), 3, none⟩] none) (.seq (.reg [⟨(some 30), (.call (.c (.fn 19)) [(.c (.str [51, 32, 42, 32, 110, 32, 45, 32, 110, 43, 32, 50]))]), 0, none⟩, ⟨(some 29), (.mv (.t 30)), 2, none⟩, ⟨(some 31), (.extract (.t 29) 0), 2, none⟩, ⟨(some 32), (.extract (.t 29) 1), 2, none⟩, ⟨(some 7), (.alloc (.agg [(.int .i64 0), (.sl 0 true [])])), 2, none⟩, ⟨none, (.store 2 (.t 7) (.t 31)), 3, none⟩, ⟨(some 8), (.mv (.t 32)), 3, none⟩] none) (.seq (.reg [⟨(some 34), (.call (.c (.fn 19)) [(.c (.str [110, 43, 109]))]), 0, none⟩, ⟨(some 33), (.mv (.t 34)), 2, none⟩, ⟨(some 35), (.extract (.t 33) 0), 2, none⟩, ⟨(some 36), (.extract (.t 33) 1), 2, none⟩, ⟨(some 9), (.alloc (.agg [(.int .i64 0), (.sl 0 true [])])), 2, none⟩, ⟨none, (.store 2 (.t 9) (.t 35)), 3, none⟩, ⟨(some 10), (.mv (.t 36)), 3, none⟩] none) (.seq (.reg [⟨(some 38), (.call (.c (.fn 19)) [(.c (.str [109, 43, 49]))]), 0, none⟩, ⟨(some 37), (.mv (.t 38)), 2, none⟩, ⟨(some 39), (.extract (.t 37) 0), 2, none⟩, ⟨(some 40), (.extract (.t 37) 1), 2, none⟩, ⟨(some 11), (.alloc (.agg [(.int .i64 0), (.sl 0 true [])])), 2, none⟩, ⟨none, (.store 2 (.t 11) (.t 39)), 3, none⟩, ⟨(some 12), (.mv (.t 40)), 3, none⟩] none) (.seq (.reg [⟨(some 42), (.load true [(.int .i64), (.sl 2)] (.t 9)), 0, none⟩, ⟨(some 43), (.load true [(.int .i64), (.sl 2)] (.t 11)), 0, none⟩, ⟨(some 44), (.build [(.int .i64 0), (.str []), (.int .i64 0), (.sl 0 true []), (.str []), (.sl 0 true []), (.str [])] [(0, (1, (.c (.int .i64 1)))), (1, (1, (.c (.str [110])))), (2, (2, (.t 43)))]), 0, none⟩, ⟨(some 45), (.bslice 73 7 1 (.agg [(.int .i64 0), (.str []), (.int .i64 0), (.sl 0 true []), (.str []), (.sl 0 true []), (.str [])]) [(0, (.t 44))]), 0, none⟩, ⟨(some 46), (.call (.c (.fn 42)) [(.t 42), (.t 45)]), 1, none⟩, ⟨(some 41), (.mv (.t 46)), 3, none⟩, ⟨(some 47), (.extract (.t 41) 0), 3, none⟩, ⟨(some 48), (.extract (.t 41) 1), 3, none⟩, ⟨(some 13), (.alloc (.agg [(.int .i64 0), (.sl 0 true [])])), 3, none⟩, ⟨none, (.store 2 (.t 13) (.t 47)), 4, none⟩, ⟨(some 14), (.mv (.t 48)), 4, none⟩] none) (.seq (.reg [⟨(some 49), (.mv (.t 2)), 0, none⟩, ⟨(some 50), (.bin .num .eql (.t 49) (.c (.int .i64 0))), 0, none⟩, ⟨(some 51), (.mv (.t 50)), 0, none⟩, ⟨(some 52), (.mv (.t 4)), 0, (some (51, true))⟩, ⟨(some 53), (.bin .num .eql (.t 52) (.c (.int .i64 0))), 0, (some (51, true))⟩, ⟨(some 54), (.pick (.t 51) (.t 53) (.c (.bool false))), 0, none⟩, ⟨(some 55), (.mv (.t 54)), 0, none⟩, ⟨(some 56), (.mv (.t 6)), 0, (some (55, true))⟩, ⟨(some 57), (.bin .num .eql (.t 56) (.c (.int .i64 0))), 0, (some (55, true))⟩, ⟨(some 58), (.pick (.t 55) (.t 57) (.c (.bool false))), 0, none⟩, ⟨(some 59), (.mv (.t 58)), 0, none⟩, ⟨(some 60), (.mv (.t 8)), 0, (some (59, true))⟩, ⟨(some 61), (.bin .num .eql (.t 60) (.c (.int .i64 0))), 0, (some (59, true))⟩, ⟨(some 62), (.pick (.t 59) (.t 61) (.c (.bool false))), 0, none⟩, ⟨(some 63), (.mv (.t 62)), 0, none⟩, ⟨(some 64), (.mv (.t 10)), 0, (some (63, true))⟩, ⟨(some 65), (.bin .num .eql (.t 64) (.c (.int .i64 0))), 0, (some (63, true))⟩, ⟨(some 66), (.pick (.t 63) (.t 65) (.c (.bool false))), 0, none⟩, ⟨(some 67), (.mv (.t 66)), 0, none⟩, ⟨(some 68), (.mv (.t 12)), 0, (some (67, true))⟩, ⟨(some 69), (.bin .num .eql (.t 68) (.c (.int .i64 0))), 0, (some (67, true))⟩, ⟨(some 70), (.pick (.t 67) (.t 69) (.c (.bool false))), 0, none⟩, ⟨(some 71), (.mv (.t 70)), 0, none⟩, ⟨(some 72), (.mv (.t 14)), 0, (some (71, true))⟩, ⟨(some 73), (.bin .num .eql (.t 72) (.c (.int .i64 0))), 0, (some (71, true))⟩, ⟨(some 74), (.pick (.t 71) (.t 73) (.c (.bool false))), 0, none⟩, ⟨(some 75), (.mv (.t 74)), 0, none⟩, ⟨(some 76), (.load true [(.int .i64), (.sl 2)] (.t 5)), 0, (some (75, true))⟩, ⟨(some 77), (.call (.c (.fn 17)) [(.t 76)]), 0, (some (75, true))⟩, ⟨(some 78), (.bin .num .eql (.t 77) (.c (.str [109, 43, 50, 110, 45, 49]))), 2, (some (75, true))⟩, ⟨(some 79), (.pick (.t 75) (.t 78) (.c (.bool false))), 2, none⟩, ⟨(some 80), (.mv (.t 79)), 2, none⟩, ⟨(some 81), (.load true [(.int .i64), (.sl 2)] (.t 7)), 2, (some (80, true))⟩, ⟨(some 82), (.call (.c (.fn 17)) [(.t 81)]), 2, (some (80, true))⟩, ⟨(some 83), (.bin .num .eql (.t 82) (.c (.str [50, 110, 43, 50]))), 4, (some (80, true))⟩, ⟨(some 84), (.pick (.t 80) (.t 83) (.c (.bool false))), 4, none⟩, ⟨(some 85), (.mv (.t 84)), 4, none⟩, ⟨(some 86), (.load true [(.int .i64), (.sl 2)] (.t 13)), 4, (some (85, true))⟩, ⟨(some 87), (.call (.c (.fn 17)) [(.t 86)]), 4, (some (85, true))⟩, ⟨(some 88), (.bin .num .eql (.t 87) (.c (.str [50, 109, 43, 49]))), 6, (some (85, true))⟩, ⟨(some 89), (.pick (.t 85) (.t 88) (.c (.bool false))), 6, none⟩, ⟨(some 90), (.mv (.t 89)), 6, none⟩, ⟨(some 91), (.load true [(.int .i64), (.sl 2)] (.t 5)), 6, (some (90, true))⟩, ⟨(some 92), (.call (.c (.fn 73)) [(.t 91)]), 6, (some (90, true))⟩, ⟨(some 93), (.pick (.t 90) (.t 92) (.c (.bool false))), 8, none⟩, ⟨(some 94), (.mv (.t 93)), 8, none⟩, ⟨(some 95), (.load true [(.int .i64), (.sl 2)] (.t 5)), 8, (some (94, true))⟩, ⟨(some 96), (.load true [(.int .i64), (.sl 2)] (.t 5)), 8, (some (94, true))⟩, ⟨(some 97), (.call (.c (.fn 74)) [(.t 95), (.t 96)]), 8, (some (94, true))⟩, ⟨(some 98), (.pick (.t 94) (.t 97) (.c (.bool false))), 10, none⟩, ⟨(some 0), (.mv (.t 98)), 10, none⟩] none) .ret)))))))))
def rs_awake4 : List IRes := [(.tmp 0)]
abbrev nt_awake4 : Nat := 99
def T_awake4 : Tab := tab [(19, .pure (preT (fun x : Str × Unit => decide (x.1.s.length <= 400000))) (valT (fun x : Str × Unit => parseL x.1.s))), (39, .pure (preT (fun x : Lin × Lin × Unit => linSm x.1 && linSm x.2.1)) (valT (fun x : Lin × Lin × Unit => combineL x.1 x.2.1 1))), (42, .pure (preT (fun x : Lin × List Bnd × Unit => linSm x.1 && bndsSm x.2.1)) (valT (fun x : Lin × List Bnd × Unit => substL x.1 x.2.1))), (17, .pure (preT (fun x : Lin × Unit => linSm x.1)) (valT (fun x : Lin × Unit => (⟨printL x.1⟩ : Str)))), (73, .pure (preT (fun x : Lin × Unit => linSm x.1)) (valT (fun x : Lin × Unit => validL x.1))), (74, .pure (preT (fun x : Lin × Lin × Unit => linOk x.1 && linOk x.2.1)) (valT (fun x : Lin × Lin × Unit => cmpLin x.1 x.2.1 == 0)))]
theorem awake4_s {G : PV -> Prop}  (h : ∃ y0 : Lin × Int, AV.pv (valT (fun (x : Str × Unit) => parseL (Str.s x.1)) [(.str [(50 : UInt8), (110 : UInt8)])]) = AV.pv (enc y0) ∧ (∃ y1 : Lin × Int, AV.pv (valT (fun (x : Str × Unit) => parseL (Str.s x.1)) [(.str [(109 : UInt8), (32 : UInt8), (45 : UInt8), (32 : UInt8), (49 : UInt8)])]) = AV.pv (enc y1) ∧ ((Go.Pl.preT (fun (x : Lin × Lin × Unit) => linSm x.1 && linSm x.2.1) [(.agg [(.int .i64 y0.1.k), (.sl 2 false (List.map enc y0.1.t))]), (.agg [(.int .i64 y1.1.k), (.sl 2 false (List.map enc y1.1.t))])]) = true ∧ (∃ y2 : Lin × Int, AV.pv (valT (fun (x : Lin × Lin × Unit) => combineL x.1 x.2.1 1) [(.agg [(.int .i64 y0.1.k), (.sl 2 false (List.map enc y0.1.t))]), (.agg [(.int .i64 y1.1.k), (.sl 2 false (List.map enc y1.1.t))])]) = AV.pv (enc y2) ∧ (∃ y3 : Lin × Int, AV.pv (valT (fun (x : Str × Unit) => parseL (Str.s x.1)) [(.str [(51 : UInt8), (32 : UInt8), (42 : UInt8), (32 : UInt8), (110 : UInt8), (32 : UInt8), (45 : UInt8), (32 : UInt8), (110 : UInt8), (43 : UInt8), (32 : UInt8), (50 : UInt8)])]) = AV.pv (enc y3) ∧ (∃ y4 : Lin × Int, AV.pv (valT (fun (x : Str × Unit) => parseL (Str.s x.1)) [(.str [(110 : UInt8), (43 : UInt8), (109 : UInt8)])]) = AV.pv (enc y4) ∧ (∃ y5 : Lin × Int, AV.pv (valT (fun (x : Str × Unit) => parseL (Str.s x.1)) [(.str [(109 : UInt8), (43 : UInt8), (49 : UInt8)])]) = AV.pv (enc y5) ∧ ((Go.Pl.preT (fun (x : Lin × List Bnd × Unit) => linSm x.1 && bndsSm x.2.1) [(.agg [(.int .i64 y4.1.k), (.sl 2 false (List.map enc y4.1.t))]), (.sl 7 false [(.agg [(.int .i64 1), (.str [(110 : UInt8)]), (.int .i64 y5.1.k), (.sl 2 false (List.map enc y5.1.t)), (.str []), (.sl 0 true []), (.str [])])])]) = true ∧ (∃ y6 : Lin × Int, AV.pv (valT (fun (x : Lin × List Bnd × Unit) => substL x.1 x.2.1) [(.agg [(.int .i64 y4.1.k), (.sl 2 false (List.map enc y4.1.t))]), (.sl 7 false [(.agg [(.int .i64 1), (.str [(110 : UInt8)]), (.int .i64 y5.1.k), (.sl 2 false (List.map enc y5.1.t)), (.str []), (.sl 0 true []), (.str [])])])]) = AV.pv (enc y6) ∧ (if (y0.2 == 0) = true then if (y1.2 == 0) = true then if (y2.2 == 0) = true then if (y3.2 == 0) = true then if (y4.2 == 0) = true then if (y5.2 == 0) = true then if (y6.2 == 0) = true then (Go.Pl.preT (fun (x : Lin × Unit) => linSm x.1) [(.agg [(.int .i64 y2.1.k), (.sl 2 false (List.map enc y2.1.t))])]) = true ∧ (∃ y7 : Str, AV.pv (valT (fun (x : Lin × Unit) => Str.mk (printL x.1)) [(.agg [(.int .i64 y2.1.k), (.sl 2 false (List.map enc y2.1.t))])]) = AV.pv (enc y7) ∧ (if (Str.s y7 == [(109 : UInt8), (43 : UInt8), (50 : UInt8), (110 : UInt8), (45 : UInt8), (49 : UInt8)]) = true then (Go.Pl.preT (fun (x : Lin × Unit) => linSm x.1) [(.agg [(.int .i64 y3.1.k), (.sl 2 false (List.map enc y3.1.t))])]) = true ∧ (∃ y8 : Str, AV.pv (valT (fun (x : Lin × Unit) => Str.mk (printL x.1)) [(.agg [(.int .i64 y3.1.k), (.sl 2 false (List.map enc y3.1.t))])]) = AV.pv (enc y8) ∧ (if (Str.s y8 == [(50 : UInt8), (110 : UInt8), (43 : UInt8), (50 : UInt8)]) = true then (Go.Pl.preT (fun (x : Lin × Unit) => linSm x.1) [(.agg [(.int .i64 y6.1.k), (.sl 2 false (List.map enc y6.1.t))])]) = true ∧ (∃ y9 : Str, AV.pv (valT (fun (x : Lin × Unit) => Str.mk (printL x.1)) [(.agg [(.int .i64 y6.1.k), (.sl 2 false (List.map enc y6.1.t))])]) = AV.pv (enc y9) ∧ (if (Str.s y9 == [(50 : UInt8), (109 : UInt8), (43 : UInt8), (49 : UInt8)]) = true then (Go.Pl.preT (fun (x : Lin × Unit) => linSm x.1) [(.agg [(.int .i64 y2.1.k), (.sl 2 false (List.map enc y2.1.t))])]) = true ∧ (∃ y10 : Bool, AV.pv (valT (fun (x : Lin × Unit) => validL x.1) [(.agg [(.int .i64 y2.1.k), (.sl 2 false (List.map enc y2.1.t))])]) = AV.pv (enc y10) ∧ (if (y10) = true then (Go.Pl.preT (fun (x : Lin × Lin × Unit) => linOk x.1 && linOk x.2.1) [(.agg [(.int .i64 y2.1.k), (.sl 2 false (List.map enc y2.1.t))]), (.agg [(.int .i64 y2.1.k), (.sl 2 false (List.map enc y2.1.t))])]) = true ∧ (∃ y11 : Bool, AV.pv (valT (fun (x : Lin × Lin × Unit) => cmpLin x.1 x.2.1 == 0) [(.agg [(.int .i64 y2.1.k), (.sl 2 false (List.map enc y2.1.t))]), (.agg [(.int .i64 y2.1.k), (.sl 2 false (List.map enc y2.1.t))])]) = AV.pv (enc y11) ∧ (G ((.bool y11)))) else (G ((.bool false))))) else (G ((.bool false))))) else (G ((.bool false))))) else (G ((.bool false))))) else (G ((.bool false))) else (G ((.bool false))) else (G ((.bool false))) else (G ((.bool false))) else (G ((.bool false))) else (G ((.bool false))) else (G ((.bool false))))))))))))) : Gets T_awake4 0 (endP' rs_awake4 G) ic_awake4 [] (st0 99 []) := Gets.tp (.lit (.abs (Lin × Int) (fun YY => AV.pv (enc YY)) (.lit (.abs (Lin × Int) (fun YY => AV.pv (enc YY)) (.req (.abs (Lin × Int) (fun YY => AV.pv (enc YY)) (.lit (.abs (Lin × Int) (fun YY => AV.pv (enc YY)) (.lit (.abs (Lin × Int) (fun YY => AV.pv (enc YY)) (.lit (.abs (Lin × Int) (fun YY => AV.pv (enc YY)) (.lit (.lit (.req (.abs (Lin × Int) (fun YY => AV.pv (enc YY)) (.lit (.ask (.lit (.lit (.lit (.ask (.lit (.lit (.lit (.ask (.lit (.lit (.lit (.ask (.lit (.lit (.lit (.ask (.lit (.lit (.lit (.ask (.lit (.lit (.lit (.ask (.lit (.req (.abs (Str) (fun YY => AV.pv (enc YY)) (.lit (.lit (.lit (.ask (.lit (.req (.abs (Str) (fun YY => AV.pv (enc YY)) (.lit (.lit (.lit (.ask (.lit (.req (.abs (Str) (fun YY => AV.pv (enc YY)) (.lit (.lit (.lit (.ask (.lit (.req (.abs (Bool) (fun YY => AV.pv (enc YY)) (.lit (.ask (.lit (.lit (.req (.abs (Bool) (fun YY => AV.pv (enc YY)) (.lit (.nil)))))) (.lit (.lit (.lit (.nil))))))))) (.lit (.lit (.lit (.lit (.lit (.lit (.nil)))))))))))))) (.lit (.lit (.lit (.lit (.lit (.lit (.lit (.lit (.lit (.lit (.nil)))))))))))))))))) (.lit (.lit (.lit (.lit (.lit (.lit (.lit (.lit (.lit (.lit (.lit (.lit (.lit (.lit (.nil)))))))))))))))))))))) (.lit (.lit (.lit (.lit (.lit (.lit (.lit (.lit (.lit (.lit (.lit (.lit (.lit (.lit (.lit (.lit (.lit (.lit (.nil))))))))))))))))))))))) (.lit (.lit (.lit (.lit (.lit (.lit (.lit (.lit (.lit (.lit (.lit (.lit (.lit (.lit (.lit (.lit (.lit (.lit (.lit (.lit (.lit (.nil)))))))))))))))))))))))))) (.lit (.lit (.lit (.lit (.lit (.lit (.lit (.lit (.lit (.lit (.lit (.lit (.lit (.lit (.lit (.lit (.lit (.lit (.lit (.lit (.lit (.lit (.lit (.lit (.nil))))))))))))))))))))))))))))) (.lit (.lit (.lit (.lit (.lit (.lit (.lit (.lit (.lit (.lit (.lit (.lit (.lit (.lit (.lit (.lit (.lit (.lit (.lit (.lit (.lit (.lit (.lit (.lit (.lit (.lit (.lit (.nil)))))))))))))))))))))))))))))))) (.lit (.lit (.lit (.lit (.lit (.lit (.lit (.lit (.lit (.lit (.lit (.lit (.lit (.lit (.lit (.lit (.lit (.lit (.lit (.lit (.lit (.lit (.lit (.lit (.lit (.lit (.lit (.lit (.lit (.lit (.nil))))))))))))))))))))))))))))))))))) (.lit (.lit (.lit (.lit (.lit (.lit (.lit (.lit (.lit (.lit (.lit (.lit (.lit (.lit (.lit (.lit (.lit (.lit (.lit (.lit (.lit (.lit (.lit (.lit (.lit (.lit (.lit (.lit (.lit (.lit (.lit (.lit (.lit (.nil)))))))))))))))))))))))))))))))))))))) (.lit (.lit (.lit (.lit (.lit (.lit (.lit (.lit (.lit (.lit (.lit (.lit (.lit (.lit (.lit (.lit (.lit (.lit (.lit (.lit (.lit (.lit (.lit (.lit (.lit (.lit (.lit (.lit (.lit (.lit (.lit (.lit (.lit (.lit (.lit (.lit (.nil))))))))))))))))))))))))))))))))))))))))))))))))))))))) h (by kernel_rfl)
def ic_lfew4 : IC := (.seq (.reg [⟨(some 2), (.box 2 (.t 0)), 0, none⟩, ⟨(some 3), (.box 2 (.t 1)), 1, none⟩, ⟨(some 4), (.mv (.c (.bool false))), 2, none⟩] none) (.seq (.reg [⟨(some 5), (.load true [(.int .i64), (.sl 2)] (.t 2)), 0, none⟩, ⟨(some 6), (.call (.c (.fn 16)) [(.t 5), (.c (.int .i64 14))]), 0, none⟩, ⟨(some 7), (.mv (.t 6)), 2, none⟩, ⟨(some 8), (.load true [(.int .i64), (.sl 2)] (.t 3)), 2, (some (7, true))⟩, ⟨(some 9), (.call (.c (.fn 16)) [(.t 8), (.c (.int .i64 14))]), 2, (some (7, true))⟩, ⟨(some 10), (.pick (.t 7) (.t 9) (.c (.bool false))), 4, none⟩, ⟨(some 4), (.mv (.t 10)), 4, none⟩] none) .ret))
def rs_lfew4 : List IRes := [(.tmp 4)]
abbrev nt_lfew4 : Nat := 11
def T_lfew4 : Tab := tab [(16, .pure (preT (fun x : Lin × Int × Unit => linOk x.1)) (valT (fun x : Lin × Int × Unit => few4 x.1 x.2.1)))]
theorem lfew4_s {G : PV -> Prop} (a b : Lin) (h : (Go.Pl.preT (fun (x : Lin × Int × Unit) => linOk x.1) [(.agg [(.int .i64 a.k), (.sl 2 false (List.map enc a.t))]), (.int .i64 14)]) = true ∧ (∃ y0 : Bool, AV.pv (valT (fun (x : Lin × Int × Unit) => few4 x.1 x.2.1) [(.agg [(.int .i64 a.k), (.sl 2 false (List.map enc a.t))]), (.int .i64 14)]) = AV.pv (enc y0) ∧ (if (y0) = true then (Go.Pl.preT (fun (x : Lin × Int × Unit) => linOk x.1) [(.agg [(.int .i64 b.k), (.sl 2 false (List.map enc b.t))]), (.int .i64 14)]) = true ∧ (∃ y1 : Bool, AV.pv (valT (fun (x : Lin × Int × Unit) => few4 x.1 x.2.1) [(.agg [(.int .i64 b.k), (.sl 2 false (List.map enc b.t))]), (.int .i64 14)]) = AV.pv (enc y1) ∧ (G ((.bool y1)))) else (G ((.bool false)))))) : Gets T_lfew4 0 (endP' rs_lfew4 G) ic_lfew4 [] (st0 11 [enc a, enc b]) := Gets.tp (.req (.abs (Bool) (fun YY => AV.pv (enc YY)) (.ask (.lit (.req (.abs (Bool) (fun YY => AV.pv (enc YY)) (.lit (.nil))))) (.lit (.lit (.nil)))))) h (by kernel_rfl)
def ic_lsub4 : IC := (.seq (.reg [⟨(some 2), (.box 2 (.t 0)), 0, none⟩, ⟨(some 3), (.box 2 (.t 1)), 1, none⟩, ⟨(some 4), (.alloc (.agg [(.int .i64 0), (.sl 0 true [])])), 2, none⟩, ⟨(some 5), (.mv (.c (.int .i64 0))), 3, none⟩] none) (.seq (.reg [⟨(some 6), (.load true [(.int .i64), (.sl 2)] (.t 2)), 0, none⟩, ⟨(some 7), (.load true [(.int .i64), (.sl 2)] (.t 3)), 0, none⟩, ⟨(some 8), (.call (.c (.fn 111)) [(.t 6), (.t 7), (.c (.int .i64 (-1)))]), 0, none⟩, ⟨(some 9), (.extract (.t 8) 0), 2, none⟩, ⟨(some 10), (.extract (.t 8) 1), 2, none⟩, ⟨none, (.store 2 (.t 4) (.t 9)), 2, none⟩, ⟨(some 5), (.mv (.t 10)), 2, none⟩] none) .ret))
def rs_lsub4 : List IRes := [(.cell true 2 4), (.tmp 5)]
abbrev nt_lsub4 : Nat := 11
def T_lsub4 : Tab := tab [(111, .pure (preT (fun x : Lin × Lin × Int × Unit => linSm x.1 && linSm x.2.1)) (valT (fun x : Lin × Lin × Int × Unit => combineL x.1 x.2.1 x.2.2.1)))]
theorem lsub4_s {G : PV -> Prop} (a b : Lin) (h : (Go.Pl.preT (fun (x : Lin × Lin × Int × Unit) => linSm x.1 && linSm x.2.1) [(.agg [(.int .i64 a.k), (.sl 2 false (List.map enc a.t))]), (.agg [(.int .i64 b.k), (.sl 2 false (List.map enc b.t))]), (.int .i64 (-1))]) = true ∧ (∃ y0 : Lin × Int, AV.pv (valT (fun (x : Lin × Lin × Int × Unit) => combineL x.1 x.2.1 x.2.2.1) [(.agg [(.int .i64 a.k), (.sl 2 false (List.map enc a.t))]), (.agg [(.int .i64 b.k), (.sl 2 false (List.map enc b.t))]), (.int .i64 (-1))]) = AV.pv (enc y0) ∧ (G ((.tup [(.agg [(.int .i64 y0.1.k), (.sl 2 false (List.map enc y0.1.t))]), (.int .i64 y0.2)]))))) : Gets T_lsub4 0 (endP' rs_lsub4 G) ic_lsub4 [] (st0 11 [enc a, enc b]) := Gets.tp (.req (.abs (Lin × Int) (fun YY => AV.pv (enc YY)) (.nil))) h (by kernel_rfl)
end Go.Pl

namespace Go.Pl
open Go.RowKit
open Enc (enc dec is)
open EncL (encL decL isL)
set_option maxRecDepth 100000
def ic_resya : IC := ic_resra
def rs_resya : List IRes := []
def T_resya : Tab := tab [(154, .own pre_sorts val_sorts), (73, .pure (preT (fun x : Lin × Unit => linSm x.1)) (valT (fun x : Lin × Unit => validL x.1)))]
theorem resya_r0 {G : AV × List AObj × List AObj -> Prop} (E : ExtE) (r : List UInt8) (n : Int) (s : List UInt8) (c : Int)  (h : if (c != 0) = true then E 99 ⟨envJ 58 0 [(0, (.ptr 0 1)), (2, (.ptr 2 0)), (4, (.ptr 3 0)), (5, (.row 5 1 0 1)), (18, (.map 1)), (19, (.ptr 4 0))], [(.obj (.box [(.pv (.str r)), (.pv (.int .i64 n)), (.map 1)])), .dead, (.obj (.box [(.pv (.int .i64 0)), (.pv (.sl 0 true []))])), (.obj (.box [(.pv (.int .i64 n)), (.pv (.sl 0 true []))])), .dead, (.obj (.row false 9 1 [(.str s)]))]⟩ (fun x S' => AfX T_resya E 5 (endO' 5 rs_resya G) ic_resya 99 x S') else (E 99 ⟨envJ 58 0 [(0, (.ptr 0 1)), (2, (.ptr 2 0)), (4, (.ptr 3 0)), (5, (.pv (.sl 0 true []))), (18, (.map 1)), (19, (.ptr 4 0))], [(.obj (.box [(.pv (.str r)), (.pv (.int .i64 n)), (.map 1)])), .dead, (.obj (.box [(.pv (.int .i64 0)), (.pv (.sl 0 true []))])), (.obj (.box [(.pv (.int .i64 n)), (.pv (.sl 0 true []))])), .dead]⟩ (fun x S' => AfX T_resya E 5 (endO' 5 rs_resya G) ic_resya 99 x S'))) : GetsX T_resya E 5 (endO' 5 rs_resya G) (.inl ic_resya) [.blk 1, .seq (.ext 99 [0, 2, 4, 5, 18, 19])] ⟨envJ 58 0 [(0, .ptr 0 1), (2, .ptr 2 0), (4, .ptr 3 0), (5, .pv (.sl 0 true [])), (6, .pv (.str s)), (7, .pv (.int .i64 c)), (18, .map 1), (19, .ptr 4 0), (22, .pv (.tup [.str s, .int .i64 c])), (23, .pv (.str s)), (24, .pv (.int .i64 c))], [.obj (.box [.pv (.str r), .pv (.int .i64 n), .map 1]), .dead, .obj (.box [.pv (.int .i64 0), .pv (.sl 0 true [])]), .obj (.box [.pv (.int .i64 n), .pv (.sl 0 true [])]), .dead]⟩ := GetsX.mo (.lit (.ask (.lit (.lit (.lit (.lit (.lit (.nil)))))) (.nil))) h (by kernel_rfl)
theorem resyb_r0 {G : AV × List AObj × List AObj -> Prop} (E : ExtE) (r : List UInt8) (n : Int) (s : List UInt8) (c : Int) (l : Nat) (xs : List (List UInt8))  (h : if (c != 0) = true then (List.length (List.map PV.str xs) == l && l == l && decide ((l + List.length (List.drop 0 (List.take 1 [PV.str s]))) * 16 <= 1099511627776) && decide (l + List.length (List.drop 0 (List.take 1 [PV.str s])) <= 1099511627776)) = true ∧ (E 99 ⟨envJ 58 0 [(0, (.ptr 0 1)), (2, (.ptr 2 0)), (4, (.ptr 3 0)), (5, (.row 5 (l + List.length (List.drop 0 (List.take 1 [PV.str s]))) 0 (l + List.length (List.drop 0 (List.take 1 [PV.str s]))))), (18, (.map 1)), (19, (.ptr 4 0))], [(.obj (.box [(.pv (.str r)), (.pv (.int .i64 n)), (.map 1)])), .dead, (.obj (.box [(.pv (.int .i64 0)), (.pv (.sl 0 true []))])), (.obj (.box [(.pv (.int .i64 n)), (.pv (.sl 0 true []))])), .dead, (.obj (.row false 9 1 (List.map PV.str xs ++ List.drop 0 (List.take 1 [PV.str s]))))]⟩ (fun x S' => AfX T_resya E 6 (endO' 6 rs_resya G) ic_resya 99 x S')) else (E 99 ⟨envJ 58 0 [(0, (.ptr 0 1)), (2, (.ptr 2 0)), (4, (.ptr 3 0)), (5, (.row 5 l 0 l)), (18, (.map 1)), (19, (.ptr 4 0))], [(.obj (.box [(.pv (.str r)), (.pv (.int .i64 n)), (.map 1)])), .dead, (.obj (.box [(.pv (.int .i64 0)), (.pv (.sl 0 true []))])), (.obj (.box [(.pv (.int .i64 n)), (.pv (.sl 0 true []))])), .dead, (.obj (.row false 9 1 (List.map PV.str xs)))]⟩ (fun x S' => AfX T_resya E 6 (endO' 6 rs_resya G) ic_resya 99 x S'))) : GetsX T_resya E 6 (endO' 6 rs_resya G) (.inl ic_resya) [.blk 1, .seq (.ext 99 [0, 2, 4, 5, 18, 19])] ⟨envJ 58 0 [(0, .ptr 0 1), (2, .ptr 2 0), (4, .ptr 3 0), (5, .row 5 l 0 l), (6, .pv (.str s)), (7, .pv (.int .i64 c)), (18, .map 1), (19, .ptr 4 0), (22, .pv (.tup [.str s, .int .i64 c])), (23, .pv (.str s)), (24, .pv (.int .i64 c))], [.obj (.box [.pv (.str r), .pv (.int .i64 n), .map 1]), .dead, .obj (.box [.pv (.int .i64 0), .pv (.sl 0 true [])]), .obj (.box [.pv (.int .i64 n), .pv (.sl 0 true [])]), .dead, .obj (.row false 9 1 (xs.map .str))]⟩ := GetsX.mo (.lit (.ask (.lit (.lit (.req (.nil)))) (.nil))) h (by kernel_rfl)
def ic_resy : IC := ic_resx
def rs_resy : List IRes := [(.cell true 2 2), (.tmp 3)]
abbrev nt_resy : Nat := 58
def T_resy : Tab := tab [(154, .own pre_sorts val_sorts), (73, .pure (preT (fun x : Lin × Unit => linSm x.1)) (valT (fun x : Lin × Unit => validL x.1)))]
theorem resy_s {G : AV × List AObj × List AObj -> Prop} (E : ExtE) (r : List UInt8) (n : Int) (m : List (Str × Int)) (h : E 0 ⟨envJ 58 0 [(0, (.ptr 0 1)), (2, (.ptr 2 0)), (4, (.ptr 3 0)), (5, (.pv (.sl 0 true []))), (6, .undef), (7, .undef), (15, .undef), (16, .undef), (17, .undef), (18, .undef), (19, .undef), (20, .undef), (21, .undef), (22, .undef), (23, .undef), (24, .undef), (25, .undef), (26, .undef), (27, .undef), (28, .undef), (29, .undef), (30, .undef)], [(.obj (.box [(.pv (.str r)), (.pv (.int .i64 n)), (.map 1)])), (.obj (.map (mapP m))), (.obj (.box [(.pv (.int .i64 0)), (.pv (.sl 0 true []))])), (.obj (.box [(.pv (.int .i64 n)), (.pv (.sl 0 true []))]))]⟩ (fun x S' => AfX T_resy E 2 (endO' 2 rs_resy G) ic_resy 0 x S')) : GetsX T_resy E 2 (endO' 2 rs_resy G) (.inl ic_resy) [] (st0O 58 [.ptr 0 1] [.box [.pv (.str r), .pv (.int .i64 n), .map 1], .map (mapP m)]) := GetsX.mo (.nil) h (by kernel_rfl)
-- IMPOSSIBLE
theorem resy_h0n {G : AV × List AObj × List AObj -> Prop} (E : ExtE) (r : List UInt8) (n : Int) (m : List (Str × Int)) (i : Int) (h : if (decide (i < 0)) = true then (decide (0 <= i) && decide (Int.toNat i < List.length ([] : List PV)) && 0 == 1) = true ∧ (False) else (∃ y0 : Bool, AV.pv (valT (fun (x : Lin × Unit) => validL x.1) [(.agg [(.int .i64 n), (.sl 0 true [])])]) = AV.pv (enc y0) ∧ (if (!y0) = true then G (((.tup [(.pv (.agg [(.int .i64 0), (.sl 0 true [])])), (.pv (.int .i64 3))]), ([(.box [(.pv (.str r)), (.pv (.int .i64 n)), (.map 1)]), (.map (mapP m))], []))) else (G (((.tup [(.pv (.agg [(.int .i64 n), (.sl 0 true [])])), (.pv (.int .i64 0))]), ([(.box [(.pv (.str r)), (.pv (.int .i64 n)), (.map 1)]), (.map (mapP m))], []))))))) : AtM T_resy E 2 (endO' 2 rs_resy G) ic_resy 0 58 [(0, .ptr 0 1), (2, .ptr 2 0), (4, .ptr 3 0), (33, .pv (.sl 0 true [])), (34, .pv (.int .i64 0)), (35, .pv (.int .i64 i))] [.obj (.box [.pv (.str r), .pv (.int .i64 n), .map 1]), .obj (.map (mapP m)), .obj (.box [.pv (.int .i64 0), .pv (.sl 0 true [])]), .obj (.box [.pv (.int .i64 n), .pv (.sl 0 true [])])] := GetsX.mo (.lit (.ask (.req (.keep (.lit (.nil)))) (.lit (.abs (Bool) (fun YY => AV.pv (enc YY)) (.ask (.nil) (.nil)))))) h (by kernel_rfl)
theorem resy_h0a {G : AV × List AObj × List AObj -> Prop} (E : ExtE) (r : List UInt8) (n : Int) (m : List (Str × Int)) (l : Nat) (xs : List (List UInt8)) (i : Int) (h : if (decide (i < (↑l : Int))) = true then (decide (0 <= i) && decide (0 + Int.toNat i < l) && List.length (List.map PV.str xs) == l) = true ∧ ((List.length (List.map PV.str xs) == l && decide (0 + Int.toNat i < List.length (List.map PV.str xs))) = true ∧ ((decide (0 + List.length [Sh.str] <= List.length (PV.cells (List.getD (List.map PV.str xs) (0 + Int.toNat i) default))) && shFit (PV.cells (List.getD (List.map PV.str xs) (0 + Int.toNat i) default)) 0 [Sh.str]) = true ∧ ((lookOK (Sh.co Sh.str (List.getD (PV.cells (List.getD (List.map PV.str xs) (0 + Int.toNat i) default)) 0 default)) (mapP m) && Sh.fit (Sh.int .i64) (lookD (Sh.co Sh.str (List.getD (PV.cells (List.getD (List.map PV.str xs) (0 + Int.toNat i) default)) 0 default)) (PV.int .i64 0) (mapP m))) = true ∧ (AtM T_resy E 2 (endO' 2 rs_resy G) ic_resy 0 58 [(0, (.ptr 0 1)), (2, (.ptr 2 0)), (4, (.ptr 3 0)), (33, (.row 4 l 0 l)), (34, (.pv (.int .i64 (↑l : Int)))), (35, (.pv (.int .i64 (IntKind.wrap IntKind.i64 (i + 1)))))] [(.obj (.box [(.pv (.str r)), (.pv (.int .i64 n)), (.map 1)])), (.obj (.map (mapP m))), (.obj (.box [(.pv (.int .i64 0)), (.pv (.sl 0 true []))])), (.obj (.box [(.pv (.int .i64 n)), (.row 5 1 0 1)])), (.obj (.row false 9 1 (List.map PV.str xs))), (.obj (.row false 61 2 [(.agg [(.str (PV.asStr (List.getD (PV.cells (List.getD (List.map PV.str xs) (0 + Int.toNat i) default)) 0 default))), (.int .i64 (PV.asInt (lookD (Sh.co Sh.str (List.getD (PV.cells (List.getD (List.map PV.str xs) (0 + Int.toNat i) default)) 0 default)) (PV.int .i64 0) (mapP m))))])]))])))) else (∃ y0 : Bool, AV.pv (valT (fun (x : Lin × Unit) => validL x.1) [(.agg [(.int .i64 n), (.sl 0 true [])])]) = AV.pv (enc y0) ∧ (if (!y0) = true then G (((.tup [(.pv (.agg [(.int .i64 0), (.sl 0 true [])])), (.pv (.int .i64 3))]), ([(.box [(.pv (.str r)), (.pv (.int .i64 n)), (.map 1)]), (.map (mapP m))], []))) else (G (((.tup [(.pv (.agg [(.int .i64 n), (.sl 0 true [])])), (.pv (.int .i64 0))]), ([(.box [(.pv (.str r)), (.pv (.int .i64 n)), (.map 1)]), (.map (mapP m))], []))))))) : AtM T_resy E 2 (endO' 2 rs_resy G) ic_resy 0 58 [(0, .ptr 0 1), (2, .ptr 2 0), (4, .ptr 3 0), (33, .row 4 l 0 l), (34, .pv (.int .i64 l)), (35, .pv (.int .i64 i))] [.obj (.box [.pv (.str r), .pv (.int .i64 n), .map 1]), .obj (.map (mapP m)), .obj (.box [.pv (.int .i64 0), .pv (.sl 0 true [])]), .obj (.box [.pv (.int .i64 n), .pv (.sl 0 true [])]), .obj (.row false 9 1 (xs.map .str))] := GetsX.mo (.lit (.ask (.req (.keep (.req (.req (.req (.keep (.lit (.lit (.lit (.lit (.lit (.lit (.nil))))))))))))) (.lit (.abs (Bool) (fun YY => AV.pv (enc YY)) (.ask (.nil) (.nil)))))) h (by kernel_rfl)
theorem resy_h0b {G : AV × List AObj × List AObj -> Prop} (E : ExtE) (r : List UInt8) (n : Int) (m : List (Str × Int)) (l : Nat) (xs : List (List UInt8)) (i : Int) (q : Nat) (ts : List Coef) (h : if (decide (i < (↑l : Int))) = true then (decide (0 <= i) && decide (0 + Int.toNat i < l) && List.length (List.map PV.str xs) == l) = true ∧ ((List.length (List.map PV.str xs) == l && decide (0 + Int.toNat i < List.length (List.map PV.str xs))) = true ∧ ((decide (0 + List.length [Sh.str] <= List.length (PV.cells (List.getD (List.map PV.str xs) (0 + Int.toNat i) default))) && shFit (PV.cells (List.getD (List.map PV.str xs) (0 + Int.toNat i) default)) 0 [Sh.str]) = true ∧ ((lookOK (Sh.co Sh.str (List.getD (PV.cells (List.getD (List.map PV.str xs) (0 + Int.toNat i) default)) 0 default)) (mapP m) && Sh.fit (Sh.int .i64) (lookD (Sh.co Sh.str (List.getD (PV.cells (List.getD (List.map PV.str xs) (0 + Int.toNat i) default)) 0 default)) (PV.int .i64 0) (mapP m))) = true ∧ ((List.length (List.map enc ts) == q && q == q && decide ((q + List.length (List.drop 0 (List.take 1 [PV.agg [Sh.co Sh.str (List.getD (PV.cells (List.getD (List.map PV.str xs) (0 + Int.toNat i) default)) 0 default), if false = true then PV.tup [Sh.co (Sh.int .i64) (lookD (Sh.co Sh.str (List.getD (PV.cells (List.getD (List.map PV.str xs) (0 + Int.toNat i) default)) 0 default)) (PV.int .i64 0) (mapP m)), PV.bool (lookHas (Sh.co Sh.str (List.getD (PV.cells (List.getD (List.map PV.str xs) (0 + Int.toNat i) default)) 0 default)) (mapP m))] else Sh.co (Sh.int .i64) (lookD (Sh.co Sh.str (List.getD (PV.cells (List.getD (List.map PV.str xs) (0 + Int.toNat i) default)) 0 default)) (PV.int .i64 0) (mapP m))]]))) * 24 <= 1099511627776) && decide (q + List.length (List.drop 0 (List.take 1 [PV.agg [Sh.co Sh.str (List.getD (PV.cells (List.getD (List.map PV.str xs) (0 + Int.toNat i) default)) 0 default), if false = true then PV.tup [Sh.co (Sh.int .i64) (lookD (Sh.co Sh.str (List.getD (PV.cells (List.getD (List.map PV.str xs) (0 + Int.toNat i) default)) 0 default)) (PV.int .i64 0) (mapP m)), PV.bool (lookHas (Sh.co Sh.str (List.getD (PV.cells (List.getD (List.map PV.str xs) (0 + Int.toNat i) default)) 0 default)) (mapP m))] else Sh.co (Sh.int .i64) (lookD (Sh.co Sh.str (List.getD (PV.cells (List.getD (List.map PV.str xs) (0 + Int.toNat i) default)) 0 default)) (PV.int .i64 0) (mapP m))]])) <= 1099511627776)) = true ∧ (AtM T_resy E 2 (endO' 2 rs_resy G) ic_resy 0 58 [(0, (.ptr 0 1)), (2, (.ptr 2 0)), (4, (.ptr 3 0)), (33, (.row 4 l 0 l)), (34, (.pv (.int .i64 (↑l : Int)))), (35, (.pv (.int .i64 (IntKind.wrap IntKind.i64 (i + 1)))))] [(.obj (.box [(.pv (.str r)), (.pv (.int .i64 n)), (.map 1)])), (.obj (.map (mapP m))), (.obj (.box [(.pv (.int .i64 0)), (.pv (.sl 0 true []))])), (.obj (.box [(.pv (.int .i64 n)), (.row 5 (q + List.length (List.drop 0 (List.take 1 [PV.agg [Sh.co Sh.str (List.getD (PV.cells (List.getD (List.map PV.str xs) (0 + Int.toNat i) default)) 0 default), if false = true then PV.tup [Sh.co (Sh.int .i64) (lookD (Sh.co Sh.str (List.getD (PV.cells (List.getD (List.map PV.str xs) (0 + Int.toNat i) default)) 0 default)) (PV.int .i64 0) (mapP m)), PV.bool (lookHas (Sh.co Sh.str (List.getD (PV.cells (List.getD (List.map PV.str xs) (0 + Int.toNat i) default)) 0 default)) (mapP m))] else Sh.co (Sh.int .i64) (lookD (Sh.co Sh.str (List.getD (PV.cells (List.getD (List.map PV.str xs) (0 + Int.toNat i) default)) 0 default)) (PV.int .i64 0) (mapP m))]]))) 0 (q + List.length (List.drop 0 (List.take 1 [PV.agg [Sh.co Sh.str (List.getD (PV.cells (List.getD (List.map PV.str xs) (0 + Int.toNat i) default)) 0 default), if false = true then PV.tup [Sh.co (Sh.int .i64) (lookD (Sh.co Sh.str (List.getD (PV.cells (List.getD (List.map PV.str xs) (0 + Int.toNat i) default)) 0 default)) (PV.int .i64 0) (mapP m)), PV.bool (lookHas (Sh.co Sh.str (List.getD (PV.cells (List.getD (List.map PV.str xs) (0 + Int.toNat i) default)) 0 default)) (mapP m))] else Sh.co (Sh.int .i64) (lookD (Sh.co Sh.str (List.getD (PV.cells (List.getD (List.map PV.str xs) (0 + Int.toNat i) default)) 0 default)) (PV.int .i64 0) (mapP m))]]))))])), (.obj (.row false 9 1 (List.map PV.str xs))), (.obj (.row false 61 2 (List.map enc ts ++ List.drop 0 (List.take 1 [PV.agg [Sh.co Sh.str (List.getD (PV.cells (List.getD (List.map PV.str xs) (0 + Int.toNat i) default)) 0 default), if false = true then PV.tup [Sh.co (Sh.int .i64) (lookD (Sh.co Sh.str (List.getD (PV.cells (List.getD (List.map PV.str xs) (0 + Int.toNat i) default)) 0 default)) (PV.int .i64 0) (mapP m)), PV.bool (lookHas (Sh.co Sh.str (List.getD (PV.cells (List.getD (List.map PV.str xs) (0 + Int.toNat i) default)) 0 default)) (mapP m))] else Sh.co (Sh.int .i64) (lookD (Sh.co Sh.str (List.getD (PV.cells (List.getD (List.map PV.str xs) (0 + Int.toNat i) default)) 0 default)) (PV.int .i64 0) (mapP m))]]))))]))))) else ((List.length (List.map enc ts) == q) = true ∧ ((Go.Pl.preT (fun (x : Lin × Unit) => linSm x.1) [(.agg [(.int .i64 n), (.sl 2 false (List.drop 0 (List.take q (List.map enc ts))))])]) = true ∧ (∃ y0 : Bool, AV.pv (valT (fun (x : Lin × Unit) => validL x.1) [(.agg [(.int .i64 n), (.sl 2 false (List.drop 0 (List.take q (List.map enc ts))))])]) = AV.pv (enc y0) ∧ (if (!y0) = true then G (((.tup [(.pv (.agg [(.int .i64 0), (.sl 0 true [])])), (.pv (.int .i64 3))]), ([(.box [(.pv (.str r)), (.pv (.int .i64 n)), (.map 1)]), (.map (mapP m))], []))) else (G (((.tup [(.agg [(.pv (.int .i64 n)), (.row 2 q 0 q)]), (.pv (.int .i64 0))]), ([(.box [(.pv (.str r)), (.pv (.int .i64 n)), (.map 1)]), (.map (mapP m))], [(.row true 61 2 (List.map enc ts))]))))))))) : AtM T_resy E 2 (endO' 2 rs_resy G) ic_resy 0 58 [(0, .ptr 0 1), (2, .ptr 2 0), (4, .ptr 3 0), (33, .row 4 l 0 l), (34, .pv (.int .i64 l)), (35, .pv (.int .i64 i))] [.obj (.box [.pv (.str r), .pv (.int .i64 n), .map 1]), .obj (.map (mapP m)), .obj (.box [.pv (.int .i64 0), .pv (.sl 0 true [])]), .obj (.box [.pv (.int .i64 n), .row 5 q 0 q]), .obj (.row false 9 1 (xs.map .str)), .obj (.row false 61 2 (ts.map enc))] := GetsX.mo (.lit (.ask (.req (.keep (.req (.req (.req (.keep (.lit (.lit (.req (.lit (.nil))))))))))) (.req (.req (.abs (Bool) (fun YY => AV.pv (enc YY)) (.ask (.nil) (.nil))))))) h (by kernel_rfl)
theorem resy_x0a {G : AV × List AObj × List AObj -> Prop} (E : ExtE) (r : List UInt8) (n : Int) (m : List (Str × Int))  (h : AtM T_resy E 2 (endO' 2 rs_resy G) ic_resy 0 58 [(0, (.ptr 0 1)), (2, (.ptr 2 0)), (4, (.ptr 3 0)), (33, (.pv (.sl 0 true []))), (34, (.pv (.int .i64 0))), (35, (.pv (.int .i64 0)))] [(.obj (.box [(.pv (.str r)), (.pv (.int .i64 n)), (.map 1)])), (.obj (.map (mapP m))), (.obj (.box [(.pv (.int .i64 0)), (.pv (.sl 0 true []))])), (.obj (.box [(.pv (.int .i64 n)), (.pv (.sl 0 true []))]))]) : AfX T_resy E 2 (endO' 2 rs_resy G) ic_resy 0 .normal ⟨envJ 58 0 [(0, .ptr 0 1), (2, .ptr 2 0), (4, .ptr 3 0), (5, .pv (.sl 0 true [])), (18, .map 1), (19, .ptr 4 0)], [.obj (.box [.pv (.str r), .pv (.int .i64 n), .map 1]), .obj (.map (mapP m)), .obj (.box [.pv (.int .i64 0), .pv (.sl 0 true [])]), .obj (.box [.pv (.int .i64 n), .pv (.sl 0 true [])]), .dead]⟩ := GetsX.mo (.lit (.keep (.nil))) h (by kernel_rfl)
theorem resy_x0b {G : AV × List AObj × List AObj -> Prop} (E : ExtE) (r : List UInt8) (n : Int) (m : List (Str × Int)) (l : Nat) (xs : List (List UInt8)) (h : (pre_sorts [(.row 0 l 0 l)] [(.row false 9 1 (List.map PV.str xs))]) = true ∧ (AtM T_resy E 2 (endO' 2 rs_resy G) ic_resy 0 58 [(0, (.ptr 0 1)), (2, (.ptr 2 0)), (4, (.ptr 3 0)), (33, (.row 4 l 0 l)), (34, (.pv (.int .i64 (↑(l - 0) : Int)))), (35, (.pv (.int .i64 0)))] [(.obj (.box [(.pv (.str r)), (.pv (.int .i64 n)), (.map 1)])), (.obj (.map (mapP m))), (.obj (.box [(.pv (.int .i64 0)), (.pv (.sl 0 true []))])), (.obj (.box [(.pv (.int .i64 n)), (.pv (.sl 0 true []))])), (.obj (.row false 9 1 (List.map PV.str (sortS (List.map strOf (List.map PV.str xs))))))])) : AfX T_resy E 2 (endO' 2 rs_resy G) ic_resy 0 .normal ⟨envJ 58 0 [(0, .ptr 0 1), (2, .ptr 2 0), (4, .ptr 3 0), (5, .row 5 l 0 l), (18, .map 1), (19, .ptr 4 0)], [.obj (.box [.pv (.str r), .pv (.int .i64 n), .map 1]), .obj (.map (mapP m)), .obj (.box [.pv (.int .i64 0), .pv (.sl 0 true [])]), .obj (.box [.pv (.int .i64 n), .pv (.sl 0 true [])]), .dead, .obj (.row false 9 1 (xs.map .str))]⟩ := GetsX.mo (.req (.keep (.nil))) h (by kernel_rfl)
end Go.Pl

namespace Go.Pl
open Go.RowKit
open Enc (enc dec is)
open EncL (encL decL isL)
def resV (r : List UInt8) (n : Int) (m : List (Str × Int)) (l : List Coef) : AV × List AObj × List AObj :=
 if validL ⟨n, l⟩ then
  if l.isEmpty then (.tup [.pv (.agg [.int .i64 n, .sl 0 true []]), .pv (.int .i64 0)], [.box [.pv (.str r), .pv (.int .i64 n), .map 1], .map (mapP m)], [])
  else (.tup [.agg [.pv (.int .i64 n), .row 2 l.length 0 l.length], .pv (.int .i64 0)], [.box [.pv (.str r), .pv (.int .i64 n), .map 1], .map (mapP m)], [.row true 61 2 (l.map enc)])
 else (.tup [.pv (.agg [.int .i64 0, .sl 0 true []]), .pv (.int .i64 3)], [.box [.pv (.str r), .pv (.int .i64 n), .map 1], .map (mapP m)], [])
theorem resy_loop {E : ExtE} (r : List UInt8) (n : Int) (m : List (Str × Int)) (xs : List (List UInt8)) (hx : xs.length <= 1000000) (hsx : ∀ x ∈ xs, x.length <= 1000000) : ∀ (j k : Nat), j + k = xs.length -> 0 < k ->
  AtM T_resy E 2 (endO' 2 rs_resy fun z => z = resV r n m (coefsM m xs)) ic_resy 0 58 [(0, .ptr 0 1), (2, .ptr 2 0), (4, .ptr 3 0), (33, .row 4 xs.length 0 xs.length), (34, .pv (.int .i64 xs.length)), (35, .pv (.int .i64 k))]
   [.obj (.box [.pv (.str r), .pv (.int .i64 n), .map 1]), .obj (.map (mapP m)), .obj (.box [.pv (.int .i64 0), .pv (.sl 0 true [])]), .obj (.box [.pv (.int .i64 n), .row 5 k 0 k]), .obj (.row false 9 1 (xs.map .str)), .obj (.row false 61 2 ((coefsM m (xs.take k)).map enc))] := by
 intro j
 induction j with
 | zero =>
  intro k hk h0
  obtain rfl : k = xs.length := by omega
  refine resy_h0b E r n m xs.length xs xs.length xs.length (coefsM m (xs.take xs.length)) ?_
  rw [if_neg (by simp)]
  have e1 : coefsM m (xs.take xs.length) = coefsM m xs := by rw [List.take_length]
  rw [e1]
  have e2 : List.drop 0 (List.take xs.length (List.map (enc : Coef -> PV) (coefsM m xs))) = (coefsM m xs).map enc := by rw [List.drop_zero, List.take_of_length_le (by simp [coefsM])]
  rw [e2]
  refine ⟨by simp [coefsM], pre_enc (⟨n, coefsM m xs⟩, ()) rfl (coefs_sm n m hx hsx), ex_enc (⟨n, coefsM m xs⟩, ()) rfl ?_⟩
  have hne : (coefsM m xs).isEmpty = false := by cases xs <;> simp [coefsM] at h0 ⊢
  by_cases hv : validL ⟨n, coefsM m xs⟩ = true
  ·rw [if_neg (by simp [hv])]
   unfold resV
   rw [if_pos hv, hne]
   simp [coefsM]
  ·rw [if_pos (by simpa using hv)]
   simp [resV, hv]
 | succ j ih =>
  intro k hk h0
  have hlt : k < xs.length := by omega
  refine resy_h0b E r n m xs.length xs k k (coefsM m (xs.take k)) ?_
  rw [if_pos (by simp; omega)]
  have eg : List.getD (List.map PV.str xs) (0 + Int.toNat (k : Int)) default = .str xs[k] := by simp [List.getD, hlt]
  rw [eg]
  have ec : Sh.co Sh.str (List.getD (PV.cells (.str xs[k])) 0 default) = .str xs[k] := rfl
  rw [ec, lookD_map]
  refine ⟨by simp; omega, by simp; omega, rfl, by rw [lookOK_map]; rfl, ?_, ?_⟩
  ·simp [coefsM]; omega
  ·have h := ih (k + 1) (by omega) (by omega)
   have et : xs.take (k + 1) = xs.take k ++ [xs[k]] := by rw [List.take_add_one, List.getElem?_eq_getElem hlt]; rfl
   rw [et] at h
   rw [next (by omega)]
   simp only [coefsM, List.map_append, List.map_cons, List.map_nil] at h ⊢
   exact h
def resyE : ExtE := fun nn st q => nn = 0 ∧ MapE T_resy 2 resP st q
def resyH (r : List UInt8) (n : Int) : Heap := [.obj (.box [.pv (.str r), .pv (.int .i64 n), .map 1]), .dead, .obj (.box [.pv (.int .i64 0), .pv (.sl 0 true [])]), .obj (.box [.pv (.int .i64 n), .pv (.sl 0 true [])]), .dead]
def resyEnv (x : AV) : List AV := envJ 58 0 [(0, .ptr 0 1), (2, .ptr 2 0), (4, .ptr 3 0), (5, x), (18, .map 1), (19, .ptr 4 0)]
def resyI (r : List UInt8) (n : Int) (vis : List (PV × PV)) (s : St) : Prop :=
 (kz vis = [] ∧ s = ⟨resyEnv (.pv (.sl 0 true [])), resyH r n⟩) ∨ (kz vis ≠ [] ∧ s = ⟨resyEnv (.row 5 (kz vis).length 0 (kz vis).length), resyH r n ++ [.obj (.row false 9 1 ((kz vis).map .str))]⟩)
theorem resy_round (r : List UInt8) (n : Int) (vis : List (PV × PV)) (s : List UInt8) (c : Int) (st : St) (hl : (kz vis).length < 1000000) (h : resyI r n vis st) :
  ∃ s2, runA T_resy st.heap.length resP.psE (grow ⟨((st.env.set 20 .junk).set 21 .junk).set 22 (.pv (.tup [.str s, .int .i64 c])), st.heap⟩ (news resP.psE)) = some s2 ∧ ∃ F', (∀ x, ¬ F' x) ∧
   GetsX T_resy (fun n' S' _ => n' = 99 ∧ resyI r n (vis ++ [(.str s, .int .i64 c)]) S') st.heap.length F' (.inl ic_resya) [.blk 1, .seq (.ext 99 [0, 2, 4, 5, 18, 19])] s2 := by
 have hno : ∀ k, ∀ x, ¬ endO' k rs_resya (fun _ => False) x := by rintro k x ⟨r, _, h⟩; exact h
 have ek : kz (vis ++ [(.str s, .int .i64 c)]) = kz vis ++ (if c = 0 then [] else [s]) := by
  unfold kz
  rw [List.filterMap_append]
  by_cases hc : c = 0 <;> simp [hc]
 rcases h with ⟨h1, rfl⟩ | ⟨h1, rfl⟩
 ·refine ⟨_, by kernel_rfl, _, hno 5, resya_r0 (G := fun _ => False) _ r n s c ?_⟩
  by_cases hc : c = 0
  ·rw [if_neg (by simp [hc])]
   refine ⟨rfl, .inl ⟨by rw [ek, h1]; simp [hc], rfl⟩⟩
  ·rw [if_pos (by simpa using hc)]
   refine ⟨rfl, .inr ⟨by rw [ek, h1]; simp [hc], ?_⟩⟩
   rw [ek, h1]
   simp [hc]
   exact ⟨rfl, rfl⟩
 ·refine ⟨_, by kernel_rfl, _, hno 6, resyb_r0 (G := fun _ => False) _ r n s c (kz vis).length (kz vis) ?_⟩
  by_cases hc : c = 0
  ·rw [if_neg (by simp [hc])]
   refine ⟨rfl, .inr ⟨by rw [ek]; simp [hc, h1], ?_⟩⟩
   rw [ek]
   simp [hc]
   exact ⟨rfl, rfl⟩
  ·rw [if_pos (by simpa using hc)]
   refine ⟨by simp; omega, rfl, .inr ⟨by rw [ek]; simp [hc], ?_⟩⟩
   rw [ek]
   simp [hc]
   exact ⟨rfl, rfl⟩
theorem resy_first {E : ExtE} (r : List UInt8) (n : Int) (m : List (Str × Int)) (xs : List (List UInt8)) (hx : xs.length <= 1000000) (hsx : ∀ x ∈ xs, x.length <= 1000000) (h0 : 0 < xs.length) :
  AtM T_resy E 2 (endO' 2 rs_resy fun z => z = resV r n m (coefsM m xs)) ic_resy 0 58 [(0, .ptr 0 1), (2, .ptr 2 0), (4, .ptr 3 0), (33, .row 4 xs.length 0 xs.length), (34, .pv (.int .i64 xs.length)), (35, .pv (.int .i64 0))]
   [.obj (.box [.pv (.str r), .pv (.int .i64 n), .map 1]), .obj (.map (mapP m)), .obj (.box [.pv (.int .i64 0), .pv (.sl 0 true [])]), .obj (.box [.pv (.int .i64 n), .pv (.sl 0 true [])]), .obj (.row false 9 1 (xs.map .str))] := by
 refine resy_h0a E r n m xs.length xs 0 ?_
 rw [if_pos (by simp; omega)]
 have eg : List.getD (List.map PV.str xs) (0 + Int.toNat (0 : Int)) default = .str xs[0] := by simp [List.getD, h0]
 rw [eg]
 have ec : Sh.co Sh.str (List.getD (PV.cells (.str xs[0])) 0 default) = .str xs[0] := rfl
 rw [ec, lookD_map]
 refine ⟨by simp; omega, by simp; omega, rfl, by rw [lookOK_map]; rfl, ?_⟩
 have h := resy_loop (E := E) r n m xs hx hsx (xs.length - 1) 1 (by omega) (by omega)
 have et : xs.take 1 = [xs[0]] := by cases xs <;> simp at h0 ⊢
 rw [et] at h
 exact h
theorem resy_run (r : List UInt8) (n : Int) (m : List (Str × Int)) (hm : m.length < 1000000) (hkm : ∀ x ∈ namesM m, x.length <= 1000000) :
  GetsM T_resy resyE 2 (endO' 2 rs_resy fun z => z = resV r n m (coefsM m (namesM m))) ic_resy [] (st0O 58 [.ptr 0 1] [.box [.pv (.str r), .pv (.int .i64 n), .map 1], .map (mapP m)]) := by
 refine resy_s resyE r n m ?_
 have elen : ∀ x, (resyEnv x).length = 58 := fun x => rfl
 refine ⟨rfl, ⟨((((envJ 58 0 [(0, .ptr 0 1), (2, .ptr 2 0), (4, .ptr 3 0), (5, .pv (.sl 0 true [])), (6, .undef), (7, .undef), (15, .undef), (16, .undef), (17, .undef), (18, .undef), (19, .undef), (20, .undef), (21, .undef), (22, .undef), (23, .undef), (24, .undef), (25, .undef), (26, .undef), (27, .undef), (28, .undef), (29, .undef), (30, .undef)]).set 15 (.ptr 0 1)).set 16 (.ptr 0 1)).set 17 (.ptr 0 2)).set 18 (.map 1),
   [.obj (.box [.pv (.str r), .pv (.int .i64 n), .map 1]), .obj (.map (mapP m)), .obj (.box [.pv (.int .i64 0), .pv (.sl 0 true [])]), .obj (.box [.pv (.int .i64 n), .pv (.sl 0 true [])])]⟩, ⟨resyEnv (.pv (.sl 0 true [])), resyH r n⟩, 1, 4, 18, 1, mapP m, [0, 2, 4, 5, 18, 19], [0, 2, 4, 5, 18, 19], resyI r n, by kernel_rfl, rfl, rfl, by kernel_rfl, rfl, by decide, rfl, .inl ⟨rfl, rfl⟩, ?_, ?_, ?_⟩
 ·intro vis s h
  rcases h with ⟨_, rfl⟩ | ⟨_, rfl⟩
  ·exact ⟨⟨rfl, by show 20 < _; rw [elen]; omega, by show 21 < _; rw [elen]; omega, by show 22 < _; rw [elen]; omega⟩, rfl⟩
  ·exact ⟨⟨rfl, by show 20 < _; rw [elen]; omega, by show 21 < _; rw [elen]; omega, by show 22 < _; rw [elen]; omega⟩, rfl⟩
 ·intro vis kv s rest hp hI
  have hin : kv ∈ mapP m := hp.mem_iff.2 (by simp)
  obtain ⟨p, _, rfl⟩ := List.mem_map.1 hin
  have hl := hp.length_eq
  simp [mapP] at hl
  have hk : (kz vis).length <= vis.length := List.length_filterMap_le _ _
  exact resy_round r n vis p.1.s p.2 s (by omega) hI
 ·intro vis s hp hI
  have hpk : (kz vis).Perm (kz (mapP m)) := hp.filterMap _
  have hs : sortS (kz vis) = namesM m := sortS_perm hpk
  have hkl : (kz vis).length <= 1000000 := by
   have h1 : (kz vis).length <= vis.length := List.length_filterMap_le _ _
   have h2 := hp.length_eq
   simp [mapP] at h2
   omega
  rcases hI with ⟨h1, rfl⟩ | ⟨h1, rfl⟩
  ·refine resy_x0a resyE r n m ?_
   have hn : namesM m = [] := by rw [<- hs, h1]; simp [sortS]
   rw [hn]
   refine resy_h0n resyE r n m 0 ?_
   rw [if_neg (by simp)]
   refine ex_val (⟨n, []⟩, ()) (by simp) ?_
   by_cases hv : validL ⟨n, []⟩ = true
   ·rw [if_neg (by simp [hv])]
    simp [resV, coefsM, hv]
   ·rw [if_pos (by simpa using hv)]
    simp [resV, coefsM, hv]
  ·refine resy_x0b resyE r n m (kz vis).length (kz vis) ?_
   have e1 : List.map strOf (List.map PV.str (kz vis)) = kz vis := by rw [List.map_map]; exact List.map_id _
   rw [e1, hs]
   have e2 : (namesM m).length = (kz vis).length := by rw [<- hs]; exact (List.mergeSort_perm _ _).length_eq
   refine ⟨?_, ?_⟩
   ·simp [pre_sorts, isStrP]
    omega
   ·have := resy_first (E := resyE) r n m (namesM m) (by omega) hkm (by rw [e2]; exact List.length_pos_iff.2 h1)
    rw [e2] at this
    simpa using this
def pre_resy : List AV -> List AObj -> Bool
 | [.ptr 0 1], [.box [.pv (.str r), .pv (.int .i64 n), .map 1], .map es] => canM es && mapSm (mapD es)
 | _, _ => false
def val_resy : List AV -> List AObj -> AV × List AObj × List AObj
 | _, [.box [.pv (.str r), .pv (.int .i64 n), .map 1], .map es] => (.pv (enc (resM n (mapD es))), [.box [.pv (.str r), .pv (.int .i64 n), .map 1], .map es], [])
 | _, _ => combN
def val_resV : List AV -> List AObj -> AV × List AObj × List AObj
 | _, [.box [.pv (.str r), .pv (.int .i64 n), .map 1], .map es] => resV r n (mapD es) (termsM (mapD es))
 | _, _ => combN
theorem resV_run : ∀ args os, pre_resy args os = true -> GetsM T_resy resyE os.length (endO' os.length rs_resy fun z => z = val_resV args os) ic_resy [] (st0O nt_resy args os) := by
 intro args os h
 unfold pre_resy at h
 split at h
 ·rename_i r n es
  simp only [Bool.and_eq_true, mapSm, decide_eq_true_eq, List.all_eq_true] at h
  obtain ⟨h1, h2, h3⟩ := h
  obtain ⟨m, rfl⟩ := canM_eq h1
  rw [mapD_map] at h2 h3
  have hv : val_resV [.ptr 0 1] [.box [.pv (.str r), .pv (.int .i64 n), .map 1], .map (mapP m)] = resV r n m (coefsM m (namesM m)) := by
   show resV r n (mapD (mapP m)) (termsM (mapD (mapP m))) = _
   rw [mapD_map, names_terms]
  rw [hv]
  refine resy_run r n m h2 fun x hx => h3 x ?_
  have hx : x ∈ kz (mapP m) := (List.mergeSort_perm _ _).mem_iff.1 hx
  rw [kz_map] at hx
  obtain ⟨p, hp, rfl⟩ := List.mem_map.1 hx
  exact List.mem_map.2 ⟨p, (List.mem_filter.1 hp).1, rfl⟩
 ·cases h
theorem resV_len : ∀ args os, pre_resy args os = true -> (val_resV args os).2.1.length = os.length := by
 intro args os h
 unfold pre_resy at h
 split at h
 ·show (resV _ _ _ _).2.1.length = _
  unfold resV
  split
  ·split <;> rfl
  ·rfl
 ·cases h
theorem resy_frz {P : Program} {f : Nat} (h : OwnOK P f pre_resy val_resV) : OwnOK P f pre_resy val_resy := by
 refine h.frz fun args os hp => ?_
 unfold pre_resy at hp
 split at hp
 ·rename_i r n es
  have hv : val_resV [.ptr 0 1] [.box [.pv (.str r), .pv (.int .i64 n), .map 1], .map es] = resV r n (mapD es) (termsM (mapD es)) := rfl
  have hv' : val_resy [.ptr 0 1] [.box [.pv (.str r), .pv (.int .i64 n), .map 1], .map es] = (.pv (enc (resM n (mapD es))), [.box [.pv (.str r), .pv (.int .i64 n), .map 1], .map es], []) := rfl
  simp only [Bool.and_eq_true] at hp
  obtain ⟨m, rfl⟩ := canM_eq hp.1
  rw [hv, hv', mapD_map]
  unfold resV resM
  generalize termsM m = l
  by_cases hl : validL ⟨n, l⟩ = true
  ·rw [if_pos hl, if_pos hl]
   by_cases hz : l.isEmpty = true
   ·rw [if_pos hz]
    obtain rfl : l = [] := by simpa using hz
    exact ⟨_, _, _, _, _, _, _, _, rfl, rfl, rfl, sub_nolin n 0, rfl⟩
   ·rw [if_neg hz]
    refine ⟨_, _, _, .tup [.agg [.int .i64 n, .sl 2 false (l.map enc)], .int .i64 0], [.obj (.box [.pv (.str r), .pv (.int .i64 n), .map 1]), .obj (.map (mapP m)), .obj (.row true 61 2 (l.map enc))], _, _, _, rfl, ?_, rfl, .refl _, rfl⟩
    have e : List.drop 0 (List.take l.length (List.map (enc : Coef -> PV) l)) = l.map enc := by rw [List.drop_zero, List.take_of_length_le (by simp)]
    simp only [frz, frzL, HM.run_bind, objs, List.map_cons, List.map_nil, List.cons_append, List.nil_append]
    simp [HM.run, HM.req]
    exact List.take_of_length_le (by simp)
  ·rw [if_neg hl, if_neg hl]
   exact ⟨_, _, _, _, _, _, _, _, rfl, rfl, rfl, sub_nolin 0 3, rfl⟩
 ·cases hp
end Go.Pl

