/-
  Texts of mine that belong together (packed by pack.py), for every input: QL7, TyR, GLr, QRp, QRq, TyP, GLo, QLq, QLr, GLm, GLk, QLk, GLn, QLn, QLo, QLp, QRa, QRb, QRc, TyQ, GLu, GLt, QRs, QRt, QRu, QRv, GLv, QRw, QRx, TyG, TyH, TyK, TyI, TyE, GLh, GLx, QLx, GL4, GLz, GLy, QLy, QLz, QL8, GL9, QL9, GL0, QL0, QLi4, QRk, QLs4, TyWi, TyWd, TyWo, GWg, TyWn, GWd, GWi, QWi, QWj, QWd, GWf, QWf, QWg, QWh, TyWl, GWo, QWo, TyD, GTx, QTx, QTy, TyTt, TyTu, QTz, QWp.
-/
import Derived.Test.YtgllkpfiokkdhaaGreatDoorChecked
import Derived.Test.YtgllkpfiokkdhaaGreatDoorCC2
import Derived.Test.YtgllkpfiokkdhaaGreatDoorCC3
import Derived.KernelRfl
import Derived.Lib.Bytealg
import Derived.Lib.Strings
import Derived.Lib.ItoaLen
set_option linter.unusedVariables false
set_option linter.unusedSimpArgs false
namespace Go.Pl
open Go.RowKit
open Enc (enc dec is)
open EncL (encL decL isL)
theorem c0r{s:List UInt8}{i:Nat}(h:i<s.length):List.getD (ZE s) (Int.toNat (i:Int)) default = .int .u8 (s[i].toNat:Int):=by
 simp[ZE,List.getD,h]
theorem BA(s:List UInt8):(ZE s).length=s.length:=by simp[ZE]
def a2i(c:UInt8):Bool:=VW c||digB c
theorem b0q{c:UInt8}:VW c=true ↔ 97<=c.toNat∧c.toNat<=122:=by
 simp only[VW,Bool.and_eq_true,decide_eq_true_eq,UInt8.le_iff_toNat_le]
 have e1:(97:UInt8).toNat=97:=rfl
 have e2:(122:UInt8).toNat=122:=rfl
 rw[e1,e2]
theorem NP{c:UInt8}(h : ¬ (97<=c.toNat∧c.toNat<=122)):VW c=false:=by
 cases e:VW c
 ·rfl
 ·exact absurd (b0q.1 e) h
theorem NV{c:UInt8}(h : ¬ (48<=c.toNat∧c.toNat<=57)):digB c=false:=by
 cases e:digB c
 ·rfl
 ·exact absurd (UN.1 e) h
def Ub(s:List UInt8)(i:Nat):Bool:=(match i with|0=>(match s with|[]=>true|c::r=>VW c&&r.all a2i)|i+1=>(s.drop (i+1)).all a2i)&&(!(s==[]))&&decide (s.length<=30)
theorem b5x{s:List UInt8}{i:Nat}(h:i<s.length)(hb:VW s[i]=true∨(i≠0∧digB s[i]=true)):Ub s i=Ub s (i+1):=by
 cases i with
 | zero=>
  cases s with
  | nil=>simp at h
  | cons c r=>
   rcases hb with hb|hb
   ·have hb:VW c=true:=hb
    simp[Ub,hb]
   ·exact absurd rfl hb.1
 | succ i=>
  unfold Ub
  simp only
  rw[List.drop_eq_getElem_cons h,List.all_cons]
  have:a2i s[i+1]=true:=by
   rcases hb with hb|hb
   ·simp[a2i,hb]
   ·simp[a2i,hb.2]
  rw[this,Bool.true_and]
theorem b5z{s:List UInt8}{i:Nat}(h:i<s.length)(hb:VW s[i]=false∧(i=0∨digB s[i]=false)):Ub s i=false:=by
 cases i with
 | zero=>
  cases s with
  | nil=>simp at h
  | cons c r=>
   have hb:VW c=false:=hb.1
   simp[Ub,hb]
 | succ i=>
  unfold Ub
  simp only
  rw[List.drop_eq_getElem_cons h,List.all_cons]
  have:a2i s[i+1]=false:=by
   rcases hb.2 with h0|h0
   ·cases h0
   ·simp[a2i,hb.1,h0]
  rw[this];simp
theorem a3z(s:List UInt8)(hs:s.length<=1000000): ∀ (m i:Nat),m+i=s.length->At Vh 0 (Ze Wd (ZB (Ub s i))) X7 0 67 [(0,.pv (.str s)),(34,.pv (.sl 1 false (ZE s))),(35,.pv (.int .i64 (ZE s).length)),(36,.pv (.int .i64 i))] []:=by
 intro m
 induction m with
 | zero=>
  intro i hi
  have e:Ub s i=(!(s==[])&&decide (s.length<=30)):=by
   unfold Ub
   cases i with
   | zero=>cases s with
    | nil=>rfl
    | cons c r=>simp at hi
   | succ i=>simp only;rw[List.drop_of_length_le (show s.length<=i+1 by omega)];simp
  rw[e]
  refine a0c s i (Zv (UX (by rw[BA];omega)) (Ba (fun h=>ZY ?_) fun h=>ZY ?_))
  ·rw[h,Bool.true_and];exact decide_eq_decide.2 (by omega)
  ·rw[h,Bool.false_and]
 | succ m ih=>
  intro i hi
  have hlt:i<s.length:=by omega
  have h:=ih (i+1) (by omega)
  refine a0c s i ?_
  rw[c0r hlt,next (by omega)]
  have stop:(VW s[i]=false∧(i=0∨digB s[i]=false))->ZB (Ub s i) (.bool false):=fun hb=>ZY (b5z hlt hb).symm
  have go:(VW s[i]=true∨(i≠0∧digB s[i]=true))->At Vh 0 (Ze Wd (ZB (Ub s i))) X7 0 67 [(0,.pv (.str s)),(34,.pv (.sl 1 false (ZE s))),(35,.pv (.int .i64 (ZE s).length)),(36,.pv (.int .i64 ((i+1:Nat):Int)))] []:=fun hb=>by rw[b5x hlt hb];exact h
  have rest:VW s[i]=false->(if ((i:Int)==0)=true then ZB (Ub s i) (.bool false)else if decide ((s[i].toNat:Int)<48)=true then ZB (Ub s i) (.bool false)else if decide ((s[i].toNat:Int)>57)=true then ZB (Ub s i) (.bool false)else At Vh 0 (Ze Wd (ZB (Ub s i))) X7 0 67 [(0,.pv (.str s)),(34,.pv (.sl 1 false (ZE s))),(35,.pv (.int .i64 (ZE s).length)),(36,.pv (.int .i64 ((i+1:Nat):Int)))] []):=by
   intro hl
   refine Qe (fun h0=>stop ⟨hl,.inl (by omega)⟩) fun h0=>Qz (fun h1=>stop ⟨hl,.inr (NV (by omega))⟩) fun h1=>Qz (fun h2=>stop ⟨hl,.inr (NV (by omega))⟩) fun h2=>go (.inr ⟨by omega,UN.2 (by omega)⟩)
  refine Zu (U4 (by rw[BA];exact hlt)) ⟨by rw[BA];simp[hlt],by rfl,?_⟩
  refine Qz (fun h1=>rest (NP ?_)) fun h1=>Qz (fun h2=>rest (NP ?_)) fun h2=>go (.inl (b0q.2 ?_))
  ·have h1:(s[i].toNat:Int)<97:=h1
   omega
  ·have h2:(s[i].toNat:Int)>122:=h2
   omega
  ·have h1 : ¬ (s[i].toNat:Int)<97:=h1
   have h2 : ¬ (s[i].toNat:Int)>122:=h2
   omega
theorem b1o{s:List UInt8}(h:[95].isPrefixOf s=false):YZ ⟨s⟩=Ub s 0:=by
 cases s with
 | nil=>rfl
 | cons c r=>
  have hc : ¬ c=95:=by intro e;subst e;simp at h
  have e:decide ((c::r).length<=30)=decide (r.length<=29):=decide_eq_decide.2 (by simp)
  unfold Ub
  rw[e]
  simp only[YZ,if_neg hc]
  show _=(VW c&&r.all a2i&& !((c::r)==[])&&_)
  have e2:((c::r)==[])=false:=rfl
  rw[e2]
  simp only[Bool.not_false,Bool.and_true]
  rfl
theorem a5t(s:Str): -9223372036854775808<=(XH s).1∧((XH s).1<=9223372036854775807):=by
 unfold XH
 split
 ·rename_i v hv;exact Lib.atoiAll_bounds hv
 ·have:=Lib.atoiSat_bounds s.s
  exact⟨by show _<=Lib.atoiSat s.s;omega,by show Lib.atoiSat s.s<=_;omega⟩
 ·exact⟨by show(-9223372036854775808:Int)<=0;omega,by show(0:Int)<=_;omega⟩
theorem b1t: ∀ a:Str×Unit,decide (a.1.s.length<=1000000)=true->Zf Vh 0 (Ze Wd (ZB (YZ a.1))) X7 [] (Yp c0j (encL a)):=by
 rintro⟨⟨s⟩,⟨⟩⟩ hl
 have hl:s.length<=1000000:=by simpa using hl
 refine c9i s (Zq (⟨s⟩,⟨[95]⟩,()) rfl (Ba (fun h=> ?_) fun h=> ?_))
 ·have h:[95].isPrefixOf s=true:=h
  obtain⟨r,rfl⟩ : ∃ r,s=95::r:=by
   cases s with
   | nil=>simp at h
   | cons c r=>
    have:95=c:=by simpa using h
    exact⟨r,by rw[this]⟩
  have e1:List.drop (Int.toNat 1) (List.take (List.length (95::r)) (95::r))=r:=by rw[List.take_of_length_le (Nat.le_refl _)];rfl
  simp only[e1]
  refine⟨by simp,Zo (⟨r⟩,()) rfl (by simp at hl ⊢;omega),Zq (⟨r⟩,()) rfl ⟨by show(a0f (enc (XH ⟨r⟩).2)&&true)=true;rw[d9i];rfl,?_⟩⟩
  show if JP (enc (XH ⟨r⟩).2)=true then(if decide ((XH ⟨r⟩).1>0)=true then(if _ then _ else ZB (YZ ⟨95::r⟩) _)else ZB (YZ ⟨95::r⟩) _)else ZB (YZ ⟨95::r⟩) _
  rw[c6a]
  by_cases h9:r.length<=9
  ·rw[<- d2u r h9,decide_eq_true h9,Bool.and_true]
   refine Ba (fun h1=>Ba (fun h2=>Zu (by simp;omega) ⟨Zo ((XH ⟨r⟩).1,()) rfl (by have:=a5t ⟨r⟩;simp;omega),Zq ((XH ⟨r⟩).1,()) rfl ⟨by simp,ZY ?_⟩⟩) fun h2=>ZY ?_) fun h1=>ZY ?_
   ·rw[h1,h2];simp only[Bool.true_and,Bool.and_true];rfl
   ·rw[h2];simp
   ·rw[h1];simp
  ·rw[decide_eq_false h9,Bool.and_false]
   refine Ba (fun h1=>Ba (fun h2=>Zv (by simp;omega) (ZY rfl)) fun h2=>ZY rfl) fun h1=>ZY rfl
 ·have h:[95].isPrefixOf s=false:=h
  show At Vh 0 (Ze Wd (ZB (YZ ⟨s⟩))) X7 0 67 _ _
  rw[b1o h]
  exact a3z s hl s.length 0 (by omega)
theorem EE(l:Lin)(hl:l.t.length<=9223372036854775807)(hs:l.t.all (fun t=>decide (t.v.s.length<=1000000))=true): ∀ (j i:Nat),j+i=l.t.length->At V3 0 (Ze WS (ZB (TD (pvS l.t i) (l.t.drop i)&&(Yy l.k&&decide (l.t.length<=12))))) WP 0 54 [(1,.ptr 0 0),(6,.pv (enc l.t)),(7,.pv (.int .i64 l.t.length)),(8,.pv (.int .i64 i))] [.obj (.box [.pv (.int .i64 l.k),.pv (enc l.t)])]:=by
 intro j
 induction j with
 | zero=>
  intro i hi
  refine Mr l i (Zv (UX (by omega)) (Zq (l.k,()) rfl ?_))
  rw[List.drop_of_length_le (show l.t.length<=i by omega)]
  refine Ba (fun h=>ZY ?_) fun h=>ZY ?_
  ·have h:Yy l.k=true:=h
   rw[h]
   show _=(true&&(true&&_))
   rw[Bool.true_and,Bool.true_and]
   exact decide_eq_decide.2 (by simp;omega)
  ·have h:Yy l.k=false:=h
   rw[h];simp
 | succ j ih=>
  intro i hi
  have hlt:i<l.t.length:=by omega
  have h:=ih (i+1) (by omega)
  have hsi:l.t[i].v.s.length<=1000000:=by rw[List.all_eq_true]at hs;simpa using hs _ (List.getElem_mem hlt)
  refine Mr l i ?_
  refine Zu (U4 hlt) ⟨YU hlt rfl,WB hlt ⟨Zo (l.t[i].v,()) rfl (by simpa using hsi),Zq (l.t[i].v,()) rfl (WV (fun hn=> ?_) fun hn=>Qe (fun hc=> ?_) fun hc=>Zq (l.t[i].c,()) rfl (WV (fun hk=> ?_) fun hk=> ?_))⟩⟩
  all_goals rw[List.drop_eq_getElem_cons hlt,DX]
  ·have hn:YZ l.t[i].v=false:=hn
   exact ZY (by simp[hn])
  ·have hc:l.t[i].c=0:=hc
   exact ZY (by simp[hc])
  ·have hk:Yy l.t[i].c=false:=hk
   exact ZY (by simp[hk])
  have hn:YZ l.t[i].v=true:=hn
  have hk:Yy l.t[i].c=true:=hk
  have hc:l.t[i].c≠0:=hc
  rw[next (by omega),hn,hk,decide_eq_true hc]
  have ep:pvS l.t (i+1)=some l.t[i].v.s:=by simp[pvS,hlt]
  rw[ep]at h
  cases i with
  | zero=>exact Zv (by simp) h
  | succ i=>
   refine Zu (by simp) ?_
   rw[a9j (by omega)]
   refine⟨YU (by omega) rfl,WB (by omega) ?_⟩
   have e2:pvS l.t (i+1)=some l.t[i].v.s:=by simp[pvS,show i<l.t.length by omega]
   rw[e2]
   refine WV (fun hb=> ?_) fun hb=> ?_
   all_goals
    have hb':=(YV l.t[i].v.s l.t[i+1].v.s).symm.trans hb
    simp only[hb',Bool.and_true,Bool.true_and,Bool.and_false,Bool.false_and]
   ·exact ZY rfl
   ·exact h
theorem a4j: ∀ a:Lin×Unit,ZG a.1=true->Zf V3 0 (Ze WS (ZB (Zm a.1))) WP [] (Yp b5t (encL a)):=by
 rintro⟨l,⟨⟩⟩ hl
 simp only[ZG,Yb,Bool.and_eq_true,decide_eq_true_eq]at hl
 refine c4f l ?_
 show At V3 0 (Ze WS (ZB (Zm l))) WP 0 54 _ _
 have e:Zm l=(TD (pvS l.t 0) (l.t.drop 0)&&(Yy l.k&&decide (l.t.length<=12))):=by rw[EY,Bool.and_comm];rfl
 rw[e,List.length_map]
 exact EE l hl.1 hl.2 l.t.length 0 (by omega)
theorem d1y: ∀ a:Int×Unit,true=true->Zf c5a 0 (Ze a6q (ZB (⟨a.1,[]⟩:Lin))) a4s [] (Yp d6g (encL a)):=by
 rintro⟨n,⟨⟩⟩ -
 exact d9r n ⟨by simp,by simp⟩
theorem c2g: ∀ a:Cert×Int×Bool×Unit,true=true->Zf a4l 0 (Ze Ot (ZB (Y0 a.1 a.2.1 a.2.2.1))) Om [] (Yp d3d (encL a)):=by
 rintro⟨⟨k,m,l,ks⟩,n,b,⟨⟩⟩ -
 have e:(encL ((Cert.mk k m l ks,n,b,()):Cert×Int×Bool×Unit):List PV)=[PV.agg [enc k,enc m,enc l.k,enc l.t,enc ks],enc n,enc b]:=by
  show [enc (Cert.mk k m l ks),enc n,enc b]=_
  rw[ZO]
 rw[e]
 refine d6i k m l ks n b ?_
 simp only[Y0,List.length_map]
 by_cases h1:(ks.length:Int)=n
 ·refine Zv (by simp[h1]) (Ba (fun h2=> ?_) fun h2=> ?_)
  ·subst h2
   by_cases h3:l.t=[]
   ·refine Zu (by simp[h3]) (ZY ?_)
    simp only[h1,h3,decide_true,Bool.true_and,List.isEmpty_nil,if_true]
    exact Bool.beq_eq_decide_eq _ _
   ·refine Zv (by simpa using h3) (ZY ?_)
    simp[h3]
  ·subst h2
   refine ZY ?_
   cases m <;> simp[h1];omega
 ·exact Zu (by simpa using h1) (ZY (by simp[h1]))
structure LR where
 k:Int
 w:Nat
 ts:List Coef
def LR.view(r:LR):Lin:=⟨r.k,r.ts.take r.w⟩
def LR.av(r:LR)(l:Nat):AV:=.agg [.pv (.int .i64 r.k),.row l r.ts.length 0 r.w]
def LR.ob(r:LR):AObj:=.row false 80 2 (r.ts.map enc)
def Hf:Nat->Nat->Nat->List Coef->List Coef×Nat
 | 0,_,j,ts=>(ts,j)
 | m+1,i,j,ts=>if (ts.getD i ⟨⟨[]⟩,0⟩).c=0 then Hf m (i+1) j ts else Hf m (i+1) (j+1) (ts.set j (ts.getD i ⟨⟨[]⟩,0⟩))
def NG(k:Int)(o:List Coef):LR:=⟨k,(Hf o.length 0 0 o).2,(Hf o.length 0 0 o).1⟩
def Sm(l:Lin)(s:Str)(c:Int):LR:=NG l.k (UY s c false l.t)
theorem BI(o:List Coef): ∀ (m i j:Nat) (ts:List Coef),m+i=o.length->ts.length=o.length->j<=i->ts.take j=(o.take i).filter (fun t=>decide (t.c≠0))->ts.drop i=o.drop i->(Hf m i j ts).1.take (Hf m i j ts).2=o.filter fun t=>decide (t.c≠0)
 | 0,i,j,ts,hm,hts,hji,h1,h2=>by
  rw[Hf]
  show ts.take j=_
  rw[h1,List.take_of_length_le (by omega)]
 | m+1,i,j,ts,hm,hts,hji,h1,h2=>by
  have hlt:i<o.length:=by omega
  have hi':i<ts.length:=by omega
  have hj':j<ts.length:=by omega
  have ei:ts[i]=o[i]:=by
   have:(ts.drop i)[0]? = (o.drop i)[0]? :=by rw[h2]
   simpa [hi',hlt]using this
  have htk:(o.take (i+1))=o.take i++[o[i]]:=by rw[List.take_add_one,List.getElem?_eq_getElem hlt];rfl
  have eg:ts.getD i ⟨⟨[]⟩,0⟩=ts[i]:=by simp[List.getD,hi']
  rw[Hf,eg]
  split
  ·rename_i hz
   refine BI o m (i+1) j ts (by omega) hts (by omega) ?_ ?_
   ·rw[h1,htk,List.filter_append]
    have:o[i].c=0:=by rw[<- ei];exact hz
    simp[this]
   ·have:=congrArg (List.drop 1) h2
    simpa [List.drop_drop,Nat.add_comm]using this
  ·rename_i hz
   refine BI o m (i+1) (j+1) (ts.set j ts[i]) (by omega) (by simp[hts]) (by omega) ?_ ?_
   ·rw[htk,List.filter_append,<- h1]
    have:decide (o[i].c≠0)=true:=by rw[<- ei];exact decide_eq_true hz
    simp only[List.filter_cons,this,if_true,List.filter_nil]
    rw[List.take_add_one,List.getElem?_set_self hj',List.take_set_of_le (Nat.le_refl j),ei]
    rfl
   ·rw[List.drop_set_of_lt (by omega)]
    have:=congrArg (List.drop 1) h2
    simpa [List.drop_drop,Nat.add_comm]using this
theorem a5x(l:Lin)(s:Str)(c:Int):(Sm l s c).view=MQ l s c:=by
 show(⟨_,_⟩:Lin)=⟨_,_⟩
 congr 1
 exact BI _ _ 0 0 _ (by omega) rfl (by omega) (by simp) rfl
def Hu:List AV->List AObj->Bool
 | [.pv l,.pv (.str s),.pv (.int .i64 c)],[]=>QV Lin l&&decide ((dec l:Lin).t.length<=1000000)
 | _,_=>false
def Pw(r:LR)(l:Nat)(os:List AObj):AV×List AObj×List AObj:=(r.av l,os,[r.ob])
def Gp:List AV->List AObj->AV×List AObj×List AObj
 | [.pv l,.pv (.str s),.pv (.int .i64 c)],_=>Pw (Sm (dec l) ⟨s⟩ c) 0 []
 | _,_=>KV
def d8y:PV:=.agg [.int .i64 0,.sl 0 true []]
end Go.Pl
namespace Go.Pl
open Go.RowKit
open Enc (enc dec is)
open EncL (encL decL isL)
set_option maxRecDepth 100000
noncomputable def ZR:IC:=Xp Proofs.Tryz.f21
def ZP:List IRes:=[(.cell true 2 6)]
abbrev EK:Nat:=100
def Z4:ZI:=YN []
theorem c9c{G:AV×List AObj×List AObj->Prop}(l:Lin)(s:List UInt8)(c:Int)(h:At Z4 0 (Zj 0 ZP G) ZR 0 100 [(1,(.pv (.str s))),(2,(.pv (.int .i64 c))),(3,(.ptr 0 0)),(6,(.ptr 1 0)),(7,(.ptr 2 0)),(8,(.pv (.bool false))),(9,(.pv (.int .i64 0)))] [(.obj (.box [(.pv (.int .i64 l.k)),(.pv (.sl 2 false (List.map enc l.t)))])),(.obj (.box [(.pv (.int .i64 0)),(.pv (.sl 0 true []))])),(.obj (.box [(.pv (.int .i64 l.k)),(.pv (.sl 0 true []))]))]):Zf Z4 0 (Zj 0 ZP G) ZR [] (ZN 100 [.pv (enc l),.pv (.str s),.pv (enc c)] []):=Zf.to (.nil) h (by kernel_rfl)
theorem b6n{G:AV×List AObj×List AObj->Prop}(l:Lin)(s:List UInt8)(c:Int)(p:Bool)(i:Int)(h:if (decide (i<(↑(List.length (List.map enc l.t)):Int)))=true then(decide (0<=i)&&decide (Int.toNat i<List.length (List.map enc l.t))&&Enc.sz Coef==2)=true∧(∃ y0:Coef,AV.pv (PV.rptr (PV.cells (List.getD (List.map enc l.t) (Int.toNat i) default)))=AV.pv (PV.rptr (PV.cells ((enc) y0)))∧(if (!p)=true then if (!(Op.bytesLess (PV.asStr (List.getD (PV.cells (enc y0)) 0 default)) s||PV.asStr (List.getD (PV.cells (enc y0)) 0 default)==s))=true then if (PV.asStr (List.getD (PV.cells (enc y0)) 0 default)==s)=true then At Z4 0 (Zj 0 ZP G) ZR 0 100 [(1,(.pv (.str s))),(2,(.pv (.int .i64 c))),(3,(.ptr 0 0)),(6,(.ptr 1 0)),(7,(.ptr 2 0)),(8,(.pv (.bool true))),(9,(.pv (.int .i64 (IntKind.wrap IntKind.i64 (i+1)))))] [(.obj (.box [(.pv (.int .i64 l.k)),(.pv (.sl 2 false (List.map enc l.t)))])),(.obj (.box [(.pv (.int .i64 0)),(.pv (.sl 0 true []))])),(.obj (.box [(.pv (.int .i64 l.k)),(.row 3 2 0 2)])),(.obj (.row false 80 2 [(.agg [(.str s),(.int .i64 c)]),(.agg [(.str (PV.asStr (List.getD (PV.cells (enc y0)) 0 default))),(.int .i64 (IntKind.wrap IntKind.i64 (PV.asInt (List.getD (PV.cells (enc y0)) (0+1) default)+c)))])]))]else(At Z4 0 (Zj 0 ZP G) ZR 0 100 [(1,(.pv (.str s))),(2,(.pv (.int .i64 c))),(3,(.ptr 0 0)),(6,(.ptr 1 0)),(7,(.ptr 2 0)),(8,(.pv (.bool true))),(9,(.pv (.int .i64 (IntKind.wrap IntKind.i64 (i+1)))))] [(.obj (.box [(.pv (.int .i64 l.k)),(.pv (.sl 2 false (List.map enc l.t)))])),(.obj (.box [(.pv (.int .i64 0)),(.pv (.sl 0 true []))])),(.obj (.box [(.pv (.int .i64 l.k)),(.row 3 2 0 2)])),(.obj (.row false 80 2 [(.agg [(.str s),(.int .i64 c)]),(.agg [(.str (PV.asStr (List.getD (PV.cells (enc y0)) 0 default))),(.int .i64 (PV.asInt (List.getD (PV.cells (enc y0)) (0+1) default)))])]))])else(if (PV.asStr (List.getD (PV.cells (enc y0)) 0 default)==s)=true then At Z4 0 (Zj 0 ZP G) ZR 0 100 [(1,(.pv (.str s))),(2,(.pv (.int .i64 c))),(3,(.ptr 0 0)),(6,(.ptr 1 0)),(7,(.ptr 2 0)),(8,(.pv (.bool true))),(9,(.pv (.int .i64 (IntKind.wrap IntKind.i64 (i+1)))))] [(.obj (.box [(.pv (.int .i64 l.k)),(.pv (.sl 2 false (List.map enc l.t)))])),(.obj (.box [(.pv (.int .i64 0)),(.pv (.sl 0 true []))])),(.obj (.box [(.pv (.int .i64 l.k)),(.row 3 1 0 1)])),(.obj (.row false 80 2 [(.agg [(.str (PV.asStr (List.getD (PV.cells (enc y0)) 0 default))),(.int .i64 (IntKind.wrap IntKind.i64 (PV.asInt (List.getD (PV.cells (enc y0)) (0+1) default)+c)))])]))]else(At Z4 0 (Zj 0 ZP G) ZR 0 100 [(1,(.pv (.str s))),(2,(.pv (.int .i64 c))),(3,(.ptr 0 0)),(6,(.ptr 1 0)),(7,(.ptr 2 0)),(8,(.pv (.bool p))),(9,(.pv (.int .i64 (IntKind.wrap IntKind.i64 (i+1)))))] [(.obj (.box [(.pv (.int .i64 l.k)),(.pv (.sl 2 false (List.map enc l.t)))])),(.obj (.box [(.pv (.int .i64 0)),(.pv (.sl 0 true []))])),(.obj (.box [(.pv (.int .i64 l.k)),(.row 3 1 0 1)])),(.obj (.row false 80 2 [(.agg [(.str (PV.asStr (List.getD (PV.cells (enc y0)) 0 default))),(.int .i64 (PV.asInt (List.getD (PV.cells (enc y0)) (0+1) default)))])]))]))else(if (PV.asStr (List.getD (PV.cells (enc y0)) 0 default)==s)=true then At Z4 0 (Zj 0 ZP G) ZR 0 100 [(1,(.pv (.str s))),(2,(.pv (.int .i64 c))),(3,(.ptr 0 0)),(6,(.ptr 1 0)),(7,(.ptr 2 0)),(8,(.pv (.bool true))),(9,(.pv (.int .i64 (IntKind.wrap IntKind.i64 (i+1)))))] [(.obj (.box [(.pv (.int .i64 l.k)),(.pv (.sl 2 false (List.map enc l.t)))])),(.obj (.box [(.pv (.int .i64 0)),(.pv (.sl 0 true []))])),(.obj (.box [(.pv (.int .i64 l.k)),(.row 3 1 0 1)])),(.obj (.row false 80 2 [(.agg [(.str (PV.asStr (List.getD (PV.cells (enc y0)) 0 default))),(.int .i64 (IntKind.wrap IntKind.i64 (PV.asInt (List.getD (PV.cells (enc y0)) (0+1) default)+c)))])]))]else(At Z4 0 (Zj 0 ZP G) ZR 0 100 [(1,(.pv (.str s))),(2,(.pv (.int .i64 c))),(3,(.ptr 0 0)),(6,(.ptr 1 0)),(7,(.ptr 2 0)),(8,(.pv (.bool p))),(9,(.pv (.int .i64 (IntKind.wrap IntKind.i64 (i+1)))))] [(.obj (.box [(.pv (.int .i64 l.k)),(.pv (.sl 2 false (List.map enc l.t)))])),(.obj (.box [(.pv (.int .i64 0)),(.pv (.sl 0 true []))])),(.obj (.box [(.pv (.int .i64 l.k)),(.row 3 1 0 1)])),(.obj (.row false 80 2 [(.agg [(.str (PV.asStr (List.getD (PV.cells (enc y0)) 0 default))),(.int .i64 (PV.asInt (List.getD (PV.cells (enc y0)) (0+1) default)))])]))]))))else(if (!p)=true then At Z4 0 (Zj 0 ZP G) ZR 1 100 [(6,(.ptr 0 0)),(7,(.ptr 1 0)),(11,(.pv (.int .i64 0))),(12,(.pv (.int .i64 0)))] [(.obj (.box [(.pv (.int .i64 0)),(.pv (.sl 0 true []))])),(.obj (.box [(.pv (.int .i64 l.k)),(.row 2 1 0 1)])),(.obj (.row false 80 2 [(.agg [(.str s),(.int .i64 c)])]))]else(At Z4 0 (Zj 0 ZP G) ZR 1 100 [(6,(.ptr 0 0)),(7,(.ptr 1 0)),(11,(.pv (.int .i64 0))),(12,(.pv (.int .i64 0)))] [(.obj (.box [(.pv (.int .i64 0)),(.pv (.sl 0 true []))])),(.obj (.box [(.pv (.int .i64 l.k)),(.pv (.sl 0 true []))]))]))):At Z4 0 (Zj 0 ZP G) ZR 0 100 [(1,.pv (.str s)),(2,.pv (.int .i64 c)),(3,.ptr 0 0),(6,.ptr 1 0),(7,.ptr 2 0),(8,.pv (.bool p)),(9,.pv (.int .i64 i))] [.obj (.box [.pv (.int .i64 l.k),.pv (enc l.t)]),.obj (.box [.pv (.int .i64 0),.pv (.sl 0 true [])]),.obj (.box [.pv (.int .i64 l.k),.pv (.sl 0 true [])])]:=At.to (.lit (.ask (.req (.abs (Coef) (fun YY=>AV.pv (PV.rptr (PV.cells ((enc) YY)))) (.lit (.ask (.lit (.lit (.lit (.lit (.lit (.ask (.lit (.lit (.lit (.lit (.lit (.lit (.ask (.lit (.lit (.lit (.lit (.lit (.nil)))))) (.lit (.lit (.lit (.lit (.nil)))))))))))) (.lit (.ask (.lit (.lit (.lit (.lit (.lit (.lit (.lit (.nil)))))))) (.lit (.lit (.lit (.lit (.lit (.lit (.nil))))))))))))))) (.lit (.lit (.lit (.lit (.lit (.lit (.ask (.lit (.lit (.lit (.lit (.lit (.lit (.lit (.nil)))))))) (.lit (.lit (.lit (.lit (.lit (.lit (.nil)))))))))))))))))) (.ask (.lit (.lit (.lit (.lit (.lit (.nil)))))) (.nil)))) h (by kernel_rfl)
theorem MZ{G:AV×List AObj×List AObj->Prop}(l:Lin)(s:List UInt8)(c:Int)(j i:Int)(q:Nat)(ts:List Coef)(h:if (decide (i<(↑(q - 0):Int)))=true then(decide (0<=i)&&decide (0+Int.toNat i<q)&&List.length (List.map enc ts)==q)=true∧((List.length (List.map enc ts)==q&&decide (0+Int.toNat i<List.length (List.map enc ts)))=true∧((decide (0+1+List.length [Sh.int .i64]<=List.length (PV.cells (List.getD (List.map enc ts) (0+Int.toNat i) default)))&&Xu (PV.cells (List.getD (List.map enc ts) (0+Int.toNat i) default)) (0+1) [Sh.int .i64])=true∧(if (PV.asInt (List.getD (PV.cells (List.getD (List.map enc ts) (0+Int.toNat i) default)) (0+1) default) != 0)=true then(decide (0<=i)&&decide (0+Int.toNat i<q)&&List.length (List.map enc ts)==q)=true∧((List.length (List.map enc ts)==q&&decide (0+Int.toNat i<List.length (List.map enc ts)))=true∧((decide (0+List.length [Sh.str,Sh.int .i64]<=List.length (PV.cells (List.getD (List.map enc ts) (0+Int.toNat i) default)))&&Xu (PV.cells (List.getD (List.map enc ts) (0+Int.toNat i) default)) 0 [Sh.str,Sh.int .i64])=true∧((decide (0<=j)&&decide (0+Int.toNat j<q)&&List.length (List.map enc ts)==q)=true∧((List.length (List.map enc ts)==q&&decide (0+Int.toNat j<List.length (List.map enc ts))&&List.length (PV.cells (PV.agg (CK (PV.cells (List.getD (List.map enc ts) (0+Int.toNat i) default)) 0 [Sh.str,Sh.int .i64])))==2&&decide (0+2<=List.length (PV.cells (List.getD (List.map enc ts) (0+Int.toNat j) default)))&&PV.cellsOk (PV.agg (CK (PV.cells (List.getD (List.map enc ts) (0+Int.toNat i) default)) 0 [Sh.str,Sh.int .i64])))=true∧(At Z4 0 (Zj 0 ZP G) ZR 1 100 [(6,(.ptr 0 0)),(7,(.ptr 1 0)),(11,(.pv (.int .i64 (IntKind.wrap IntKind.i64 (j+1))))),(12,(.pv (.int .i64 (IntKind.wrap IntKind.i64 (i+1)))))] [(.obj (.box [(.pv (.int .i64 0)),(.pv (.sl 0 true []))])),(.obj (.box [(.pv (.int .i64 l.k)),(.row 2 q 0 q)])),(.obj (.row false 80 2 (List.set (List.map enc ts) (0+Int.toNat j) (PV.withCells (List.getD (List.map enc ts) (0+Int.toNat j) default) (splice (PV.cells (List.getD (List.map enc ts) (0+Int.toNat j) default)) 0 (PV.cells (PV.agg (CK (PV.cells (List.getD (List.map enc ts) (0+Int.toNat i) default)) 0 [Sh.str,Sh.int .i64]))))))))])))))else(At Z4 0 (Zj 0 ZP G) ZR 1 100 [(6,(.ptr 0 0)),(7,(.ptr 1 0)),(11,(.pv (.int .i64 j))),(12,(.pv (.int .i64 (IntKind.wrap IntKind.i64 (i+1)))))] [(.obj (.box [(.pv (.int .i64 0)),(.pv (.sl 0 true []))])),(.obj (.box [(.pv (.int .i64 l.k)),(.row 2 q 0 q)])),(.obj (.row false 80 2 (List.map enc ts)))]))))else((true&&decide (0<=j)&&decide (0<=Int.toNat j)&&decide (0+Int.toNat j<=q)&&List.length (List.map enc ts)==q)=true∧(G (((.agg [(.pv (.int .i64 l.k)),(.row 0 q 0 (0+Int.toNat j))]),([],[(.row false 80 2 (List.map enc ts))])))))):At Z4 0 (Zj 0 ZP G) ZR 1 100 [(6,.ptr 0 0),(7,.ptr 1 0),(11,.pv (.int .i64 j)),(12,.pv (.int .i64 i))] [.obj (.box [.pv (.int .i64 0),.pv (.sl 0 true [])]),.obj (.box [.pv (.int .i64 l.k),.row 2 q 0 q]),.obj (.row false 80 2 (ts.map enc))]:=At.to (.lit (.ask (.req (.keep (.req (.req (.lit (.ask (.req (.keep (.req (.req (.req (.keep (.req (.lit (.lit (.nil)))))))))) (.lit (.nil)))))))) (.req (.nil)))) h (by kernel_rfl)
theorem Mv{G:AV×List AObj×List AObj->Prop}(l:Lin)(s:List UInt8)(c:Int)(p:Bool)(i:Int)(q:Nat)(ts:List Coef)(h:if (decide (i<(↑(List.length (List.map enc l.t)):Int)))=true then(decide (0<=i)&&decide (Int.toNat i<List.length (List.map enc l.t))&&Enc.sz Coef==2)=true∧(∃ y0:Coef,AV.pv (PV.rptr (PV.cells (List.getD (List.map enc l.t) (Int.toNat i) default)))=AV.pv (PV.rptr (PV.cells ((enc) y0)))∧(if (!p)=true then if (!(Op.bytesLess (PV.asStr (List.getD (PV.cells (enc y0)) 0 default)) s||PV.asStr (List.getD (PV.cells (enc y0)) 0 default)==s))=true then(List.length (List.map enc ts)==q&&q==q&&decide ((q+List.length (List.drop 0 (List.take 1 [PV.agg [PV.str s,PV.int .i64 c]])))*24<=1099511627776)&&decide (q+List.length (List.drop 0 (List.take 1 [PV.agg [PV.str s,PV.int .i64 c]]))<=1099511627776))=true∧(if (PV.asStr (List.getD (PV.cells (enc y0)) 0 default)==s)=true then(List.length (List.map enc ts++List.drop 0 (List.take 1 [PV.agg [PV.str s,PV.int .i64 c]]))==q+List.length (List.drop 0 (List.take 1 [PV.agg [PV.str s,PV.int .i64 c]]))&&q+List.length (List.drop 0 (List.take 1 [PV.agg [PV.str s,PV.int .i64 c]]))==q+List.length (List.drop 0 (List.take 1 [PV.agg [PV.str s,PV.int .i64 c]]))&&decide ((q+List.length (List.drop 0 (List.take 1 [PV.agg [PV.str s,PV.int .i64 c]]))+List.length (List.drop 0 (List.take 1 [PV.agg [Sh.co Sh.str (List.getD (PV.cells (enc y0)) 0 default),PV.int .i64 (IntKind.wrap IntKind.i64 (PV.asInt (List.getD (PV.cells (enc y0)) (0+1) default)+c))]])))*24<=1099511627776)&&decide (q+List.length (List.drop 0 (List.take 1 [PV.agg [PV.str s,PV.int .i64 c]]))+List.length (List.drop 0 (List.take 1 [PV.agg [Sh.co Sh.str (List.getD (PV.cells (enc y0)) 0 default),PV.int .i64 (IntKind.wrap IntKind.i64 (PV.asInt (List.getD (PV.cells (enc y0)) (0+1) default)+c))]]))<=1099511627776))=true∧(At Z4 0 (Zj 0 ZP G) ZR 0 100 [(1,(.pv (.str s))),(2,(.pv (.int .i64 c))),(3,(.ptr 0 0)),(6,(.ptr 1 0)),(7,(.ptr 2 0)),(8,(.pv (.bool true))),(9,(.pv (.int .i64 (IntKind.wrap IntKind.i64 (i+1)))))] [(.obj (.box [(.pv (.int .i64 l.k)),(.pv (.sl 2 false (List.map enc l.t)))])),(.obj (.box [(.pv (.int .i64 0)),(.pv (.sl 0 true []))])),(.obj (.box [(.pv (.int .i64 l.k)),(.row 3 (q+List.length (List.drop 0 (List.take 1 [PV.agg [PV.str s,PV.int .i64 c]]))+List.length (List.drop 0 (List.take 1 [PV.agg [Sh.co Sh.str (List.getD (PV.cells (enc y0)) 0 default),PV.int .i64 (IntKind.wrap IntKind.i64 (PV.asInt (List.getD (PV.cells (enc y0)) (0+1) default)+c))]]))) 0 (q+List.length (List.drop 0 (List.take 1 [PV.agg [PV.str s,PV.int .i64 c]]))+List.length (List.drop 0 (List.take 1 [PV.agg [Sh.co Sh.str (List.getD (PV.cells (enc y0)) 0 default),PV.int .i64 (IntKind.wrap IntKind.i64 (PV.asInt (List.getD (PV.cells (enc y0)) (0+1) default)+c))]]))))])),(.obj (.row false 80 2 (List.map enc ts++List.drop 0 (List.take 1 [PV.agg [PV.str s,PV.int .i64 c]])++List.drop 0 (List.take 1 [PV.agg [Sh.co Sh.str (List.getD (PV.cells (enc y0)) 0 default),PV.int .i64 (IntKind.wrap IntKind.i64 (PV.asInt (List.getD (PV.cells (enc y0)) (0+1) default)+c))]]))))])else((List.length (List.map enc ts++List.drop 0 (List.take 1 [PV.agg [PV.str s,PV.int .i64 c]]))==q+List.length (List.drop 0 (List.take 1 [PV.agg [PV.str s,PV.int .i64 c]]))&&q+List.length (List.drop 0 (List.take 1 [PV.agg [PV.str s,PV.int .i64 c]]))==q+List.length (List.drop 0 (List.take 1 [PV.agg [PV.str s,PV.int .i64 c]]))&&decide ((q+List.length (List.drop 0 (List.take 1 [PV.agg [PV.str s,PV.int .i64 c]]))+List.length (List.drop 0 (List.take 1 [PV.agg [Sh.co Sh.str (List.getD (PV.cells (enc y0)) 0 default),Sh.co (Sh.int .i64) (List.getD (PV.cells (enc y0)) (0+1) default)]])))*24<=1099511627776)&&decide (q+List.length (List.drop 0 (List.take 1 [PV.agg [PV.str s,PV.int .i64 c]]))+List.length (List.drop 0 (List.take 1 [PV.agg [Sh.co Sh.str (List.getD (PV.cells (enc y0)) 0 default),Sh.co (Sh.int .i64) (List.getD (PV.cells (enc y0)) (0+1) default)]]))<=1099511627776))=true∧(At Z4 0 (Zj 0 ZP G) ZR 0 100 [(1,(.pv (.str s))),(2,(.pv (.int .i64 c))),(3,(.ptr 0 0)),(6,(.ptr 1 0)),(7,(.ptr 2 0)),(8,(.pv (.bool true))),(9,(.pv (.int .i64 (IntKind.wrap IntKind.i64 (i+1)))))] [(.obj (.box [(.pv (.int .i64 l.k)),(.pv (.sl 2 false (List.map enc l.t)))])),(.obj (.box [(.pv (.int .i64 0)),(.pv (.sl 0 true []))])),(.obj (.box [(.pv (.int .i64 l.k)),(.row 3 (q+List.length (List.drop 0 (List.take 1 [PV.agg [PV.str s,PV.int .i64 c]]))+List.length (List.drop 0 (List.take 1 [PV.agg [Sh.co Sh.str (List.getD (PV.cells (enc y0)) 0 default),Sh.co (Sh.int .i64) (List.getD (PV.cells (enc y0)) (0+1) default)]]))) 0 (q+List.length (List.drop 0 (List.take 1 [PV.agg [PV.str s,PV.int .i64 c]]))+List.length (List.drop 0 (List.take 1 [PV.agg [Sh.co Sh.str (List.getD (PV.cells (enc y0)) 0 default),Sh.co (Sh.int .i64) (List.getD (PV.cells (enc y0)) (0+1) default)]]))))])),(.obj (.row false 80 2 (List.map enc ts++List.drop 0 (List.take 1 [PV.agg [PV.str s,PV.int .i64 c]])++List.drop 0 (List.take 1 [PV.agg [Sh.co Sh.str (List.getD (PV.cells (enc y0)) 0 default),Sh.co (Sh.int .i64) (List.getD (PV.cells (enc y0)) (0+1) default)]]))))])))else(if (PV.asStr (List.getD (PV.cells (enc y0)) 0 default)==s)=true then(List.length (List.map enc ts)==q&&q==q&&decide ((q+List.length (List.drop 0 (List.take 1 [PV.agg [Sh.co Sh.str (List.getD (PV.cells (enc y0)) 0 default),PV.int .i64 (IntKind.wrap IntKind.i64 (PV.asInt (List.getD (PV.cells (enc y0)) (0+1) default)+c))]])))*24<=1099511627776)&&decide (q+List.length (List.drop 0 (List.take 1 [PV.agg [Sh.co Sh.str (List.getD (PV.cells (enc y0)) 0 default),PV.int .i64 (IntKind.wrap IntKind.i64 (PV.asInt (List.getD (PV.cells (enc y0)) (0+1) default)+c))]]))<=1099511627776))=true∧(At Z4 0 (Zj 0 ZP G) ZR 0 100 [(1,(.pv (.str s))),(2,(.pv (.int .i64 c))),(3,(.ptr 0 0)),(6,(.ptr 1 0)),(7,(.ptr 2 0)),(8,(.pv (.bool true))),(9,(.pv (.int .i64 (IntKind.wrap IntKind.i64 (i+1)))))] [(.obj (.box [(.pv (.int .i64 l.k)),(.pv (.sl 2 false (List.map enc l.t)))])),(.obj (.box [(.pv (.int .i64 0)),(.pv (.sl 0 true []))])),(.obj (.box [(.pv (.int .i64 l.k)),(.row 3 (q+List.length (List.drop 0 (List.take 1 [PV.agg [Sh.co Sh.str (List.getD (PV.cells (enc y0)) 0 default),PV.int .i64 (IntKind.wrap IntKind.i64 (PV.asInt (List.getD (PV.cells (enc y0)) (0+1) default)+c))]]))) 0 (q+List.length (List.drop 0 (List.take 1 [PV.agg [Sh.co Sh.str (List.getD (PV.cells (enc y0)) 0 default),PV.int .i64 (IntKind.wrap IntKind.i64 (PV.asInt (List.getD (PV.cells (enc y0)) (0+1) default)+c))]]))))])),(.obj (.row false 80 2 (List.map enc ts++List.drop 0 (List.take 1 [PV.agg [Sh.co Sh.str (List.getD (PV.cells (enc y0)) 0 default),PV.int .i64 (IntKind.wrap IntKind.i64 (PV.asInt (List.getD (PV.cells (enc y0)) (0+1) default)+c))]]))))])else((List.length (List.map enc ts)==q&&q==q&&decide ((q+List.length (List.drop 0 (List.take 1 [PV.agg [Sh.co Sh.str (List.getD (PV.cells (enc y0)) 0 default),Sh.co (Sh.int .i64) (List.getD (PV.cells (enc y0)) (0+1) default)]])))*24<=1099511627776)&&decide (q+List.length (List.drop 0 (List.take 1 [PV.agg [Sh.co Sh.str (List.getD (PV.cells (enc y0)) 0 default),Sh.co (Sh.int .i64) (List.getD (PV.cells (enc y0)) (0+1) default)]]))<=1099511627776))=true∧(At Z4 0 (Zj 0 ZP G) ZR 0 100 [(1,(.pv (.str s))),(2,(.pv (.int .i64 c))),(3,(.ptr 0 0)),(6,(.ptr 1 0)),(7,(.ptr 2 0)),(8,(.pv (.bool p))),(9,(.pv (.int .i64 (IntKind.wrap IntKind.i64 (i+1)))))] [(.obj (.box [(.pv (.int .i64 l.k)),(.pv (.sl 2 false (List.map enc l.t)))])),(.obj (.box [(.pv (.int .i64 0)),(.pv (.sl 0 true []))])),(.obj (.box [(.pv (.int .i64 l.k)),(.row 3 (q+List.length (List.drop 0 (List.take 1 [PV.agg [Sh.co Sh.str (List.getD (PV.cells (enc y0)) 0 default),Sh.co (Sh.int .i64) (List.getD (PV.cells (enc y0)) (0+1) default)]]))) 0 (q+List.length (List.drop 0 (List.take 1 [PV.agg [Sh.co Sh.str (List.getD (PV.cells (enc y0)) 0 default),Sh.co (Sh.int .i64) (List.getD (PV.cells (enc y0)) (0+1) default)]]))))])),(.obj (.row false 80 2 (List.map enc ts++List.drop 0 (List.take 1 [PV.agg [Sh.co Sh.str (List.getD (PV.cells (enc y0)) 0 default),Sh.co (Sh.int .i64) (List.getD (PV.cells (enc y0)) (0+1) default)]]))))])))else(if (PV.asStr (List.getD (PV.cells (enc y0)) 0 default)==s)=true then(List.length (List.map enc ts)==q&&q==q&&decide ((q+List.length (List.drop 0 (List.take 1 [PV.agg [Sh.co Sh.str (List.getD (PV.cells (enc y0)) 0 default),PV.int .i64 (IntKind.wrap IntKind.i64 (PV.asInt (List.getD (PV.cells (enc y0)) (0+1) default)+c))]])))*24<=1099511627776)&&decide (q+List.length (List.drop 0 (List.take 1 [PV.agg [Sh.co Sh.str (List.getD (PV.cells (enc y0)) 0 default),PV.int .i64 (IntKind.wrap IntKind.i64 (PV.asInt (List.getD (PV.cells (enc y0)) (0+1) default)+c))]]))<=1099511627776))=true∧(At Z4 0 (Zj 0 ZP G) ZR 0 100 [(1,(.pv (.str s))),(2,(.pv (.int .i64 c))),(3,(.ptr 0 0)),(6,(.ptr 1 0)),(7,(.ptr 2 0)),(8,(.pv (.bool true))),(9,(.pv (.int .i64 (IntKind.wrap IntKind.i64 (i+1)))))] [(.obj (.box [(.pv (.int .i64 l.k)),(.pv (.sl 2 false (List.map enc l.t)))])),(.obj (.box [(.pv (.int .i64 0)),(.pv (.sl 0 true []))])),(.obj (.box [(.pv (.int .i64 l.k)),(.row 3 (q+List.length (List.drop 0 (List.take 1 [PV.agg [Sh.co Sh.str (List.getD (PV.cells (enc y0)) 0 default),PV.int .i64 (IntKind.wrap IntKind.i64 (PV.asInt (List.getD (PV.cells (enc y0)) (0+1) default)+c))]]))) 0 (q+List.length (List.drop 0 (List.take 1 [PV.agg [Sh.co Sh.str (List.getD (PV.cells (enc y0)) 0 default),PV.int .i64 (IntKind.wrap IntKind.i64 (PV.asInt (List.getD (PV.cells (enc y0)) (0+1) default)+c))]]))))])),(.obj (.row false 80 2 (List.map enc ts++List.drop 0 (List.take 1 [PV.agg [Sh.co Sh.str (List.getD (PV.cells (enc y0)) 0 default),PV.int .i64 (IntKind.wrap IntKind.i64 (PV.asInt (List.getD (PV.cells (enc y0)) (0+1) default)+c))]]))))])else((List.length (List.map enc ts)==q&&q==q&&decide ((q+List.length (List.drop 0 (List.take 1 [PV.agg [Sh.co Sh.str (List.getD (PV.cells (enc y0)) 0 default),Sh.co (Sh.int .i64) (List.getD (PV.cells (enc y0)) (0+1) default)]])))*24<=1099511627776)&&decide (q+List.length (List.drop 0 (List.take 1 [PV.agg [Sh.co Sh.str (List.getD (PV.cells (enc y0)) 0 default),Sh.co (Sh.int .i64) (List.getD (PV.cells (enc y0)) (0+1) default)]]))<=1099511627776))=true∧(At Z4 0 (Zj 0 ZP G) ZR 0 100 [(1,(.pv (.str s))),(2,(.pv (.int .i64 c))),(3,(.ptr 0 0)),(6,(.ptr 1 0)),(7,(.ptr 2 0)),(8,(.pv (.bool p))),(9,(.pv (.int .i64 (IntKind.wrap IntKind.i64 (i+1)))))] [(.obj (.box [(.pv (.int .i64 l.k)),(.pv (.sl 2 false (List.map enc l.t)))])),(.obj (.box [(.pv (.int .i64 0)),(.pv (.sl 0 true []))])),(.obj (.box [(.pv (.int .i64 l.k)),(.row 3 (q+List.length (List.drop 0 (List.take 1 [PV.agg [Sh.co Sh.str (List.getD (PV.cells (enc y0)) 0 default),Sh.co (Sh.int .i64) (List.getD (PV.cells (enc y0)) (0+1) default)]]))) 0 (q+List.length (List.drop 0 (List.take 1 [PV.agg [Sh.co Sh.str (List.getD (PV.cells (enc y0)) 0 default),Sh.co (Sh.int .i64) (List.getD (PV.cells (enc y0)) (0+1) default)]]))))])),(.obj (.row false 80 2 (List.map enc ts++List.drop 0 (List.take 1 [PV.agg [Sh.co Sh.str (List.getD (PV.cells (enc y0)) 0 default),Sh.co (Sh.int .i64) (List.getD (PV.cells (enc y0)) (0+1) default)]]))))])))))else(if (!p)=true then(List.length (List.map enc ts)==q&&q==q&&decide ((q+List.length (List.drop 0 (List.take 1 [PV.agg [PV.str s,PV.int .i64 c]])))*24<=1099511627776)&&decide (q+List.length (List.drop 0 (List.take 1 [PV.agg [PV.str s,PV.int .i64 c]]))<=1099511627776))=true∧(At Z4 0 (Zj 0 ZP G) ZR 1 100 [(6,(.ptr 0 0)),(7,(.ptr 1 0)),(11,(.pv (.int .i64 0))),(12,(.pv (.int .i64 0)))] [(.obj (.box [(.pv (.int .i64 0)),(.pv (.sl 0 true []))])),(.obj (.box [(.pv (.int .i64 l.k)),(.row 2 (q+List.length (List.drop 0 (List.take 1 [PV.agg [PV.str s,PV.int .i64 c]]))) 0 (q+List.length (List.drop 0 (List.take 1 [PV.agg [PV.str s,PV.int .i64 c]]))))])),(.obj (.row false 80 2 (List.map enc ts++List.drop 0 (List.take 1 [PV.agg [PV.str s,PV.int .i64 c]]))))])else(At Z4 0 (Zj 0 ZP G) ZR 1 100 [(6,(.ptr 0 0)),(7,(.ptr 1 0)),(11,(.pv (.int .i64 0))),(12,(.pv (.int .i64 0)))] [(.obj (.box [(.pv (.int .i64 0)),(.pv (.sl 0 true []))])),(.obj (.box [(.pv (.int .i64 l.k)),(.row 2 q 0 q)])),(.obj (.row false 80 2 (List.map enc ts)))]))):At Z4 0 (Zj 0 ZP G) ZR 0 100 [(1,.pv (.str s)),(2,.pv (.int .i64 c)),(3,.ptr 0 0),(6,.ptr 1 0),(7,.ptr 2 0),(8,.pv (.bool p)),(9,.pv (.int .i64 i))] [.obj (.box [.pv (.int .i64 l.k),.pv (enc l.t)]),.obj (.box [.pv (.int .i64 0),.pv (.sl 0 true [])]),.obj (.box [.pv (.int .i64 l.k),.row 3 q 0 q]),.obj (.row false 80 2 (ts.map enc))]:=At.to (.lit (.ask (.req (.abs (Coef) (fun YY=>AV.pv (PV.rptr (PV.cells ((enc) YY)))) (.lit (.ask (.lit (.lit (.lit (.lit (.lit (.ask (.lit (.lit (.req (.lit (.ask (.lit (.lit (.lit (.req (.lit (.nil)))))) (.lit (.lit (.req (.lit (.nil)))))))))) (.lit (.ask (.lit (.lit (.lit (.req (.lit (.nil)))))) (.lit (.lit (.req (.lit (.nil))))))))))))) (.lit (.lit (.lit (.lit (.lit (.lit (.ask (.lit (.lit (.lit (.req (.lit (.nil)))))) (.lit (.lit (.req (.lit (.nil)))))))))))))))) (.ask (.lit (.lit (.req (.nil)))) (.nil)))) h (by kernel_rfl)
end Go.Pl
namespace Go.Pl
open Go.RowKit
open Enc (enc dec is)
open EncL (encL decL isL)
theorem d3a{ts:List Coef}{i:Nat}(h:i<ts.length):ts.getD i ⟨⟨[]⟩,0⟩=ts[i]:=by simp[List.getD,h]
theorem c0f(l:Lin)(s:List UInt8)(c:Int)(q:Nat)(ho:q<=2000000): ∀ (m i j:Nat) (ts:List Coef),m+i=q->ts.length=q->j<=i ->
  At Z4 0 (Zj 0 ZP (fun r=>r=Pw ⟨l.k,(Hf m i j ts).2,(Hf m i j ts).1⟩ 0 [])) ZR 1 100 [(6,.ptr 0 0),(7,.ptr 1 0),(11,.pv (.int .i64 j)),(12,.pv (.int .i64 i))] [.obj (.box [.pv (.int .i64 0),.pv (.sl 0 true [])]),.obj (.box [.pv (.int .i64 l.k),.row 2 q 0 q]),.obj (.row false 80 2 (ts.map enc))]:=by
 intro m
 induction m with
 | zero=>
  intro i j ts hm hts hji
  refine MZ l s c j i q ts (Zv (by simp;omega) ?_)
  refine⟨by simp[hts];omega,?_⟩
  subst hts
  simp only[Int.toNat_natCast,Nat.zero_add]
  rfl
 | succ m ih=>
  intro i j ts hm hts hji
  have hi':i<ts.length:=by omega
  have hj':j<ts.length:=by omega
  refine MZ l s c j i q ts ?_
  simp only[c4r enc hi',c4r enc hj']
  refine Zu (by simp;omega) ⟨by simp;omega,by simp;omega,rfl,?_⟩
  rw[Hf,d3a hi']
  by_cases hz:ts[i].c=0
  ·refine Zv (by show ¬ (ts[i].c != 0)=true;simp[hz]) ?_
   rw[next (by omega),if_pos hz]
   exact ih (i+1) j ts (by omega) hts (by omega)
  ·refine Zu (by show(ts[i].c != 0)=true;simp[hz]) ⟨by simp;omega,by simp;omega,rfl,by simp;omega,?_,?_⟩
   ·simp only[List.length_map,hts,beq_self_eq_true,Bool.true_and,Nat.zero_add,Int.toNat_natCast,decide_eq_true (show j<q by omega)]
    rfl
   ·rw[Nat.zero_add,Int.toNat_natCast,c1n,next (by omega),next (by omega),if_neg hz]
    exact ih (i+1) (j+1) (ts.set j ts[i]) (by omega) (by simp[hts]) (by omega)
theorem Bl(l:Lin)(s:List UInt8)(c:Int)(o:List Coef)(ho:o.length<=2000000):
  At Z4 0 (Zj 0 ZP (fun r=>r=Pw (NG l.k o) 0 [])) ZR 1 100 [(6,.ptr 0 0),(7,.ptr 1 0),(11,.pv (.int .i64 0)),(12,.pv (.int .i64 0))] [.obj (.box [.pv (.int .i64 0),.pv (.sl 0 true [])]),.obj (.box [.pv (.int .i64 l.k),.row 2 o.length 0 o.length]),.obj (.row false 80 2 (o.map enc))]:=
 c0f l s c o.length ho o.length 0 0 o (by omega) rfl (by omega)
theorem c5z(l:Lin)(s:List UInt8)(c:Int)(hl:l.t.length<=1000000): ∀ (m i:Nat) (p:Bool) (q:Nat) (ts:List Coef),m+i=l.t.length->q=ts.length->(p=false->ts.length<=i)->ts.length<=i+1 ->
  At Z4 0 (Zj 0 ZP (fun r=>r=Pw (NG l.k (ts++UY ⟨s⟩ c p (l.t.drop i))) 0 [])) ZR 0 100 [(1,.pv (.str s)),(2,.pv (.int .i64 c)),(3,.ptr 0 0),(6,.ptr 1 0),(7,.ptr 2 0),(8,.pv (.bool p)),(9,.pv (.int .i64 i))]
   [.obj (.box [.pv (.int .i64 l.k),.pv (enc l.t)]),.obj (.box [.pv (.int .i64 0),.pv (.sl 0 true [])]),.obj (.box [.pv (.int .i64 l.k),.row 3 q 0 q]),.obj (.row false 80 2 (ts.map enc))]:=by
 intro m
 induction m with
 | zero=>
  intro i p q ts hm hq h1 h2
  refine Mv l s c p i q ts (Zv (Gx (by omega)) ?_)
  rw[List.drop_of_length_le (show l.t.length<=i by omega)]
  refine WV (fun hp=> ?_) fun hp=> ?_
  ·subst hp
   refine⟨by simp[hq];omega,?_⟩
   have h:=Bl l s c (ts++[⟨⟨s⟩,c⟩]) (by simp;omega)
   rw[List.map_append,List.length_append,<- hq]at h
   rw[UY]
   exact h
  ·subst hp
   have h:=Bl l s c ts (by omega)
   rw[<- hq]at h
   rw[UY,if_pos rfl,List.append_nil]
   exact h
 | succ m ih=>
  intro i p q ts hm hq h1 h2
  have hlt:i<l.t.length:=by omega
  refine Mv l s c p i q ts (Zu (Gy hlt) ⟨YU hlt rfl,WB hlt ?_⟩)
  rw[List.drop_eq_getElem_cons hlt,next (by omega)]
  have key : ∀ (p':Bool) (add:List Coef),add.length<=2->(p'=false->(ts++add).length<=i+1)->(ts++add).length<=i+2->ts++UY ⟨s⟩ c p (l.t[i]::l.t.drop (i+1))=(ts++add)++UY ⟨s⟩ c p' (l.t.drop (i+1)) ->
    At Z4 0 (Zj 0 ZP (fun r=>r=Pw (NG l.k (ts++UY ⟨s⟩ c p (l.t[i]::l.t.drop (i+1)))) 0 [])) ZR 0 100 [(1,.pv (.str s)),(2,.pv (.int .i64 c)),(3,.ptr 0 0),(6,.ptr 1 0),(7,.ptr 2 0),(8,.pv (.bool p')),(9,.pv (.int .i64 ((i+1:Nat):Int)))]
     [.obj (.box [.pv (.int .i64 l.k),.pv (enc l.t)]),.obj (.box [.pv (.int .i64 0),.pv (.sl 0 true [])]),.obj (.box [.pv (.int .i64 l.k),.row 3 (q+add.length) 0 (q+add.length)]),.obj (.row false 80 2 (ts.map enc++add.map enc))]:=by
   intro p' add h3 h4 h5 h6
   rw[h6,<- List.map_append]
   exact ih (i+1) p' (q+add.length) (ts++add) (by omega) (by simp[hq]) h4 h5
  generalize l.t[i]=y at key ⊢
  obtain⟨⟨yv⟩,yc⟩:=y
  subst hq
  refine WV (fun hp=> ?_) fun hp=> ?_
  ·subst hp
   have hle:=h1 rfl
   refine WV (fun hb=> ?_) fun hb=> ?_
   ·have hb:(Op.bytesLess yv s||yv==s)=false:=hb
    have hlt2:s<yv:=by
     simp only[YV,Bool.or_eq_false_iff,decide_eq_false_iff_not,beq_eq_false_iff_ne]at hb
     exact tri hb.1 hb.2
    have hne : ¬ yv=s:=fun e=>by rw[e]at hlt2;exact List.lt_irrefl _ hlt2
    refine⟨by simp;omega,Qe (fun h=>absurd h hne) fun _=>⟨by simp;omega,?_⟩⟩
    have:=key true [⟨⟨s⟩,c⟩,⟨⟨yv⟩,yc⟩] (by simp) (fun h=>by cases h) (by simp;omega) (by rw[MB,if_pos hlt2];simp)
    rw[List.append_assoc]
    exact this
   ·have hb:(Op.bytesLess yv s||yv==s)=true:=hb
    have hnl : ¬ s<yv:=by
     simp only[YV,Bool.or_eq_true,decide_eq_true_eq,beq_iff_eq]at hb
     rcases hb with h|h
     ·exact List.lt_asymm h
     ·rw[h];exact List.lt_irrefl _
    refine Qe (fun h=> ?_) fun h=> ?_
    ·have h:yv=s:=h
     subst h
     refine⟨by simp;omega,?_⟩
     exact key true [⟨⟨yv⟩,V9 (yc+c)⟩] (by simp) (fun h=>by cases h) (by simp;omega) (by rw[MB,if_neg hnl,if_pos rfl];simp)
    ·have h:yv≠s:=h
     refine⟨by simp;omega,?_⟩
     exact key false [⟨⟨yv⟩,yc⟩] (by simp) (fun _=>by simp;omega) (by simp;omega) (by rw[MB,if_neg hnl,if_neg (by rw[FM];exact h)];simp)
  ·subst hp
   refine Qe (fun h=> ?_) fun h=> ?_
   ·have h:yv=s:=h
    subst h
    refine⟨by simp;omega,?_⟩
    exact key true [⟨⟨yv⟩,V9 (yc+c)⟩] (by simp) (fun h=>by cases h) (by simp;omega) (by rw[d4v,if_pos rfl];simp)
   ·have h:yv≠s:=h
    refine⟨by simp;omega,?_⟩
    exact key true [⟨⟨yv⟩,yc⟩] (by simp) (fun h=>by cases h) (by simp;omega) (by rw[d4v,if_neg (by rw[FM];exact h)];simp)
theorem b5f(l:Lin)(s:List UInt8)(c:Int)(hl:l.t.length<=1000000):Zf Z4 0 (Zj 0 ZP (fun r=>r=Pw (Sm l ⟨s⟩ c) 0 [])) ZR [] (ZN EK [.pv (enc l),.pv (.str s),.pv (enc c)] []):=by
 refine c9c l s c (b6n l s c false 0 ?_)
 show if _ then _ else(if _ then At Z4 0 (Zj 0 ZP (fun r=>r=Pw (NG l.k (UY ⟨s⟩ c false l.t)) 0 [])) _ _ _ _ _ else _)
 by_cases h0:l.t=[]
 ·refine Zv (by simp[h0]) (Zu rfl ?_)
  have h:=Bl l s c [⟨⟨s⟩,c⟩] (by simp)
  rw[h0,UY]
  exact h
 ·have hlt:0<l.t.length:=List.length_pos_iff.2 h0
  refine Zu (by simp;omega) ⟨by simp[Enc.sz];omega,WB hlt ?_⟩
  have ed:l.t=l.t[0]::l.t.drop 1:=by
   have:=List.drop_eq_getElem_cons hlt
   rwa [List.drop_zero]at this
  have key : ∀ (p':Bool) (add:List Coef),add.length<=2->(p'=false->add.length<=1)->UY ⟨s⟩ c false (l.t[0]::l.t.drop 1)=add++UY ⟨s⟩ c p' (l.t.drop 1) ->
    At Z4 0 (Zj 0 ZP (fun r=>r=Pw (NG l.k (UY ⟨s⟩ c false l.t)) 0 [])) ZR 0 100 [(1,.pv (.str s)),(2,.pv (.int .i64 c)),(3,.ptr 0 0),(6,.ptr 1 0),(7,.ptr 2 0),(8,.pv (.bool p')),(9,.pv (.int .i64 ((0+1:Nat):Int)))]
     [.obj (.box [.pv (.int .i64 l.k),.pv (enc l.t)]),.obj (.box [.pv (.int .i64 0),.pv (.sl 0 true [])]),.obj (.box [.pv (.int .i64 l.k),.row 3 add.length 0 add.length]),.obj (.row false 80 2 (add.map enc))]:=by
   intro p' add h3 h4 h6
   have h7:UY ⟨s⟩ c false l.t=add++UY ⟨s⟩ c p' (l.t.drop 1):=by rw[<- h6,<- ed]
   rw[h7]
   exact c5z l s c hl (l.t.length - 1) (0+1) p' add.length add (by omega) rfl (fun h=>h4 h) (by omega)
  rw[show IntKind.wrap IntKind.i64 (0+1)=((0+1:Nat):Int)from rfl]
  generalize l.t[0]=y at key ⊢
  obtain⟨⟨yv⟩,yc⟩:=y
  refine Zu rfl ?_
  refine WV (fun hb=> ?_) fun hb=> ?_
  ·have hb:(Op.bytesLess yv s||yv==s)=false:=hb
   have hlt2:s<yv:=by
    simp only[YV,Bool.or_eq_false_iff,decide_eq_false_iff_not,beq_eq_false_iff_ne]at hb
    exact tri hb.1 hb.2
   have hne : ¬ yv=s:=fun e=>by rw[e]at hlt2;exact List.lt_irrefl _ hlt2
   refine Qe (fun h=>absurd h hne) fun _=> ?_
   exact key true [⟨⟨s⟩,c⟩,⟨⟨yv⟩,yc⟩] (by simp) (fun h=>by cases h) (by rw[MB,if_pos hlt2];simp)
  ·have hb:(Op.bytesLess yv s||yv==s)=true:=hb
   have hnl : ¬ s<yv:=by
    simp only[YV,Bool.or_eq_true,decide_eq_true_eq,beq_iff_eq]at hb
    rcases hb with h|h
    ·exact List.lt_asymm h
    ·rw[h];exact List.lt_irrefl _
   refine Qe (fun h=> ?_) fun h=> ?_
   ·have h:yv=s:=h
    subst h
    exact key true [⟨⟨yv⟩,V9 (yc+c)⟩] (by simp) (fun h=>by cases h) (by rw[MB,if_neg hnl,if_pos rfl];simp)
   ·have h:yv≠s:=h
    exact key false [⟨⟨yv⟩,yc⟩] (by simp) (fun _=>by simp) (by rw[MB,if_neg hnl,if_neg (by rw[FM];exact h)];simp)
theorem b3z: ∀ args os,Hu args os=true->Zf Z4 os.length (Zj os.length ZP fun r=>r=Gp args os) ZR [] (ZN EK args os):=by
 intro args os h
 unfold Hu at h
 split at h
 ·rename_i l s c
  simp only[Bool.and_eq_true,decide_eq_true_eq]at h
  obtain⟨hl,h1⟩:=h
  obtain⟨l,rfl⟩:=XX hl
  rw[Enc.dec_enc]at h1
  have ev:Gp [.pv (enc l),.pv (.str s),.pv (.int .i64 c)] []=Pw (Sm l ⟨s⟩ c) 0 []:=by
   show Pw (Sm (dec (enc l:PV)) ⟨s⟩ c) 0 []=_
   rw[Enc.dec_enc]
  rw[ev]
  exact b5f l s c h1
 ·cases h
theorem UE.rfl(ps:List PV):UE ps ps:=⟨Eq.refl _,fun j x y hx hy Φ v h=>by rw[hx]at hy;cases hy;exact h⟩
theorem LR.frz_av(r:LR):(frz (r.av 0)).run (Yr [r.ob])=some (enc r.view,[.obj (.row true 80 2 (r.ts.map enc))]):=by
 have:(PV.agg [.int .i64 r.k,.sl 2 false (List.drop 0 (List.take r.w (r.ts.map enc)))])=enc r.view:=by
  rw[List.drop_zero,<- List.map_take];rfl
 rw[<- this]
 simp[frz,Uf,HM.bind,HM.run,Yr,LR.av,LR.ob]
theorem b2n{P:Program}{f:Nat}(h:ZA P f Hu Gp):Zr P f (fun x:Lin×Str×Int×Unit=>decide (x.1.t.length<=1000000)) (fun x:Lin×Str×Int×Unit=>MQ x.1 x.2.1 x.2.2.1):=Zr.of_own h fun a ha=>by
 obtain⟨l,⟨s⟩,c,⟨⟩⟩:=a
 have ha:l.t.length<=1000000:=by simpa using ha
 refine⟨(Sm l ⟨s⟩ c).av 0,[(Sm l ⟨s⟩ c).ob],_,_,?_,?_,LR.frz_av _,?_⟩
 ·show(QV Lin (enc l)&&decide ((dec (enc l:PV):Lin).t.length<=1000000))=true
  rw[YD,Enc.dec_enc,decide_eq_true ha];rfl
 ·show Pw (Sm (dec (enc l:PV)) ⟨s⟩ c) 0 []=_
  rw[Enc.dec_enc];rfl
 ·rw[a5x];exact .refl _
end Go.Pl
namespace Go.Pl
open Go.RowKit
open Enc (enc dec is)
open EncL (encL decL isL)
set_option maxRecDepth 100000
-- IMPOSSIBLE
end Go.Pl
namespace Go.Pl
open Go.RowKit
open Enc (enc dec is)
open EncL (encL decL isL)
end Go.Pl
namespace Go.Pl
open Go.RowKit
open Enc (enc dec is)
open EncL (encL decL isL)
set_option maxRecDepth 100000
end Go.Pl
namespace Go.Pl
open Go.RowKit
open Enc (enc dec is)
open EncL (encL decL isL)
set_option maxRecDepth 100000
end Go.Pl
namespace Go.Pl
open Go.RowKit
open Enc (enc dec is)
open EncL (encL decL isL)
structure Cert2 where
 a:Cert
 b:Cert
instance:Enc Cert2 where
 sz:=10
 enc x:=.agg (PV.cells (enc x.a)++PV.cells (enc x.b))
 dec | .agg [a,b,c,d,e,f,g,h,i,j]=>⟨dec (.agg [a,b,c,d,e]),dec (.agg [f,g,h,i,j])⟩|_=>⟨.mk 0 [] ⟨0,[]⟩ [],.mk 0 [] ⟨0,[]⟩ []⟩
 is | .agg [a,b,c,d,e,f,g,h,i,j]=>is Cert (.agg [a,b,c,d,e])&&is Cert (.agg [f,g,h,i,j])|_=>false
 is_enc v:=by
  obtain⟨⟨k,m,l,ks⟩,⟨k',m',l',ks'⟩⟩:=v
  rw[ZO,ZO]
  show(is Cert (.agg [enc k,enc m,enc l.k,enc l.t,enc ks])&&is Cert (.agg [enc k',enc m',enc l'.k,enc l'.t,enc ks']))=true
  rw[<- ZO,<- ZO,Enc.is_enc,Enc.is_enc];rfl
 dec_enc v:=by
  obtain⟨⟨k,m,l,ks⟩,⟨k',m',l',ks'⟩⟩:=v
  rw[ZO,ZO]
  show(⟨dec (.agg [enc k,enc m,enc l.k,enc l.t,enc ks]),dec (.agg [enc k',enc m',enc l'.k,enc l'.t,enc ks'])⟩:Cert2)=_
  rw[<- ZO,<- ZO,Enc.dec_enc,Enc.dec_enc]
 sub p h:=by
  cases p with
  | agg xs=>
   match xs,h with
   | [a,b,c,d,e,f,g,h',i,j],h=>
    simp only[Bool.and_eq_true]at h
    have h1:=Enc.sub (α:=Cert) _ h.1
    have h2:=Enc.sub (α:=Cert) _ h.2
    exact Kl.agg (h1.1.append h2.1)
  | _=>cases h
theorem d8h{l:Lin}{n:Int}(h:GI l n=true)(hl:Yb l=true):ZG l=true:=by
 simp only[GI,Bool.and_eq_true,List.all_eq_true,decide_eq_true_eq]at h
 simp only[ZG,hl,Bool.true_and,List.all_eq_true,decide_eq_true_eq]
 intro t ht
 have:=h.1 t ht
 omega
mutual
theorem c7z: ∀ (c:Cert) (n:Int),n<=12->Xe c n=true->Y8 c=true->1<=n∧(ZL c:Int)<=n∧1<=Yj c∧Yj c<=n∧Kh c=true
 | .mk k m l ks,n,hn,h,ho=>by
  simp only[Xe,Bool.and_eq_true,Bool.not_eq_true',decide_eq_false_iff_not]at h
  obtain⟨h1,h2,h3,h4,h5⟩:=h
  simp only[Y8,Bool.and_eq_true,decide_eq_true_eq]at ho
  obtain⟨⟨⟨o1,o2⟩,o3⟩,o4⟩:=ho
  obtain⟨a1,a2,a3,a4⟩:=Et ks n 1 (by omega) hn (by omega) (by omega) h5 o4
  rw[ZL,Yj]
  refine⟨by omega,by omega,by omega,by omega,?_⟩
  simp only[Kh,d8h h2 o2,a4,decide_eq_true o1,decide_eq_true o3]
  rfl
theorem Et: ∀ (cs:List Cert) (n s:Int),1<=n->n<=12->1<=s->s<=100 - n->WM cs n=true->Ug cs=true->(XN cs:Int)<=n - 1∧s<=Y4 s cs∧Y4 s cs<=s+n - 1∧Af cs=true
 | [],n,s,h1,h2,h3,h4,_,_=>by
  rw[XN,Y4]
  exact⟨by omega,by omega,by omega,rfl⟩
 | c::cs,n,s,h1,h2,h3,h4,h,ho=>by
  simp only[WM,Bool.and_eq_true]at h
  simp only[Ug,Bool.and_eq_true]at ho
  rw[Uo (by omega) (by omega)]at h
  obtain⟨b1,b2,b3,b4,b5⟩:=c7z c (n - 1) (by omega) h.1 ho.1
  have h':=h.2
  rw[Uo (by omega) (by omega)]at h'
  obtain⟨a1,a2,a3,a4⟩:=Et cs (n - Yj c) (s+Yj c) (by omega) (by omega) (by omega) (by omega) h' ho.2
  rw[XN,Y4,Uo (by omega) (by omega)]
  refine⟨by omega,by omega,by omega,?_⟩
  simp only[Af,b5,a4]
  rfl
end
end Go.Pl
namespace Go.Pl
open Go.RowKit
open Enc (enc dec is)
open EncL (encL decL isL)
set_option maxRecDepth 100000
end Go.Pl
namespace Go.Pl
open Go.RowKit
open Enc (enc dec is)
open EncL (encL decL isL)
end Go.Pl
namespace Go.Pl
open Go.RowKit
theorem c7m(s:Str)(c:Int)(x:List UInt8): ∀ m:List (Str×Int),KO (Qt s c m) x=if s.s=x then c else KO m x
 | []=>by
  rw[Qt]
  simp only[KO,List.find?_cons]
  by_cases h:s.s=x
  ·simp[h]
  ·have:(s.s==x)=false:=by simpa using h
   simp[this,h]
 | p::m=>by
  have ih:=c7m s c x m
  rw[Qt]
  split
  ·rename_i he
   simp only[KO,List.find?_cons]
   by_cases h:s.s=x
   ·simp[h]
   ·have h1:(s.s==x)=false:=by simpa using h
    have h2:(p.1.s==x)=false:=by rw[<- he];exact h1
    simp[h1,h2,h]
  ·rename_i he
   simp only[KO,List.find?_cons]at ih ⊢
   by_cases h:p.1.s=x
   ·have h2 : ¬ s.s=x:=fun e=>he (e.trans h.symm)
    simp[h,h2]
   ·have h2:(p.1.s==x)=false:=by simpa using h
    rw[h2]
    exact ih
def wM(m:List (Str×Int)):Prop:= ∀ s,V9 (KO m s)=KO m s
theorem add_zero: ∀ (x:List Coef) (m:List (Str×Int)),wM m-> ∀ s,KO (WW 0 x m) s=KO m s
 | [],m,h,s=>rfl
 | t::x,m,h,s=>by
  have e : ∀ y,KO (Qt t.v (IntKind.i64.wrap (KO m t.v.s+IntKind.i64.wrap (0*t.c))) m) y=KO m y:=fun y=>by
   rw[c7m]
   split
   ·rename_i hy
    have:IntKind.i64.wrap (0*t.c)=0:=by rw[Int.zero_mul];rfl
    rw[this,Int.add_zero,<- hy]
    exact h t.v.s
   ·rfl
  rw[WW,add_zero x _ (fun y=>by rw[e];exact h y),e]
end Go.Pl
namespace Go.Pl
open Go.RowKit
open Enc (enc dec is)
open EncL (encL decL isL)
end Go.Pl
namespace Go.Pl
open Go.RowKit
open Enc (enc dec is)
open EncL (encL decL isL)
set_option maxRecDepth 100000
end Go.Pl
namespace Go.Pl
open Go.RowKit
open Enc (enc dec is)
open EncL (encL decL isL)
set_option maxRecDepth 100000
end Go.Pl
namespace Go.Pl
open Go.RowKit
open Enc (enc dec is)
open EncL (encL decL isL)
theorem one_of{α:Type}: ∀ {ks:List α},ks.length=1-> ∃ a,ks=[a]
 | [a],_=>⟨a,rfl⟩
end Go.Pl
namespace Go.Pl
open Go.RowKit
open Enc (enc dec is)
open EncL (encL decL isL)
set_option maxRecDepth 100000
end Go.Pl
namespace Go.Pl
open Go.RowKit
open Enc (enc dec is)
open EncL (encL decL isL)
theorem sub_zero(b:Bool):Sub (.tup [d8y,.bool b]) (enc (((⟨0,[]⟩:Lin),b):Lin×Bool)):=Sub.pair (Sub.agg_cons (.refl _) (Sub.agg_cons (.sl0 _ _ _) Sub.agg_nil)) (.refl _)
structure RdS where
 s:List UInt8
 n:Int
 m:List (Str×Int)
end Go.Pl
namespace Go.Pl
open Go.RowKit
end Go.Pl
namespace Go.Pl
open Go.RowKit
open Enc (enc dec is)
open EncL (encL decL isL)
def OY(x y:Coef):Int:=if Lib.compareBytes x.v.s y.v.s≠0 then Lib.compareBytes x.v.s y.v.s else Su x.c y.c
def C8:List Coef->List Coef->Int
 | [],[]=>0
 | [],_::_=> -1
 | _::_,[]=>1
 | x::l,y::m=>if OY x y≠0 then OY x y else C8 l m
def FE(a b:Lin):Int:=if C8 a.t b.t≠0 then C8 a.t b.t else Su a.k b.k
end Go.Pl
namespace Go.Pl
open Go.RowKit
open Enc (enc dec is)
open EncL (encL decL isL)
set_option maxRecDepth 100000
end Go.Pl
namespace Go.Pl
open Go.RowKit
open Enc (enc dec is)
open EncL (encL decL isL)
set_option maxRecDepth 100000
-- IMPOSSIBLE
end Go.Pl
namespace Go.Pl
open Go.RowKit
open Enc (enc dec is)
open EncL (encL decL isL)
end Go.Pl
namespace Go.Pl
open Go.RowKit
open Enc (enc dec is)
open EncL (encL decL isL)
set_option maxRecDepth 100000
end Go.Pl
namespace Go.Pl
open Go.RowKit
open Enc (enc dec is)
open EncL (encL decL isL)
set_option maxRecDepth 100000
end Go.Pl
namespace Go.Pl
open Go.RowKit
open Enc (enc dec is)
open EncL (encL decL isL)
set_option maxRecDepth 100000
end Go.Pl
namespace Go.Pl
open Go.RowKit
open Enc (enc dec is)
open EncL (encL decL isL)
end Go.Pl
namespace Go.Pl
open Go.RowKit
open Enc (enc dec is)
open EncL (encL decL isL)
set_option maxRecDepth 100000
end Go.Pl
namespace Go.Pl
open Go.RowKit
open Enc (enc dec is)
open EncL (encL decL isL)
end Go.Pl
namespace Go.Pl
open Go.RowKit
open Enc (enc dec is)
open EncL (encL decL isL)
set_option maxRecDepth 100000
end Go.Pl
namespace Go.Pl
open Go.RowKit
open Enc (enc dec is)
open EncL (encL decL isL)
end Go.Pl
namespace Go.Pl
open Go.RowKit
open Enc (enc dec is)
open EncL (encL decL isL)
set_option maxRecDepth 100000
end Go.Pl
namespace Go.Pl
open Go.RowKit
end Go.Pl
namespace Go.Pl
open Go.RowKit
open Enc (enc dec is)
open EncL (encL decL isL)
structure U64 where
 n:Int
 deriving DecidableEq
instance:Enc U64 where
 sz:=1
 enc x:=.int .u64 x.n
 dec | .int _ n=>⟨n⟩|_=>⟨0⟩
 is | .int .u64 _=>true|_=>false
 is_enc _:=rfl
 dec_enc _:=rfl
 sub p h:=by
  cases p with
  | int k n=>cases k <;> first|exact .refl _|cases h
  | _=>cases h
def byT(t:Bool)(x:Nat):UInt8:=if t=true then 255 - UInt8.ofNat x else UInt8.ofNat x
def VT(t:Bool)(m:Nat):Nat->List UInt8
 | 0=>[]
 | k+1=>byT t (m / 256 ^ k)::VT t m k
def Kj(m:Nat):Nat->Nat->Nat
 | 0,k=>k
 | f+1,k=>if k<8∧0<m / 256 ^ k then Kj m f (k+1)else k
def Yl(m:Nat):Nat:=Kj m 7 1
def Xd(n:Int):Nat:=((n - 120) % 18446744073709551616).toNat
def Xf(n:Int):Nat:=((-121 - n) % 18446744073709551616).toNat
def encI(n:Int):List UInt8:=
 if n ≥ 120 then UInt8.ofNat (247+Yl (Xd n))::VT false (Xd n) (Yl (Xd n))
 else if n < -120 then UInt8.ofNat (8 - Yl (Xf n))::VT true (Xf n) (Yl (Xf n))
 else [UInt8.ofNat (n+128).toNat]
def encS(s:List UInt8):List UInt8:=encI s.length++s
def UJ(t:Coef):List UInt8:=encS t.v.s++encI t.c
def ZV(l:Lin):List UInt8:=encI l.k++(encI l.t.length++l.t.flatMap UJ)
def Za(p:PV):List UInt8:=dec p
theorem Zz(x:List UInt8):Za (enc x)=x:=Enc.dec_enc x
abbrev Aq(xs:List PV):Bool:=QV (List UInt8) (.sl 1 false xs)
def Jh(tb fs ft:Nat):List AV->List AObj->Bool
 | [.row 0 q 0 q',.pv (.int .u64 m),.pv (.int .i64 k),.pv (.fn f)],[.row false ty 1 xs]=>ty==tb&&Aq xs&&xs.length==q&&q'==q&&decide (0<=m)&&decide (m<18446744073709551616)&&decide (0<=k)&&decide (k<=8)&&(f==fs||f==ft)&&decide (q<=10000000)
 | _,_=>false
def Fx(ft:Nat):List AV->List AObj->AV×List AObj×List AObj
 | [.row _ q _ _,.pv (.int _ m),.pv (.int _ k),.pv (.fn f)],[.row fz ty sz xs]=>(.row 0 (q+k.toNat) 0 (q+k.toNat),[.row fz ty sz (xs++(VT (f==ft) m.toNat k.toNat).map enc)],[])
 | _,_=>(.pv .nilp,[],[])
def Vl(tb:Nat):List AV->List AObj->Bool
 | [.row 0 q 0 q',.pv (.int .i64 n)],[.row false ty 1 xs]=>ty==tb&&Aq xs&&xs.length==q&&q'==q&&decide (q<=9000000)
 | _,_=>false
def HV:List AV->List AObj->AV×List AObj×List AObj
 | [.row _ q _ _,.pv (.int _ n)],[.row fz ty sz xs]=>(.row 0 (q+(encI n).length) 0 (q+(encI n).length),[.row fz ty sz (xs++(encI n).map enc)],[])
 | _,_=>(.pv .nilp,[],[])
def VQ:List AV->List AObj->Bool
 | [.pv p],[]=>QV (List UInt8) p&&decide ((Za p).length<=9000000)
 | _,_=>false
def Bb(ty:Nat):List AV->List AObj->AV×List AObj×List AObj
 | [.pv p],_=>(.row 0 (Za p).length 0 (Za p).length,[],[.row false ty 1 ((Za p).map enc)])
 | _,_=>(.pv .nilp,[],[])
def DI(tb:Nat):List AV->List AObj->Bool
 | [.row 0 q 0 q',.pv (.str s)],[.row false ty 1 xs]=>ty==tb&&Aq xs&&xs.length==q&&q'==q&&decide (q<=9000000)&&decide (s.length<=9000000)
 | _,_=>false
def Oe:List AV->List AObj->AV×List AObj×List AObj
 | [.row _ q _ _,.pv (.str s)],[.row fz ty sz xs]=>(.row 0 (q+(encS s).length) 0 (q+(encS s).length),[.row fz ty sz (xs++(encS s).map enc)],[])
 | _,_=>(.pv .nilp,[],[])
def Wy:List AV->List AObj->Bool
 | [.pv p,.pv (.int .i64 n)],[]=>QV (List UInt8) p&&decide ((Za p).length<=9000000)
 | _,_=>false
def WC(ty:Nat):List AV->List AObj->AV×List AObj×List AObj
 | [.pv p,.pv (.int _ n)],_=>(.row 0 (Za p++encI n).length 0 (Za p++encI n).length,[],[.row false ty 1 ((Za p++encI n).map enc)])
 | _,_=>(.pv .nilp,[],[])
def Wp(n:Int):Int×U64:=if n ≥ -120∧n<=119 then(0,⟨0⟩)else if n<0 then(Yl (Xf n),⟨Xf n⟩)else(Yl (Xd n),⟨Xd n⟩)
def JH(t:Bool)(c:UInt8):UInt8:=if t=true then 255 - c else c
def WF(t:Bool):Nat->List UInt8->Nat
 | m,[]=>m
 | m,c::r=>WF t (m*256+(JH t c).toNat) r
def X9(c:UInt8):Bool:=decide (8<=c.toNat)&&decide (c.toNat<=247)
def YB(c:UInt8):Bool:=decide (c.toNat<=7)
def Ut(c:UInt8):Nat:=if YB c=true then 8 - c.toNat else c.toNat - 247
def Yh:List UInt8->Option (Int×List UInt8)
 | []=>none
 | c::r=>
  if X9 c=true then some ((c.toNat:Int) - 128,r)
  else if r.length<Ut c then none
  else if 1<Ut c∧(JH (YB c) (r.headD 0))=0 then none
  else
   let m:=WF (YB c) 0 (r.take (Ut c))
   if m<=9223372036854775687 then some (if YB c=true then -121 - (m:Int)else(m:Int)+120,r.drop (Ut c))else none
def w3:Option (Int×List UInt8)->R3 Int (List UInt8) Bool
 | none=>⟨0,[],false⟩
 | some (n,r)=>⟨n,r,true⟩
def Zc(lo hi e:Int)(x:List UInt8)(err:Int):Int×List UInt8×Int:=
 if err≠0 then(0,x,err)else match Yh x with
 | none=>(0,x,4)
 | some (n,r)=>if n<lo∨n>hi then(0,x,e)else(n,r,0)
def VJ(most:Int)(x:List UInt8)(err:Int):List UInt8×List UInt8×Int:=
 let a:=Zc 0 most 3 x err
 if a.2.2≠0 then([],a.2.1,a.2.2)else if a.1>a.2.1.length then([],a.2.1,4)else(a.2.1.take a.1.toNat,a.2.1.drop a.1.toNat,0)
def Zh(most:Int)(x:List UInt8)(err:Int):List UInt8×List UInt8×Int:=
 if err≠0 then([],x,err)else
 let a:=VJ most x 0
 if a.2.2≠0 then([],x,a.2.2)else a
def Ym:Nat->List UInt8->Int->List Coef×List UInt8×Int
 | 0,x,e=>([],x,e)
 | n+1,x,e=>if e≠0 then([],x,e)else
  let v:=Zh 30 x 0
  let c:=Zc (-1000000) 1000000 2 v.2.1 v.2.2
  let r:=Ym n c.2.1 c.2.2
  (⟨⟨v.1⟩,c.1⟩::r.1,r.2)
def Zp(x:List UInt8)(err:Int):Lin×List UInt8×Int:=
 if err≠0 then(⟨0,[]⟩,x,err)else
 let a:=Zc (-1000000) 1000000 2 x 0
 let b:=Zc 0 12 3 a.2.1 a.2.2
 let c:=Ym b.1.toNat b.2.1 b.2.2
 let e:=if c.2.2=0∧Zm ⟨a.1,c.1⟩=false then 4 else c.2.2
 if e=0 then(⟨a.1,c.1⟩,c.2.1,0)else(⟨0,[]⟩,x,e)
abbrev sB(x:List UInt8)(e:Int):AObj:=.box [.pv (.sl 1 false (x.map enc)),.pv (.int .i64 e)]
abbrev Va(n:Int):AObj:=.box [.pv (.int .i64 n)]
def Nf:AV×List AObj×List AObj:=(.pv .nilp,[],[])
def XL(p:PV):Bool:=QV (List UInt8) p&&decide ((Za p).length<=9000000)
def Ap(r:Int×List UInt8×Int)(os:List AObj):AV×List AObj×List AObj:=(.pv (.int .i64 r.1),sB r.2.1 r.2.2::os,[])
def RY(r:List UInt8×List UInt8×Int)(os:List AObj):AV×List AObj×List AObj:=(.pv (.str r.1),sB r.2.1 r.2.2::os,[])
def Ve:List AV->List AObj->Bool
 | [.ptr 0 0,.pv (.int .i64 e)],[.box [.pv p,.pv (.int .i64 err)]]=>QV (List UInt8) p
 | _,_=>false
def J4:List AV->List AObj->AV×List AObj×List AObj
 | [_,.pv (.int .i64 e)],[.box [.pv p,.pv (.int .i64 err)]]=>(.tup [],[sB (Za p) (if err=0 then e else err)],[])
 | _,_=>Nf
def YA:List AV->List AObj->Bool
 | [.ptr 0 0,.pv (.int .i64 lo),.pv (.int .i64 hi),.pv (.int .i64 e)],[.box [.pv p,.pv (.int .i64 err)]]=>XL p
 | _,_=>false
def WN:List AV->List AObj->AV×List AObj×List AObj
 | [_,.pv (.int .i64 lo),.pv (.int .i64 hi),.pv (.int .i64 e)],[.box [.pv p,.pv (.int .i64 err)]]=>Ap (Zc lo hi e (Za p) err) []
 | _,_=>Nf
def JX:List AV->List AObj->Bool
 | [.ptr 0 0,.ptr 1 0,.ptr 2 0],[.box [.pv p,.pv (.int .i64 err)],.box [.pv (.int .i64 lo)],.box [.pv (.int .i64 hi)]]=>XL p
 | _,_=>false
def QI:List AV->List AObj->AV×List AObj×List AObj
 | _,[.box [.pv p,.pv (.int .i64 err)],.box [.pv (.int .i64 lo)],.box [.pv (.int .i64 hi)]]=>Ap (Zc lo hi 2 (Za p) err) [Va lo,Va hi]
 | _,_=>Nf
def JI(g:Nat):List AV->List AObj->Bool
 | [.ptr 0 0,.fn g' [] [.ptr 1 0,.ptr 2 0]],[.box [.pv p,.pv (.int .i64 err)],.box [.pv (.int .i64 lo)],.box [.pv (.int .i64 hi)]]=>g'==g&&XL p
 | _,_=>false
def Z5:List AV->List AObj->Bool
 | [.ptr 0 0,.pv (.int .i64 lo),.pv (.int .i64 hi)],[.box [.pv p,.pv (.int .i64 err)]]=>XL p
 | _,_=>false
def VL:List AV->List AObj->AV×List AObj×List AObj
 | [_,.pv (.int .i64 lo),.pv (.int .i64 hi)],[.box [.pv p,.pv (.int .i64 err)]]=>Ap (Zc lo hi 2 (Za p) err) []
 | _,_=>Nf
def YF:List AV->List AObj->Bool
 | [.ptr 0 0,.pv (.int .i64 most)],[.box [.pv p,.pv (.int .i64 err)]]=>XL p
 | _,_=>false
def DU:List AV->List AObj->AV×List AObj×List AObj
 | [_,.pv (.int .i64 most)],[.box [.pv p,.pv (.int .i64 err)]]=>RY (VJ most (Za p) err) []
 | _,_=>Nf
def Ud:List AV->List AObj->AV×List AObj×List AObj
 | [_,.pv (.int .i64 most)],[.box [.pv p,.pv (.int .i64 err)]]=>RY (Zh most (Za p) err) []
 | _,_=>Nf
def JK:List AV->List AObj->Bool
 | [.ptr 0 0,.ptr 1 0],[.box [.pv p,.pv (.int .i64 err)],.box [.pv (.int .i64 most)]]=>XL p
 | _,_=>false
def TG:List AV->List AObj->AV×List AObj×List AObj
 | _,[.box [.pv p,.pv (.int .i64 err)],.box [.pv (.int .i64 most)]]=>RY (VJ most (Za p) err) [Va most]
 | _,_=>Nf
def JO(g:Nat):List AV->List AObj->Bool
 | [.ptr 0 0,.fn g' [] [.ptr 1 0]],[.box [.pv p,.pv (.int .i64 err)],.box [.pv (.int .i64 most)]]=>g'==g&&XL p
 | _,_=>false
def CY:List AV->List AObj->AV×List AObj×List AObj
 | _,[.box [.pv p,.pv (.int .i64 err)],.box [.pv (.int .i64 most)]]=>RY (Zh most (Za p) err) [Va most]
 | _,_=>Nf
def Kv:List AV->List AObj->Bool
 | [.ptr 0 0,.pv q,.pv (.int .i64 e)],[.box [.pv p,.pv (.int .i64 err)]]=>QV (List UInt8) q&&QV (List UInt8) p
 | _,_=>false
def Gh:List AV->List AObj->AV×List AObj×List AObj
 | [_,.pv q,.pv (.int .i64 e)],_=>(.tup [],[sB (Za q) e],[])
 | _,_=>Nf
def Ql:List AV->List AObj->Bool
 | [.ptr 0 0,.pv (.int .i64 most)],[.box [.pv p,.pv (.int .i64 err)]]=>XL p
 | _,_=>false
def Hq:List AV->List AObj->AV×List AObj×List AObj
 | [_,.pv (.int .i64 most)],[.box [.pv p,.pv (.int .i64 err)]]=>Ap (Zc 0 most 3 (Za p) err) []
 | _,_=>Nf
def ZZ:List AV->List AObj->Bool
 | [.ptr 0 0],[.box [.pv p,.pv (.int .i64 err)]]=>XL p
 | [.pv .nilp],[]=>true
 | _,_=>false
def Js:List AV->List AObj->AV×List AObj×List AObj
 | [.ptr 0 0],[.box [.pv p,.pv (.int .i64 err)]]=>(.pv (enc (Zp (Za p) err).1),[sB (Zp (Za p) err).2.1 (Zp (Za p) err).2.2],[])
 | [.pv .nilp],[]=>(.pv (enc (⟨0,[]⟩:Lin)),[],[])
 | _,_=>Nf
def QF(tb:Nat):List AV->List AObj->Bool
 | [.pv p,.pv (.int .i64 n)],[]=>QV (List UInt8) p&&decide ((Za p).length<=9000000)
 | [.row 0 q 0 q',.pv (.int .i64 n)],[.row fz ty 1 xs]=>ty==tb&&Aq xs&&xs.length==q&&q'==q&&decide (q<=9000000)
 | _,_=>false
def JM(tb:Nat):List AV->List AObj->AV×List AObj×List AObj
 | [.pv p,.pv (.int _ n)],[]=>(.row 0 (Za p++encI n).length 0 (Za p++encI n).length,[],[.row false tb 1 ((Za p++encI n).map enc)])
 | [.row _ q _ _,.pv (.int _ n)],[.row fz ty sz xs]=>(.row 1 (Za (.sl 1 false xs)++encI n).length 0 (Za (.sl 1 false xs)++encI n).length,[.row true ty 1 xs],[.row false tb 1 ((Za (.sl 1 false xs)++encI n).map enc)])
 | _,_=>Nf
end Go.Pl
namespace Go.Pl
open Go.RowKit
open Enc (enc dec is)
open EncL (encL decL isL)
set_option maxRecDepth 100000
end Go.Pl
namespace Go.Pl
open Go.RowKit
theorem GJ{a b:UInt8}(h:a.toNat=b.toNat):a=b:=UInt8.toNat_inj.mp h
theorem b0y(c:UInt8):(255 - (255 - c):UInt8)=c:=by
 apply GJ
 have:=UInt8.toNat_lt c
 rw[UInt8.toNat_sub,UInt8.toNat_sub]
 simp
 omega
theorem d0n(t:Bool)(c:UInt8)(m:Nat):byT t (m*256+(JH t c).toNat)=c:=by
 have h:UInt8.ofNat (m*256+(JH t c).toNat)=JH t c:=by
  apply GJ
  have:=UInt8.toNat_lt (JH t c)
  rw[UInt8.toNat_ofNat']
  omega
 unfold byT
 rw[h]
 unfold JH
 cases t
 ·rfl
 ·exact b0y _
theorem RJ(t:Bool): ∀ (r:List UInt8) (m:Nat),WF t m r=m*256 ^ r.length+WF t 0 r
 | [],m=>by simp[WF]
 | c::r,m=>by
  rw[WF,WF,RJ t r (m*256+(JH t c).toNat),RJ t r (0*256+(JH t c).toNat),List.length_cons,Nat.pow_succ,Nat.add_mul,Nat.mul_assoc,Nat.mul_comm 256]
  simp only[Nat.zero_mul,Nat.zero_add]
  omega
theorem Bn(t:Bool)(c:UInt8)(r:List UInt8):WF t 0 (c::r)=(JH t c).toNat*256 ^ r.length+WF t 0 r:=by
 rw[WF,RJ];simp
theorem Tm(t:Bool): ∀ r:List UInt8,WF t 0 r<256 ^ r.length
 | []=>by simp[WF]
 | c::r=>by
  rw[Bn,List.length_cons,Nat.pow_succ]
  have h1:=Tm t r
  have h2:(JH t c).toNat+1<=256:=UInt8.toNat_lt _
  have h3:=Nat.mul_le_mul_right (256 ^ r.length) h2
  rw[Nat.add_mul]at h3
  omega
theorem Ms(t:Bool): ∀ (r:List UInt8) (m:Nat),VT t (m*256 ^ r.length+WF t 0 r) r.length=r
 | [],m=>rfl
 | c::r,m=>by
  have h1:=Tm t r
  have hp:0<256 ^ r.length:=Nat.pow_pos (by omega)
  have e:m*256 ^ (r.length+1)+WF t 0 (c::r)=(m*256+(JH t c).toNat)*256 ^ r.length+WF t 0 r:=by
   rw[Bn,Nat.pow_succ,Nat.add_mul,Nat.mul_assoc,Nat.mul_comm 256]
   omega
  rw[List.length_cons,e,VT,Ms t r (m*256+(JH t c).toNat)]
  rw[Nat.mul_comm _ (256 ^ r.length),Nat.mul_add_div hp,Nat.div_eq_of_lt h1,Nat.add_zero,d0n]
theorem c8e(t:Bool)(r:List UInt8):VT t (WF t 0 r) r.length=r:=by
 have:=Ms t r 0
 simpa using this
theorem b8t{a b:Nat}(h:a<=b):256 ^ a<=256 ^ b:=Nat.pow_le_pow_right (by omega) h
theorem d1o(M:Nat): ∀ (f k j:Nat),k+f=8->k<=j->j<=8->(j=k∨256 ^ (j - 1)<=M)->(j=8∨M<256 ^ j)->Kj M f k=j:=by
 intro f
 induction f with
 | zero=>intro k j h h1 h2 h3 h4;rw[Kj];omega
 | succ f ih=>
  intro k j h h1 h2 h3 h4
  have hp:0<256 ^ k:=Nat.pow_pos (by omega)
  rw[Kj]
  by_cases e:j=k
  ·subst e
   rw[if_neg]
   rintro⟨_,hd⟩
   rcases h4 with h4|h4
   ·omega
   ·rw[Nat.div_eq_of_lt h4]at hd;omega
  ·have h5:256 ^ (j - 1)<=M:=by rcases h3 with h3|h3;omega;exact h3
   have h6:256 ^ k<=M:=Nat.le_trans (b8t (by omega)) h5
   rw[if_pos ⟨by omega,Nat.div_pos h6 hp⟩]
   exact ih (k+1) j (by omega) (by omega) h2 (.inr h5) h4
theorem d0d{M j:Nat}(h1:1<=j)(h2:j<=8)(h3:j=1∨256 ^ (j - 1)<=M)(h4:j=8∨M<256 ^ j):Yl M=j:=d1o M 7 1 j rfl h1 h2 h3 h4
theorem b4l(M:Nat): ∀ (f k:Nat),k+f=8->k<=Kj M f k∧Kj M f k<=8∧(Kj M f k=k∨256 ^ (Kj M f k - 1)<=M)∧(Kj M f k=8∨M<256 ^ Kj M f k):=by
 intro f
 induction f with
 | zero=>intro k h;rw[Kj];exact⟨Nat.le_refl _,by omega,.inl rfl,.inl (by omega)⟩
 | succ f ih=>
  intro k h
  have hp:0<256 ^ k:=Nat.pow_pos (by omega)
  rw[Kj]
  split
  ·rename_i hc
   obtain⟨a,b,c,d⟩:=ih (k+1) (by omega)
   refine⟨by omega,b,.inr ?_,d⟩
   rcases c with c|c
   ·rw[c,Nat.add_sub_cancel]
    rcases Nat.lt_or_ge M (256 ^ k)with e|e
    ·rw[Nat.div_eq_of_lt e]at hc;omega
    ·exact e
   ·exact c
  ·rename_i hc
   refine⟨Nat.le_refl _,by omega,.inl rfl,.inr ?_⟩
   rcases Nat.lt_or_ge M (256 ^ k)with e|e
   ·exact e
   ·exact absurd ⟨by omega,Nat.div_pos e hp⟩ hc
theorem b1r(M:Nat):1<=Yl M∧Yl M<=8∧(Yl M=1∨256 ^ (Yl M - 1)<=M)∧(Yl M=8∨M<256 ^ Yl M):=b4l M 7 1 rfl
theorem a9r(t:Bool)(r:List UInt8)(k:Nat)(hk:r.length=k)(h1:1<=k)(h8:k<=8):Yl (WF t 0 r)=k ↔ ¬ (1<k∧JH t (r.headD 0)=0):=by
 have hlt:=Tm t r
 cases r with
 | nil=>simp at hk;omega
 | cons c r=>
  have hr:r.length=k - 1:=by simp at hk;omega
  have hb:WF t 0 (c::r)=(JH t c).toNat*256 ^ (k - 1)+WF t 0 r:=by rw[Bn,hr]
  have hr':WF t 0 r<256 ^ (k - 1):=by have:=Tm t r;rwa [hr]at this
  rw[hk]at hlt
  constructor
  ·rintro hw ⟨h2,h3⟩
   have h3:(JH t c).toNat=0:=by rw[show JH t c=0 from h3];rfl
   rw[h3,Nat.zero_mul,Nat.zero_add]at hb
   have:=(b1r (WF t 0 (c::r))).2.2.1
   rw[hw]at this
   rcases this with h|h <;> omega
  ·intro hc
   refine d0d h1 h8 ?_ (.inr hlt)
   by_cases e:k=1
   ·exact .inl e
   ·right
    have h3:(JH t c).toNat≠0:=by
     intro h
     exact hc ⟨by omega,GJ h⟩
    have h4:1*256 ^ (k - 1)<=(JH t c).toNat*256 ^ (k - 1):=Nat.mul_le_mul_right _ (by omega)
    omega
theorem SV(c:UInt8)(h:X9 c=false):1<=Ut c∧Ut c<=8:=by
 have:=UInt8.toNat_lt c
 unfold X9 at h
 unfold Ut YB
 by_cases h7:c.toNat<=7
 ·rw[if_pos (decide_eq_true h7)];omega
 ·rw[if_neg (by simpa using h7)]
  have : ¬ c.toNat<=247:=by
   intro e
   rw[decide_eq_true (show 8<=c.toNat by omega),decide_eq_true e]at h
   cases h
  omega
theorem UR(c:UInt8)(r:List UInt8):Yh (c::r)=if X9 c=true then some ((c.toNat:Int) - 128,r)
  else if r.length<Ut c then none
  else if 1<Ut c∧(JH (YB c) (r.headD 0))=0 then none
  else if WF (YB c) 0 (r.take (Ut c))<=9223372036854775687 then some (if YB c=true then -121 - (WF (YB c) 0 (r.take (Ut c)):Int)else(WF (YB c) 0 (r.take (Ut c)):Int)+120,r.drop (Ut c))else none:=rfl
theorem b5o{n:Int}(h1 : -120<=n)(h2:n<120):encI n=[UInt8.ofNat (n+128).toNat]:=by unfold encI;rw[if_neg (by omega),if_neg (by omega)]
theorem c8t{m:Nat}(h:m<=9223372036854775687):Xd ((m:Int)+120)=m:=by unfold Xd;omega
theorem d1j{m:Nat}(h:m<=9223372036854775687):Xf (-121 - (m:Int))=m:=by unfold Xf;omega
theorem Mx{m:Nat}(h:m<=9223372036854775687):encI ((m:Int)+120)=UInt8.ofNat (247+Yl m)::VT false m (Yl m):=by
 unfold encI;rw[if_pos (by omega),c8t h]
theorem MV{m:Nat}(h:m<=9223372036854775687):encI (-121 - (m:Int))=UInt8.ofNat (8 - Yl m)::VT true m (Yl m):=by
 unfold encI;rw[if_neg (by omega),if_pos (by omega),d1j h]
theorem Ao(x:List UInt8){k:Nat}(h:1<=k):(x.take k).headD 0=x.headD 0:=by
 obtain⟨k,rfl⟩ : ∃ j,k=j+1:=⟨k - 1,by omega⟩
 cases x <;> rfl
theorem b0z(c:UInt8)(hc:X9 c=false)(y:List UInt8)(hy:y.length=Ut c)(hm:WF (YB c) 0 y<=9223372036854775687)(hw : ¬ (1<Ut c∧JH (YB c) (y.headD 0)=0)):
  encI (if YB c=true then -121 - (WF (YB c) 0 y:Int)else(WF (YB c) 0 y:Int)+120)=c::y:=by
 have hk:=SV c hc
 have hl:=UInt8.toNat_lt c
 have he:=(a9r (YB c) y (Ut c) hy hk.1 hk.2).mpr hw
 have hb:=c8e (YB c) y
 have hcc:YB c=decide (c.toNat<=7):=rfl
 unfold X9 at hc
 by_cases h7:c.toNat<=7
 ·have ht:YB c=true:=by rw[hcc];exact decide_eq_true h7
  have hn:Ut c=8 - c.toNat:=by unfold Ut;rw[if_pos ht]
  rw[ht]at hm he hb ⊢
  rw[if_pos rfl,MV hm,he,<- hy,hb,hy,hn]
  exact congrArg (· ::y) (GJ (by rw[UInt8.toNat_ofNat'];omega))
 ·have ht:YB c=false:=by rw[hcc];exact decide_eq_false h7
  have hn:Ut c=c.toNat - 247:=by unfold Ut;rw[if_neg (by rw[ht];simp)]
  have h2 : ¬ c.toNat<=247:=by
   intro e
   rw[decide_eq_true (show 8<=c.toNat by omega),decide_eq_true e]at hc
   cases hc
  rw[ht]at hm he hb ⊢
  rw[if_neg (by simp),Mx hm,he,<- hy,hb,hy,hn]
  exact congrArg (· ::y) (GJ (by rw[UInt8.toNat_ofNat'];omega))
theorem Gm: ∀ {b:List UInt8} {n:Int} {r:List UInt8},Yh b=some (n,r)->b=encI n++r∧ -9223372036854775808<=n∧n<=9223372036854775807
 | [],n,r,h=>by cases h
 | c::x,n,r,h=>by
  have hl:=UInt8.toNat_lt c
  rw[UR]at h
  by_cases h1:X9 c=true
  ·rw[if_pos h1]at h
   obtain⟨rfl,rfl⟩:=Prod.mk.inj (Option.some.inj h)
   unfold X9 at h1
   simp only[Bool.and_eq_true,decide_eq_true_eq]at h1
   rw[b5o (by omega) (by omega)]
   refine⟨?_,by omega,by omega⟩
   show c::x=UInt8.ofNat _::x
   congr 1
   apply GJ
   rw[UInt8.toNat_ofNat']
   omega
  ·rw[if_neg h1]at h
   have h1:X9 c=false:=by simpa using h1
   have hk:=SV c h1
   split at h
   ·cases h
   ·rename_i hlen
    split at h
    ·cases h
    ·rename_i hz
     split at h
     ·rename_i hm
      obtain⟨rfl,rfl⟩:=Prod.mk.inj (Option.some.inj h)
      have e:=b0z c h1 (x.take (Ut c)) (by rw[List.length_take];omega) hm (by rw[Ao _ hk.1];exact hz)
      rw[e]
      refine⟨?_,?_⟩
      ·rw[List.cons_append,List.take_append_drop]
      ·split <;> omega
     ·cases h
end Go.Pl
namespace Go.Pl
open Go.RowKit
open Enc (enc dec is)
open EncL (encL decL isL)
set_option maxRecDepth 100000
def YH:IC:=(Nh [Yt 2 (.mv (PO 0)) 0,Yt 3 (.mv (.c (.sl 0 true []))) 0,Yt 4 (f'' false) 0] (.seq (Nh [Yt 12 (Vi 0) 0,Yt 13 (.len 1 (.t 12)) 0,Yt 14 (P6 .eql (.t 13) (PO 0)) 0] (.cond (.t 14) (Nh [Yt 2 (.mv (PO 0)) 0,Yt 3 (.mv (.c (.sl 0 true []))) 0,Yt 4 (f'' false) 0] .ret) .skip)) (Nh [Yt 15 (Vi 0) 0,Yt 16 (.iaddr 1 (.t 15) (PO 0)) 0,Yt 17 (l'' [(.int .u8)] (.t 16)) 0,Yt 18 (.conv .i64 (.t 17)) 0,Yt 5 (Vi 18) 0] (Nh [Yt 19 (Vi 5) 0,Yt 20 (P6 .sub (.t 19) (PO 247)) 0,Yt 6 (.mv (.c (.fn 104))) 0,Yt 7 (Vi 20) 0,Yt 8 (f'' false) 0] (.seq (.block 0 (Nh [Yt 26 (Vi 5) 0,Yt 27 (P6 .geq (.t 26) (PO 248)) 0,Yt 25 (Vi 27) 0] (.cond (.t 25) .skip (Nh [Yt 29 (Vi 5) 0,Yt 30 (P6 .leq (.t 29) (PO 7)) 0,Yt 28 (Vi 30) 0] (.cond (.t 28) (.reg [Yt 31 (Vi 5) 0,Yt 32 (P6 .sub (PO 8) (.t 31)) 0,Yt 6 (.mv (.c (.fn 105))) 0,Yt 7 (Vi 32) 0,Yt 8 (f'' true) 0] none) (.seq (.reg [Yt 21 (Vi 5) 0,Yt 22 (P6 .sub (.t 21) (PO 128)) 0,Yt 23 (Vi 0) 0,Yt 24 (.slc 1 (.t 23) (some (PO 1)) none none) 0,Yt 2 (Vi 22) 0,Yt 3 (Vi 24) 0,Yt 4 (f'' true) 0] (some [[],[0],[],[2],[1,0],[3,4,0,1,2],[5,0,1,2,3,4]])) .ret)))))) (.seq (Nh [Yt 33 (Vi 0) 0,Yt 34 (.len 1 (.t 33)) 0,Yt 35 (Vi 7) 0,Yt 36 (P6 .add (PO 1) (.t 35)) 0,Yt 37 (P6 .lss (.t 34) (.t 36)) 0] (.cond (.t 37) (Nh [Yt 2 (.mv (PO 0)) 0,Yt 3 (.mv (.c (.sl 0 true []))) 0,Yt 4 (f'' false) 0] .ret) .skip)) (Nh [Yt 9 (.mv (.c (.int .u64 0))) 0] (.seq .skip (.seq (Nh [Yt 38 (Vi 0) 0,Yt 39 (Vi 7) 0,Yt 40 (P6 .add (PO 1) (.t 39)) 0,Yt 41 (.slc 1 (.t 38) (some (PO 1)) (some (.t 40)) none) 0,Yt 42 (.len 1 (.t 41)) 0,Yt 43 (.mv (PO 0)) 0] (.block 1 (.loop [43,42,41,6,7,8,0,9] (Nh [Yt 44 (P6 .lss (.t 43) (.t 42)) 0] (.seq (.cond (.t 44) .skip (.exit 1)) (.seq (.block 2 (Nh [Yt 45 (Vi 43) 0,Yt 46 (.iaddr 1 (.t 41) (.t 43)) 0,Yt 47 (l'' [(.int .u8)] (.t 46)) 0,Yt 10 (Vi 45) 0,Yt 11 (Vi 47) 0] (Nh [Yt 48 (Vi 6) 0,Yt 49 (Vi 11) 0,Yt 50 (.call (.t 48) [(.t 49)]) 0,Yt 11 (Vi 50) 2] (.seq (Nh [Yt 51 (Vi 10) 0,Yt 52 (P6 .eql (.t 51) (PO 0)) 0,Yt 53 (Vi 52) 0,p'' 54 (Vi 11) 0 53,p'' 55 (P6 .eql (.t 54) (.c (.int .u8 0))) 0 53,Yt 56 (.pick (.t 53) (.t 55) (.c (.bool false))) 0,Yt 57 (Vi 56) 0,p'' 58 (Vi 7) 0 57,p'' 59 (P6 .gtr (.t 58) (PO 1)) 0 57,Yt 60 (.pick (.t 57) (.t 59) (.c (.bool false))) 0] (.cond (.t 60) (Nh [Yt 9 (.mv (.c (.int .u64 9223372036854775808))) 0] (.exit 1)) .skip)) (.reg [Yt 61 (Vi 9) 0,Yt 62 (P6 .shl (.t 61) (.c (.int .u64 8))) 0,Yt 63 (Vi 11) 0,Yt 64 (.conv .u64 (.t 63)) 0,Yt 65 (P6 .or (.t 62) (.t 64)) 0,Yt 9 (Vi 65) 0] none))))) (.reg [Yt 66 (P6 .add (.t 43) (PO 1)) 0,Yt 43 (Vi 66) 0] none))))))) (.seq (.block 3 (Nh [Yt 68 (Vi 8) 0,Yt 69 (Vi 68) 0,p'' 70 (Vi 9) 0 69,p'' 71 (P6 .leq (.t 70) (.c (.int .u64 9223372036854775687))) 0 69,Yt 72 (.pick (.t 69) (.t 71) (.c (.bool false))) 0,Yt 67 (Vi 72) 0] (.cond (.t 67) (.seq (.reg [Yt 73 (Vi 9) 0,Yt 74 (.conv .i64 (.t 73)) 0,Yt 75 (P6 .sub (.c (.int .i64 (-121))) (.t 74)) 0,Yt 76 (Vi 0) 0,Yt 77 (Vi 7) 0,Yt 78 (P6 .add (PO 1) (.t 77)) 0,Yt 79 (.slc 1 (.t 76) (some (.t 78)) none none) 0,Yt 2 (Vi 75) 0,Yt 3 (Vi 79) 0,Yt 4 (f'' true) 0] (some [[],[0],[1,0],[],[],[4],[3,5,4],[2,0,1],[6,7,0,1,2,3,4,5],[8,0,1,2,3,4,5,6,7]])) .ret) (Nh [Yt 81 (Vi 8) 0,Yt 82 (.un .not (.t 81)) 0,Yt 83 (Vi 82) 0,p'' 84 (Vi 9) 0 83,p'' 85 (P6 .leq (.t 84) (.c (.int .u64 9223372036854775687))) 0 83,Yt 86 (.pick (.t 83) (.t 85) (.c (.bool false))) 0,Yt 80 (Vi 86) 0] (.cond (.t 80) (.seq (.reg [Yt 87 (Vi 9) 0,Yt 88 (.conv .i64 (.t 87)) 0,Yt 89 (P6 .add (.t 88) (PO 120)) 0,Yt 90 (Vi 0) 0,Yt 91 (Vi 7) 0,Yt 92 (P6 .add (PO 1) (.t 91)) 0,Yt 93 (.slc 1 (.t 90) (some (.t 92)) none none) 0,Yt 2 (Vi 89) 0,Yt 3 (Vi 93) 0,Yt 4 (f'' true) 0] (some [[],[0],[1,0],[],[],[4],[3,5,4],[2,0,1],[6,7,0,1,2,3,4,5],[8,0,1,2,3,4,5,6,7]])) .ret) .skip))))) (Nh [Yt 2 (.mv (PO 0)) 0,Yt 3 (.mv (.c (.sl 0 true []))) 0,Yt 4 (f'' false) 0] .ret)))))))))))
def YG:List IRes:=[(.tmp 2),(.tmp 3),(.tmp 4)]
abbrev b9p:Nat:=94
def Y9:ZI:=YN [(104,.pure (preT (fun _:UInt8×Unit=>true)) (Zk (fun x:UInt8×Unit=>x.1))),(105,.pure (preT (fun _:UInt8×Unit=>true)) (Zk (fun x:UInt8×Unit=>(255 - x.1:UInt8))))]
theorem d1z{G:PV->Prop}(c:UInt8)(x:List UInt8)(h : ∃ y0:UInt8,AV.pv (PV.rptr (PV.cells (List.getD (List.map enc (c::x)) (Int.toNat 0) default)))=AV.pv (PV.rptr (PV.cells ((enc) y0)))∧(if (decide (IntKind.wrap IntKind.i64 (PV.asInt (List.getD (PV.cells (enc y0)) 0 default)) ≥ 248))=true then if (decide ((↑(List.length (List.map enc (c::x))):Int)<IntKind.wrap IntKind.i64 (1+IntKind.wrap IntKind.i64 (IntKind.wrap IntKind.i64 (PV.asInt (List.getD (PV.cells (enc y0)) 0 default)) - 247))))=true then G ((.tup [(.int .i64 0),(.sl 0 true []),(.bool false)]))else((decide (0<=1)&&decide (0<=IntKind.wrap IntKind.i64 (1+IntKind.wrap IntKind.i64 (IntKind.wrap IntKind.i64 (PV.asInt (List.getD (PV.cells (enc y0)) 0 default)) - 247)))&&(List.isEmpty (List.map enc (c::x))||Enc.sz UInt8==1)&&decide (Int.toNat 1<=Int.toNat (IntKind.wrap IntKind.i64 (1+IntKind.wrap IntKind.i64 (IntKind.wrap IntKind.i64 (PV.asInt (List.getD (PV.cells (enc y0)) 0 default)) - 247))))&&decide (Int.toNat (IntKind.wrap IntKind.i64 (1+IntKind.wrap IntKind.i64 (IntKind.wrap IntKind.i64 (PV.asInt (List.getD (PV.cells (enc y0)) 0 default)) - 247)))<=List.length (List.map enc (c::x))))=true∧(At Y9 0 (Ze YG G) YH 0 94 [(0,(.pv (.sl 1 false (List.map enc (c::x))))),(6,(.pv (.fn 104))),(7,(.pv (.int .i64 (IntKind.wrap IntKind.i64 (IntKind.wrap IntKind.i64 (PV.asInt (List.getD (PV.cells (enc y0)) 0 default)) - 247))))),(8,(.pv (.bool false))),(9,(.pv (.int IntKind.u64 0))),(41,(.pv (.sl 1 false (List.drop (Int.toNat 1) (List.take (Int.toNat (IntKind.wrap IntKind.i64 (1+IntKind.wrap IntKind.i64 (IntKind.wrap IntKind.i64 (PV.asInt (List.getD (PV.cells (enc y0)) 0 default)) - 247)))) (List.map enc (c::x))))))),(42,(.pv (.int .i64 (↑(List.length (List.drop (Int.toNat 1) (List.take (Int.toNat (IntKind.wrap IntKind.i64 (1+IntKind.wrap IntKind.i64 (IntKind.wrap IntKind.i64 (PV.asInt (List.getD (PV.cells (enc y0)) 0 default)) - 247)))) (List.map enc (c::x))))):Int)))),(43,(.pv (.int .i64 0)))] []))else(if (decide (IntKind.wrap IntKind.i64 (PV.asInt (List.getD (PV.cells (enc y0)) 0 default))<=7))=true then if (decide ((↑(List.length (List.map enc (c::x))):Int)<IntKind.wrap IntKind.i64 (1+IntKind.wrap IntKind.i64 (8 - IntKind.wrap IntKind.i64 (PV.asInt (List.getD (PV.cells (enc y0)) 0 default))))))=true then G ((.tup [(.int .i64 0),(.sl 0 true []),(.bool false)]))else((decide (0<=1)&&decide (0<=IntKind.wrap IntKind.i64 (1+IntKind.wrap IntKind.i64 (8 - IntKind.wrap IntKind.i64 (PV.asInt (List.getD (PV.cells (enc y0)) 0 default)))))&&(List.isEmpty (List.map enc (c::x))||Enc.sz UInt8==1)&&decide (Int.toNat 1<=Int.toNat (IntKind.wrap IntKind.i64 (1+IntKind.wrap IntKind.i64 (8 - IntKind.wrap IntKind.i64 (PV.asInt (List.getD (PV.cells (enc y0)) 0 default))))))&&decide (Int.toNat (IntKind.wrap IntKind.i64 (1+IntKind.wrap IntKind.i64 (8 - IntKind.wrap IntKind.i64 (PV.asInt (List.getD (PV.cells (enc y0)) 0 default)))))<=List.length (List.map enc (c::x))))=true∧(At Y9 0 (Ze YG G) YH 0 94 [(0,(.pv (.sl 1 false (List.map enc (c::x))))),(6,(.pv (.fn 105))),(7,(.pv (.int .i64 (IntKind.wrap IntKind.i64 (8 - IntKind.wrap IntKind.i64 (PV.asInt (List.getD (PV.cells (enc y0)) 0 default))))))),(8,(.pv (.bool true))),(9,(.pv (.int IntKind.u64 0))),(41,(.pv (.sl 1 false (List.drop (Int.toNat 1) (List.take (Int.toNat (IntKind.wrap IntKind.i64 (1+IntKind.wrap IntKind.i64 (8 - IntKind.wrap IntKind.i64 (PV.asInt (List.getD (PV.cells (enc y0)) 0 default)))))) (List.map enc (c::x))))))),(42,(.pv (.int .i64 (↑(List.length (List.drop (Int.toNat 1) (List.take (Int.toNat (IntKind.wrap IntKind.i64 (1+IntKind.wrap IntKind.i64 (8 - IntKind.wrap IntKind.i64 (PV.asInt (List.getD (PV.cells (enc y0)) 0 default)))))) (List.map enc (c::x))))):Int)))),(43,(.pv (.int .i64 0)))] []))else((decide (0<=1)&&true&&(List.isEmpty (List.map enc (c::x))||Enc.sz UInt8==1)&&decide (Int.toNat 1<=List.length (List.map enc (c::x)))&&decide (List.length (List.map enc (c::x))<=List.length (List.map enc (c::x))))=true∧(G ((.tup [(.int .i64 (IntKind.wrap IntKind.i64 (IntKind.wrap IntKind.i64 (PV.asInt (List.getD (PV.cells (enc y0)) 0 default)) - 128))),(.sl 1 false (List.drop (Int.toNat 1) (List.take (List.length (List.map enc (c::x))) (List.map enc (c::x))))),(.bool true)]))))))):Zf Y9 0 (Ze YG G) YH [] (Yp 94 [enc (c::x)]):=Zf.tp (.lit (.lit (.lit (.abs (UInt8) (fun YY=>AV.pv (PV.rptr (PV.cells ((enc) YY)))) (.lit (.lit (.lit (.ask (.lit (.lit (.ask (.nil) (.lit (.req (.nil)))))) (.lit (.ask (.lit (.lit (.lit (.ask (.nil) (.lit (.req (.nil))))))) (.lit (.req (.nil))))))))))))) h (by kernel_rfl)
theorem Bj{G:PV->Prop}(c:UInt8)(x:List UInt8)(y:List UInt8)(k m i n:Int)(h:if (decide (i<n))=true then(decide (0<=i)&&decide (Int.toNat i<List.length (List.map enc y))&&Enc.sz UInt8==1)=true∧(∃ y0:UInt8,AV.pv (PV.rptr (PV.cells (List.getD (List.map enc y) (Int.toNat i) default)))=AV.pv (PV.rptr (PV.cells ((enc) y0)))∧((Go.Pl.preT (fun(x:UInt8×Unit)=>true) [(.int IntKind.u8 (PV.asInt (List.getD (PV.cells (enc y0)) 0 default)))])=true∧(∃ y1:UInt8,AV.pv (Zk (fun(x:UInt8×Unit)=>x.1) [(.int IntKind.u8 (PV.asInt (List.getD (PV.cells (enc y0)) 0 default)))])=AV.pv (enc y1)∧(if (i==0)=true then if ((↑(UInt8.toNat y1):Int)==0)=true then if (decide (k>1))=true then G ((.tup [(.int .i64 0),(.sl 0 true []),(.bool false)]))else(At Y9 0 (Ze YG G) YH 0 94 [(0,(.pv (.sl 1 false (List.map enc (c::x))))),(6,(.pv (.fn 104))),(7,(.pv (.int .i64 k))),(8,(.pv (.bool false))),(9,(.pv (.int IntKind.u64 (IntKind.wrap IntKind.u64 (↑(BitVec.toNat (BitVec.ofInt (IntKind.bits IntKind.u64) (IntKind.wrap IntKind.u64 (m*2 ^ min (Int.toNat 8) (IntKind.bits IntKind.u64))) ||| BitVec.ofInt (IntKind.bits IntKind.u64) (IntKind.wrap IntKind.u64 (↑(UInt8.toNat y1):Int)))):Int))))),(41,(.pv (.sl 1 false (List.map enc y)))),(42,(.pv (.int .i64 n))),(43,(.pv (.int .i64 (IntKind.wrap IntKind.i64 (i+1)))))] [])else(At Y9 0 (Ze YG G) YH 0 94 [(0,(.pv (.sl 1 false (List.map enc (c::x))))),(6,(.pv (.fn 104))),(7,(.pv (.int .i64 k))),(8,(.pv (.bool false))),(9,(.pv (.int IntKind.u64 (IntKind.wrap IntKind.u64 (↑(BitVec.toNat (BitVec.ofInt (IntKind.bits IntKind.u64) (IntKind.wrap IntKind.u64 (m*2 ^ min (Int.toNat 8) (IntKind.bits IntKind.u64))) ||| BitVec.ofInt (IntKind.bits IntKind.u64) (IntKind.wrap IntKind.u64 (↑(UInt8.toNat y1):Int)))):Int))))),(41,(.pv (.sl 1 false (List.map enc y)))),(42,(.pv (.int .i64 n))),(43,(.pv (.int .i64 (IntKind.wrap IntKind.i64 (i+1)))))] [])else(At Y9 0 (Ze YG G) YH 0 94 [(0,(.pv (.sl 1 false (List.map enc (c::x))))),(6,(.pv (.fn 104))),(7,(.pv (.int .i64 k))),(8,(.pv (.bool false))),(9,(.pv (.int IntKind.u64 (IntKind.wrap IntKind.u64 (↑(BitVec.toNat (BitVec.ofInt (IntKind.bits IntKind.u64) (IntKind.wrap IntKind.u64 (m*2 ^ min (Int.toNat 8) (IntKind.bits IntKind.u64))) ||| BitVec.ofInt (IntKind.bits IntKind.u64) (IntKind.wrap IntKind.u64 (↑(UInt8.toNat y1):Int)))):Int))))),(41,(.pv (.sl 1 false (List.map enc y)))),(42,(.pv (.int .i64 n))),(43,(.pv (.int .i64 (IntKind.wrap IntKind.i64 (i+1)))))] [])))))else(if (decide (m<=9223372036854775687))=true then(decide (0<=IntKind.wrap IntKind.i64 (1+k))&&true&&(List.isEmpty (List.map enc (c::x))||Enc.sz UInt8==1)&&decide (Int.toNat (IntKind.wrap IntKind.i64 (1+k))<=List.length (List.map enc (c::x)))&&decide (List.length (List.map enc (c::x))<=List.length (List.map enc (c::x))))=true∧(G ((.tup [(.int .i64 (IntKind.wrap IntKind.i64 (IntKind.wrap IntKind.i64 m+120))),(.sl 1 false (List.drop (Int.toNat (IntKind.wrap IntKind.i64 (1+k))) (List.take (List.length (List.map enc (c::x))) (List.map enc (c::x))))),(.bool true)])))else(G ((.tup [(.int .i64 0),(.sl 0 true []),(.bool false)]))))):At Y9 0 (Ze YG G) YH 0 94 [(0,.pv (enc (c::x))),(6,.pv (.fn 104)),(7,.pv (.int .i64 k)),(8,.pv (.bool false)),(9,.pv (.int .u64 m)),(41,.pv (enc y)),(42,.pv (.int .i64 n)),(43,.pv (.int .i64 i))] []:=At.tp (.lit (.ask (.req (.abs (UInt8) (fun YY=>AV.pv (PV.rptr (PV.cells ((enc) YY)))) (.lit (.req (.abs (UInt8) (fun YY=>AV.pv (enc YY)) (.lit (.ask (.lit (.lit (.lit (.ask (.lit (.lit (.lit (.ask (.lit (.lit (.lit (.lit (.lit (.lit (.lit (.lit (.lit (.nil)))))))))) (.lit (.lit (.lit (.nil)))))))) (.lit (.lit (.lit (.lit (.lit (.lit (.nil))))))))))) (.lit (.lit (.lit (.lit (.lit (.lit (.lit (.lit (.lit (.nil))))))))))))))))) (.lit (.lit (.lit (.lit (.lit (.lit (.lit (.lit (.ask (.lit (.lit (.req (.nil)))) (.nil)))))))))))) h (by kernel_rfl)
theorem Aw{G:PV->Prop}(c:UInt8)(x:List UInt8)(y:List UInt8)(k m i n:Int)(h:if (decide (i<n))=true then(decide (0<=i)&&decide (Int.toNat i<List.length (List.map enc y))&&Enc.sz UInt8==1)=true∧(∃ y0:UInt8,AV.pv (PV.rptr (PV.cells (List.getD (List.map enc y) (Int.toNat i) default)))=AV.pv (PV.rptr (PV.cells ((enc) y0)))∧((Go.Pl.preT (fun(x:UInt8×Unit)=>true) [(.int IntKind.u8 (PV.asInt (List.getD (PV.cells (enc y0)) 0 default)))])=true∧(∃ y1:UInt8,AV.pv (Zk (fun(x:UInt8×Unit)=>(255:UInt8) - x.1) [(.int IntKind.u8 (PV.asInt (List.getD (PV.cells (enc y0)) 0 default)))])=AV.pv (enc y1)∧(if (i==0)=true then if ((↑(UInt8.toNat y1):Int)==0)=true then if (decide (k>1))=true then G ((.tup [(.int .i64 0),(.sl 0 true []),(.bool false)]))else(At Y9 0 (Ze YG G) YH 0 94 [(0,(.pv (.sl 1 false (List.map enc (c::x))))),(6,(.pv (.fn 105))),(7,(.pv (.int .i64 k))),(8,(.pv (.bool true))),(9,(.pv (.int IntKind.u64 (IntKind.wrap IntKind.u64 (↑(BitVec.toNat (BitVec.ofInt (IntKind.bits IntKind.u64) (IntKind.wrap IntKind.u64 (m*2 ^ min (Int.toNat 8) (IntKind.bits IntKind.u64))) ||| BitVec.ofInt (IntKind.bits IntKind.u64) (IntKind.wrap IntKind.u64 (↑(UInt8.toNat y1):Int)))):Int))))),(41,(.pv (.sl 1 false (List.map enc y)))),(42,(.pv (.int .i64 n))),(43,(.pv (.int .i64 (IntKind.wrap IntKind.i64 (i+1)))))] [])else(At Y9 0 (Ze YG G) YH 0 94 [(0,(.pv (.sl 1 false (List.map enc (c::x))))),(6,(.pv (.fn 105))),(7,(.pv (.int .i64 k))),(8,(.pv (.bool true))),(9,(.pv (.int IntKind.u64 (IntKind.wrap IntKind.u64 (↑(BitVec.toNat (BitVec.ofInt (IntKind.bits IntKind.u64) (IntKind.wrap IntKind.u64 (m*2 ^ min (Int.toNat 8) (IntKind.bits IntKind.u64))) ||| BitVec.ofInt (IntKind.bits IntKind.u64) (IntKind.wrap IntKind.u64 (↑(UInt8.toNat y1):Int)))):Int))))),(41,(.pv (.sl 1 false (List.map enc y)))),(42,(.pv (.int .i64 n))),(43,(.pv (.int .i64 (IntKind.wrap IntKind.i64 (i+1)))))] [])else(At Y9 0 (Ze YG G) YH 0 94 [(0,(.pv (.sl 1 false (List.map enc (c::x))))),(6,(.pv (.fn 105))),(7,(.pv (.int .i64 k))),(8,(.pv (.bool true))),(9,(.pv (.int IntKind.u64 (IntKind.wrap IntKind.u64 (↑(BitVec.toNat (BitVec.ofInt (IntKind.bits IntKind.u64) (IntKind.wrap IntKind.u64 (m*2 ^ min (Int.toNat 8) (IntKind.bits IntKind.u64))) ||| BitVec.ofInt (IntKind.bits IntKind.u64) (IntKind.wrap IntKind.u64 (↑(UInt8.toNat y1):Int)))):Int))))),(41,(.pv (.sl 1 false (List.map enc y)))),(42,(.pv (.int .i64 n))),(43,(.pv (.int .i64 (IntKind.wrap IntKind.i64 (i+1)))))] [])))))else(if (decide (m<=9223372036854775687))=true then(decide (0<=IntKind.wrap IntKind.i64 (1+k))&&true&&(List.isEmpty (List.map enc (c::x))||Enc.sz UInt8==1)&&decide (Int.toNat (IntKind.wrap IntKind.i64 (1+k))<=List.length (List.map enc (c::x)))&&decide (List.length (List.map enc (c::x))<=List.length (List.map enc (c::x))))=true∧(G ((.tup [(.int .i64 (IntKind.wrap IntKind.i64 ((-121:Int) - IntKind.wrap IntKind.i64 m))),(.sl 1 false (List.drop (Int.toNat (IntKind.wrap IntKind.i64 (1+k))) (List.take (List.length (List.map enc (c::x))) (List.map enc (c::x))))),(.bool true)])))else(G ((.tup [(.int .i64 0),(.sl 0 true []),(.bool false)]))))):At Y9 0 (Ze YG G) YH 0 94 [(0,.pv (enc (c::x))),(6,.pv (.fn 105)),(7,.pv (.int .i64 k)),(8,.pv (.bool true)),(9,.pv (.int .u64 m)),(41,.pv (enc y)),(42,.pv (.int .i64 n)),(43,.pv (.int .i64 i))] []:=At.tp (.lit (.ask (.req (.abs (UInt8) (fun YY=>AV.pv (PV.rptr (PV.cells ((enc) YY)))) (.lit (.req (.abs (UInt8) (fun YY=>AV.pv (enc YY)) (.lit (.ask (.lit (.lit (.lit (.ask (.lit (.lit (.lit (.ask (.lit (.lit (.lit (.lit (.lit (.lit (.lit (.lit (.lit (.nil)))))))))) (.lit (.lit (.lit (.nil)))))))) (.lit (.lit (.lit (.lit (.lit (.lit (.nil))))))))))) (.lit (.lit (.lit (.lit (.lit (.lit (.lit (.lit (.lit (.nil))))))))))))))))) (.lit (.lit (.lit (.lit (.ask (.lit (.lit (.req (.nil)))) (.lit (.lit (.lit (.lit (.nil)))))))))))) h (by kernel_rfl)
theorem c5q{G:PV->Prop}(h:G ((.tup [(.int .i64 0),(.sl 0 true []),(.bool false)]))):Zf Y9 0 (Ze YG G) YH [] (Yp 94 [enc ([]:List UInt8)]):=Zf.tp (.lit (.lit (.nil))) h (by kernel_rfl)
noncomputable def Rm:IC:=Xp Proofs.Tryz.f124
def TW:List IRes:=[]
abbrev c0o:Nat:=13
def LZ:ZI:=YN []
theorem d3m{G:AV×List AObj×List AObj->Prop}(x:List UInt8)(err:Int)(e:Int)(h:if (err==0)=true then G (((.tup []),([(.box [(.pv (.sl 1 false (List.map enc x))),(.pv (.int .i64 e))])],[])))else(G (((.tup []),([(.box [(.pv (.sl 1 false (List.map enc x))),(.pv (.int .i64 err))])],[]))))):Zf LZ 1 (Zj 1 TW G) Rm [] (ZN 13 [.ptr 0 0,.pv (.int .i64 e)] [.box [.pv (.sl 1 false (x.map enc)),.pv (.int .i64 err)]]):=Zf.to (.lit (.ask (.nil) (.nil))) h (by kernel_rfl)
noncomputable def LM:IC:=Xp Proofs.Tryz.f84
def FR:List IRes:=[(.tmp 8)]
abbrev c7x:Nat:=48
def a5w:ZI:=YN [(123,.pure (preT (fun x:List UInt8×Unit=>decide (x.1.length<=9000000))) (Zk (fun x:List UInt8×Unit=>w3 (Yh x.1)))),(124,.own Ve J4)]
theorem d8q{G:AV×List AObj×List AObj->Prop}(x:List UInt8)(err:Int)(lo hi e:Int)(h:if (err != 0)=true then G (((.pv (.int .i64 0)),([(.box [(.pv (.sl 1 false (List.map enc x))),(.pv (.int .i64 err))])],[])))else((Go.Pl.preT (fun(x:List UInt8×Unit)=>decide (List.length x.1<=9000000)) [(.sl 1 false (List.map enc x))])=true∧(∃ y0:R3 Int (List UInt8) Bool,AV.pv (Zk (fun(x:List UInt8×Unit)=>w3 (Yh x.1)) [(.sl 1 false (List.map enc x))])=AV.pv (enc y0)∧(if (!R3.c y0)=true then(Ve [(.ptr 0 0),(.pv (.int .i64 4))] [(.box [(.pv (.sl 1 false (List.map enc x))),(.pv (.int .i64 err))])])=true∧(G (((.pv (.int .i64 0)),([(.box [(.pv (.sl 1 false (List.map enc (Za (PV.sl 1 false (List.map enc x)))))),(.pv (.int .i64 (if err=0 then 4 else err)))])],[]))))else(if (decide (R3.a y0<lo))=true then(Ve [(.ptr 0 0),(.pv (.int .i64 e))] [(.box [(.pv (.sl 1 false (List.map enc x))),(.pv (.int .i64 err))])])=true∧(G (((.pv (.int .i64 0)),([(.box [(.pv (.sl 1 false (List.map enc (Za (PV.sl 1 false (List.map enc x)))))),(.pv (.int .i64 (if err=0 then e else err)))])],[]))))else(if (decide (R3.a y0>hi))=true then(Ve [(.ptr 0 0),(.pv (.int .i64 e))] [(.box [(.pv (.sl 1 false (List.map enc x))),(.pv (.int .i64 err))])])=true∧(G (((.pv (.int .i64 0)),([(.box [(.pv (.sl 1 false (List.map enc (Za (PV.sl 1 false (List.map enc x)))))),(.pv (.int .i64 (if err=0 then e else err)))])],[]))))else(G (((.pv (.int .i64 (R3.a y0))),([(.box [(.pv (.sl 1 false (List.map enc (R3.b y0)))),(.pv (.int .i64 err))])],[])))))))))):Zf a5w 1 (Zj 1 FR G) LM [] (ZN 48 [.ptr 0 0,.pv (.int .i64 lo),.pv (.int .i64 hi),.pv (.int .i64 e)] [.box [.pv (.sl 1 false (x.map enc)),.pv (.int .i64 err)]]):=Zf.to (.lit (.ask (.nil) (.req (.abs (R3 Int (List UInt8) Bool) (fun YY=>AV.pv (enc YY)) (.ask (.req (.keep (.nil))) (.lit (.ask (.lit (.lit (.lit (.lit (.req (.keep (.nil))))))) (.lit (.lit (.lit (.lit (.ask (.req (.keep (.nil))) (.nil))))))))))))) h (by kernel_rfl)
noncomputable def PP:IC:=Xp Proofs.Tryz.f83
def TA:List IRes:=[(.tmp 4)]
abbrev c7j:Nat:=9
def Fg:ZI:=YN [(84,.own YA WN)]
theorem d3l{G:AV×List AObj×List AObj->Prop}(x:List UInt8)(err:Int)(lo hi:Int)(h:(YA [(.ptr 0 0),(.pv (.int .i64 lo)),(.pv (.int .i64 hi)),(.pv (.int .i64 2))] [(.box [(.pv (.sl 1 false (List.map enc x))),(.pv (.int .i64 err))])])=true∧(G (((.pv (.int .i64 (Prod.fst (Zc lo hi 2 (Za (PV.sl 1 false (List.map enc x))) err)))),([(.box [(.pv (.sl 1 false (List.map enc (Prod.fst (Prod.snd (Zc lo hi 2 (Za (PV.sl 1 false (List.map enc x))) err)))))),(.pv (.int .i64 (Prod.snd (Prod.snd (Zc lo hi 2 (Za (PV.sl 1 false (List.map enc x))) err)))))]),(.box [(.pv (.int .i64 lo))]),(.box [(.pv (.int .i64 hi))])],[]))))):Zf Fg 3 (Zj 3 TA G) PP [] (ZN 9 [.ptr 0 0,.ptr 1 0,.ptr 2 0] [.box [.pv (.sl 1 false (x.map enc)),.pv (.int .i64 err)],.box [.pv (.int .i64 lo)],.box [.pv (.int .i64 hi)]]):=Zf.to (.req (.keep (.nil))) h (by kernel_rfl)
noncomputable def PS:IC:=Xp Proofs.Tryz.f82
def Px:List IRes:=[(.tmp 4)]
abbrev c1r:Nat:=40
def Oh:ZI:=YN [(83,.own JX QI)]
theorem d2l{G:AV×List AObj×List AObj->Prop}(x:List UInt8)(err:Int)(lo hi:Int)(h:if (err != 0)=true then G (((.pv (.int .i64 0)),([(.box [(.pv (.sl 1 false (List.map enc x))),(.pv (.int .i64 err))]),(.box [(.pv (.int .i64 lo))]),(.box [(.pv (.int .i64 hi))])],[])))else((JX [(.ptr 0 0),(.ptr 1 0),(.ptr 2 0)] [(.box [(.pv (.sl 1 false (List.map enc x))),(.pv (.int .i64 0))]),(.box [(.pv (.int .i64 lo))]),(.box [(.pv (.int .i64 hi))])])=true∧(if (Prod.snd (Prod.snd (Zc lo hi 2 (Za (PV.sl 1 false (List.map enc x))) 0)) != 0)=true then G (((.pv (.int .i64 0)),([(.box [(.pv (.sl 1 false (List.map enc x))),(.pv (.int .i64 (Prod.snd (Prod.snd (Zc lo hi 2 (Za (PV.sl 1 false (List.map enc x))) 0)))))]),(.box [(.pv (.int .i64 lo))]),(.box [(.pv (.int .i64 hi))])],[])))else(G (((.pv (.int .i64 (Prod.fst (Zc lo hi 2 (Za (PV.sl 1 false (List.map enc x))) 0)))),([(.box [(.pv (.sl 1 false (List.map enc (Prod.fst (Prod.snd (Zc lo hi 2 (Za (PV.sl 1 false (List.map enc x))) 0)))))),(.pv (.int .i64 err))]),(.box [(.pv (.int .i64 lo))]),(.box [(.pv (.int .i64 hi))])],[]))))))):Zf Oh 3 (Zj 3 Px G) PS [] (ZN 40 [.ptr 0 0,.fn 83 [] [.ptr 1 0,.ptr 2 0]] [.box [.pv (.sl 1 false (x.map enc)),.pv (.int .i64 err)],.box [.pv (.int .i64 lo)],.box [.pv (.int .i64 hi)]]):=Zf.to (.lit (.lit (.lit (.lit (.lit (.lit (.lit (.lit (.ask (.nil) (.req (.keep (.lit (.ask (.nil) (.nil)))))))))))))) h (by kernel_rfl)
noncomputable def PT:IC:=Xp Proofs.Tryz.f45
def R8:List IRes:=[(.tmp 6)]
abbrev c7a:Nat:=10
def LJ:ZI:=YN [(82,.own (JI 83) QI)]
theorem d4h{G:AV×List AObj×List AObj->Prop}(x:List UInt8)(err:Int)(lo hi:Int)(h:(JI 83 [(.ptr 0 0),(.fn 83 [] [(.ptr 1 0),(.ptr 2 0)])] [(.box [(.pv (.sl 1 false (List.map enc x))),(.pv (.int .i64 err))]),(.box [(.pv (.int .i64 lo))]),(.box [(.pv (.int .i64 hi))])])=true∧(G (((.pv (.int .i64 (Prod.fst (Zc lo hi 2 (Za (PV.sl 1 false (List.map enc x))) err)))),([(.box [(.pv (.sl 1 false (List.map enc (Prod.fst (Prod.snd (Zc lo hi 2 (Za (PV.sl 1 false (List.map enc x))) err)))))),(.pv (.int .i64 (Prod.snd (Prod.snd (Zc lo hi 2 (Za (PV.sl 1 false (List.map enc x))) err)))))])],[]))))):Zf LJ 1 (Zj 1 R8 G) PT [] (ZN 10 [.ptr 0 0,.pv (.int .i64 lo),.pv (.int .i64 hi)] [.box [.pv (.sl 1 false (x.map enc)),.pv (.int .i64 err)]]):=Zf.to (.req (.keep (.nil))) h (by kernel_rfl)
noncomputable def PE:IC:=Xp Proofs.Tryz.f87
def R5:List IRes:=[(.tmp 4)]
abbrev b7v:Nat:=41
def Fa:ZI:=YN [(84,.own YA WN),(124,.own Ve J4)]
theorem c8n{G:AV×List AObj×List AObj->Prop}(x:List UInt8)(err:Int)(most:Int)(h:(YA [(.ptr 0 0),(.pv (.int .i64 0)),(.pv (.int .i64 most)),(.pv (.int .i64 3))] [(.box [(.pv (.sl 1 false (List.map enc x))),(.pv (.int .i64 err))])])=true∧(if (Prod.snd (Prod.snd (Zc 0 most 3 (Za (PV.sl 1 false (List.map enc x))) err)) != 0)=true then G (((.pv (.str [])),([(.box [(.pv (.sl 1 false (List.map enc (Prod.fst (Prod.snd (Zc 0 most 3 (Za (PV.sl 1 false (List.map enc x))) err)))))),(.pv (.int .i64 (Prod.snd (Prod.snd (Zc 0 most 3 (Za (PV.sl 1 false (List.map enc x))) err)))))])],[])))else(if (decide (Prod.fst (Zc 0 most 3 (Za (PV.sl 1 false (List.map enc x))) err)>(↑(List.length (List.map enc (Prod.fst (Prod.snd (Zc 0 most 3 (Za (PV.sl 1 false (List.map enc x))) err))))):Int)))=true then(Ve [(.ptr 0 0),(.pv (.int .i64 4))] [(.box [(.pv (.sl 1 false (List.map enc (Prod.fst (Prod.snd (Zc 0 most 3 (Za (PV.sl 1 false (List.map enc x))) err)))))),(.pv (.int .i64 (Prod.snd (Prod.snd (Zc 0 most 3 (Za (PV.sl 1 false (List.map enc x))) err)))))])])=true∧(G (((.pv (.str [])),([(.box [(.pv (.sl 1 false (List.map enc (Za (PV.sl 1 false (List.map enc (Prod.fst (Prod.snd (Zc 0 most 3 (Za (PV.sl 1 false (List.map enc x))) err))))))))),(.pv (.int .i64 (if Prod.snd (Prod.snd (Zc 0 most 3 (Za (PV.sl 1 false (List.map enc x))) err))=0 then 4 else Prod.snd (Prod.snd (Zc 0 most 3 (Za (PV.sl 1 false (List.map enc x))) err)))))])],[]))))else((true&&decide (0<=Prod.fst (Zc 0 most 3 (Za (PV.sl 1 false (List.map enc x))) err))&&(List.isEmpty (List.map enc (Prod.fst (Prod.snd (Zc 0 most 3 (Za (PV.sl 1 false (List.map enc x))) err))))||1==1)&&decide (0<=Int.toNat (Prod.fst (Zc 0 most 3 (Za (PV.sl 1 false (List.map enc x))) err)))&&decide (Int.toNat (Prod.fst (Zc 0 most 3 (Za (PV.sl 1 false (List.map enc x))) err))<=List.length (List.map enc (Prod.fst (Prod.snd (Zc 0 most 3 (Za (PV.sl 1 false (List.map enc x))) err))))))=true∧((List.all (List.drop 0 (List.take (Int.toNat (Prod.fst (Zc 0 most 3 (Za (PV.sl 1 false (List.map enc x))) err))) (List.map enc (Prod.fst (Prod.snd (Zc 0 most 3 (Za (PV.sl 1 false (List.map enc x))) err)))))) SE&&(List.isEmpty (List.drop 0 (List.take (Int.toNat (Prod.fst (Zc 0 most 3 (Za (PV.sl 1 false (List.map enc x))) err))) (List.map enc (Prod.fst (Prod.snd (Zc 0 most 3 (Za (PV.sl 1 false (List.map enc x))) err))))))||1==1))=true∧((decide (0<=Prod.fst (Zc 0 most 3 (Za (PV.sl 1 false (List.map enc x))) err))&&true&&(List.isEmpty (List.map enc (Prod.fst (Prod.snd (Zc 0 most 3 (Za (PV.sl 1 false (List.map enc x))) err))))||1==1)&&decide (Int.toNat (Prod.fst (Zc 0 most 3 (Za (PV.sl 1 false (List.map enc x))) err))<=List.length (List.map enc (Prod.fst (Prod.snd (Zc 0 most 3 (Za (PV.sl 1 false (List.map enc x))) err)))))&&decide (List.length (List.map enc (Prod.fst (Prod.snd (Zc 0 most 3 (Za (PV.sl 1 false (List.map enc x))) err))))<=List.length (List.map enc (Prod.fst (Prod.snd (Zc 0 most 3 (Za (PV.sl 1 false (List.map enc x))) err))))))=true∧(G (((.pv (.str (Xl (List.drop 0 (List.take (Int.toNat (Prod.fst (Zc 0 most 3 (Za (PV.sl 1 false (List.map enc x))) err))) (List.map enc (Prod.fst (Prod.snd (Zc 0 most 3 (Za (PV.sl 1 false (List.map enc x))) err))))))))),([(.box [(.pv (.sl 1 false (List.drop (Int.toNat (Prod.fst (Zc 0 most 3 (Za (PV.sl 1 false (List.map enc x))) err))) (List.take (List.length (List.map enc (Prod.fst (Prod.snd (Zc 0 most 3 (Za (PV.sl 1 false (List.map enc x))) err))))) (List.map enc (Prod.fst (Prod.snd (Zc 0 most 3 (Za (PV.sl 1 false (List.map enc x))) err)))))))),(.pv (.int .i64 (Prod.snd (Prod.snd (Zc 0 most 3 (Za (PV.sl 1 false (List.map enc x))) err)))))])],[])))))))))):Zf Fa 1 (Zj 1 R5 G) PE [] (ZN 41 [.ptr 0 0,.pv (.int .i64 most)] [.box [.pv (.sl 1 false (x.map enc)),.pv (.int .i64 err)]]):=Zf.to (.req (.keep (.lit (.ask (.nil) (.lit (.ask (.req (.keep (.nil))) (.req (.req (.req (.nil)))))))))) h (by kernel_rfl)
noncomputable def TN:IC:=Xp Proofs.Tryz.f86
def Pg:List IRes:=[(.tmp 3)]
abbrev c7q:Nat:=7
def F3:ZI:=YN [(87,.own YF DU)]
theorem d1w{G:AV×List AObj×List AObj->Prop}(x:List UInt8)(err:Int)(most:Int)(h:(YF [(.ptr 0 0),(.pv (.int .i64 most))] [(.box [(.pv (.sl 1 false (List.map enc x))),(.pv (.int .i64 err))])])=true∧(G (((.pv (.str (Prod.fst (VJ most (Za (PV.sl 1 false (List.map enc x))) err)))),([(.box [(.pv (.sl 1 false (List.map enc (Prod.fst (Prod.snd (VJ most (Za (PV.sl 1 false (List.map enc x))) err)))))),(.pv (.int .i64 (Prod.snd (Prod.snd (VJ most (Za (PV.sl 1 false (List.map enc x))) err)))))]),(.box [(.pv (.int .i64 most))])],[]))))):Zf F3 2 (Zj 2 Pg G) TN [] (ZN 7 [.ptr 0 0,.ptr 1 0] [.box [.pv (.sl 1 false (x.map enc)),.pv (.int .i64 err)],.box [.pv (.int .i64 most)]]):=Zf.to (.req (.keep (.nil))) h (by kernel_rfl)
noncomputable def TZ:IC:=Xp Proofs.Tryz.f85
def Ro:List IRes:=[(.tmp 4)]
abbrev c0u:Nat:=40
def Fh:ZI:=YN [(86,.own JK TG)]
theorem d2n{G:AV×List AObj×List AObj->Prop}(x:List UInt8)(err:Int)(most:Int)(h:if (err != 0)=true then G (((.pv (.str [])),([(.box [(.pv (.sl 1 false (List.map enc x))),(.pv (.int .i64 err))]),(.box [(.pv (.int .i64 most))])],[])))else((JK [(.ptr 0 0),(.ptr 1 0)] [(.box [(.pv (.sl 1 false (List.map enc x))),(.pv (.int .i64 0))]),(.box [(.pv (.int .i64 most))])])=true∧(if (Prod.snd (Prod.snd (VJ most (Za (PV.sl 1 false (List.map enc x))) 0)) != 0)=true then G (((.pv (.str [])),([(.box [(.pv (.sl 1 false (List.map enc x))),(.pv (.int .i64 (Prod.snd (Prod.snd (VJ most (Za (PV.sl 1 false (List.map enc x))) 0)))))]),(.box [(.pv (.int .i64 most))])],[])))else(G (((.pv (.str (Prod.fst (VJ most (Za (PV.sl 1 false (List.map enc x))) 0)))),([(.box [(.pv (.sl 1 false (List.map enc (Prod.fst (Prod.snd (VJ most (Za (PV.sl 1 false (List.map enc x))) 0)))))),(.pv (.int .i64 err))]),(.box [(.pv (.int .i64 most))])],[]))))))):Zf Fh 2 (Zj 2 Ro G) TZ [] (ZN 40 [.ptr 0 0,.fn 86 [] [.ptr 1 0]] [.box [.pv (.sl 1 false (x.map enc)),.pv (.int .i64 err)],.box [.pv (.int .i64 most)]]):=Zf.to (.lit (.lit (.lit (.lit (.lit (.lit (.lit (.lit (.ask (.nil) (.req (.keep (.lit (.ask (.nil) (.nil)))))))))))))) h (by kernel_rfl)
noncomputable def Bo:IC:=Xp Proofs.Tryz.f46
def Ar:List IRes:=[(.tmp 4)]
abbrev b3j:Nat:=8
def PY:ZI:=YN [(85,.own (JO 86) CY)]
theorem c3e{G:AV×List AObj×List AObj->Prop}(x:List UInt8)(err:Int)(most:Int)(h:(JO 86 [(.ptr 0 0),(.fn 86 [] [(.ptr 1 0)])] [(.box [(.pv (.sl 1 false (List.map enc x))),(.pv (.int .i64 err))]),(.box [(.pv (.int .i64 most))])])=true∧(G (((.pv (.str (Prod.fst (Zh most (Za (PV.sl 1 false (List.map enc x))) err)))),([(.box [(.pv (.sl 1 false (List.map enc (Prod.fst (Prod.snd (Zh most (Za (PV.sl 1 false (List.map enc x))) err)))))),(.pv (.int .i64 (Prod.snd (Prod.snd (Zh most (Za (PV.sl 1 false (List.map enc x))) err)))))])],[]))))):Zf PY 1 (Zj 1 Ar G) Bo [] (ZN 8 [.ptr 0 0,.pv (.int .i64 most)] [.box [.pv (.sl 1 false (x.map enc)),.pv (.int .i64 err)]]):=Zf.to (.req (.keep (.nil))) h (by kernel_rfl)
end Go.Pl
namespace Go.Pl
open Go.RowKit
open Enc (enc dec is)
open EncL (encL decL isL)
set_option maxRecDepth 100000
def TF:IC:=(Nh [Yt 2 (.mv (.c (.int .u8 0))) 0] (Nh [Yt 3 (Vi 0) 0,Yt 2 (Vi 3) 0] .ret))
def RX:List IRes:=[(.tmp 2)]
abbrev c0e:Nat:=4
def Fv:ZI:=YN []
theorem d0y{G:PV->Prop}(c:UInt8)(h:G ((.int IntKind.u8 (↑(UInt8.toNat c):Int)))):Zf Fv 0 (Ze RX G) TF [] (Yp 4 [enc c]):=Zf.tp (.nil) h (by kernel_rfl)
noncomputable def TV:IC:=Xp Proofs.Tryz.f105
def Rl:List IRes:=[(.tmp 2)]
abbrev c0m:Nat:=5
def LK:ZI:=YN []
theorem c8s{G:PV->Prop}(c:UInt8)(h:G ((.int IntKind.u8 (IntKind.wrap IntKind.u8 (255 - (↑(UInt8.toNat c):Int)))))):Zf LK 0 (Ze Rl G) TV [] (Yp 5 [enc c]):=Zf.tp (.lit (.nil)) h (by kernel_rfl)
noncomputable def Jd:IC:=Xp Proofs.Tryz.f102
def Jg:List IRes:=[(.tmp 2)]
abbrev d2a:Nat:=16
def Dn:ZI:=YN []
theorem d8i{G:PV->Prop}(m:Int)(h:At Dn 0 (Ze Jg G) Jd 0 16 [(0,(.pv (.int IntKind.u64 m))),(3,(.pv (.int .i64 1)))] []):Zf Dn 0 (Ze Jg G) Jd [] (Yp 16 [.int .u64 m]):=Zf.tp (.nil) h (by kernel_rfl)
theorem a7u{G:PV->Prop}(m:Int)(k:Int)(h:if (decide (k<8))=true then(decide (0<=IntKind.wrap IntKind.i64 (8*k)))=true∧(if (decide (Int.fdiv m (2 ^ min (Int.toNat (IntKind.wrap IntKind.i64 (8*k))) (IntKind.bits IntKind.u64))>0))=true then At Dn 0 (Ze Jg G) Jd 0 16 [(0,(.pv (.int IntKind.u64 m))),(3,(.pv (.int .i64 (IntKind.wrap IntKind.i64 (k+1)))))] []else(G ((.int .i64 k))))else(G ((.int .i64 k)))):At Dn 0 (Ze Jg G) Jd 0 16 [(0,.pv (.int .u64 m)),(3,.pv (.int .i64 k))] []:=At.tp (.lit (.ask (.lit (.lit (.lit (.lit (.req (.lit (.lit (.lit (.ask (.lit (.nil)) (.nil)))))))))) (.lit (.lit (.lit (.lit (.lit (.lit (.nil))))))))) h (by kernel_rfl)
noncomputable def V4:IC:=Xp Proofs.Tryz.f103
def VP:List IRes:=[(.tmp 8)]
abbrev d4j:Nat:=27
def QH:ZI:=YN [(104,.pure (preT (fun _:UInt8×Unit=>true)) (Zk (fun x:UInt8×Unit=>x.1))),(105,.pure (preT (fun _:UInt8×Unit=>true)) (Zk (fun x:UInt8×Unit=>(255 - x.1:UInt8))))]
theorem d5z{G:AV×List AObj×List AObj->Prop}(x:List UInt8)(q:Nat)(m k:Int)(h:At QH 1 (Zj 1 VP G) V4 0 27 [(0,(.row 0 q 0 q)),(1,(.pv (.int IntKind.u64 m))),(3,(.pv (.fn 104))),(9,(.pv (.int .i64 (IntKind.wrap IntKind.i64 (k - 1)))))] [(.obj (.row false 5 1 (List.map enc x)))]):Zf QH 1 (Zj 1 VP G) V4 [] (ZN 27 [.row 0 q 0 q,.pv (.int .u64 m),.pv (.int .i64 k),.pv (.fn 104)] [.row false 5 1 (x.map enc)]):=Zf.to (.lit (.nil)) h (by kernel_rfl)
theorem a9b{G:AV×List AObj×List AObj->Prop}(x:List UInt8)(q:Nat)(m k:Int)(i:Int)(h:if (decide (i ≥ 0))=true then(decide (0<=IntKind.wrap IntKind.i64 (8*i)))=true∧((Go.Pl.preT (fun(x:UInt8×Unit)=>true) [(.int IntKind.u8 (IntKind.wrap IntKind.u8 (Int.fdiv m (2 ^ min (Int.toNat (IntKind.wrap IntKind.i64 (8*i))) (IntKind.bits IntKind.u64)))))])=true∧(∃ y0:UInt8,AV.pv (Zk (fun(x:UInt8×Unit)=>x.1) [(.int IntKind.u8 (IntKind.wrap IntKind.u8 (Int.fdiv m (2 ^ min (Int.toNat (IntKind.wrap IntKind.i64 (8*i))) (IntKind.bits IntKind.u64)))))])=AV.pv (enc y0)∧((List.length (List.map enc x)==q&&q==q&&decide ((q+List.length (List.drop 0 (List.take 1 [enc y0])))*1<=1099511627776)&&decide (q+List.length (List.drop 0 (List.take 1 [enc y0]))<=1099511627776))=true∧(At QH 1 (Zj 1 VP G) V4 0 27 [(0,(.row 0 (q+List.length (List.drop 0 (List.take 1 [enc y0]))) 0 (q+List.length (List.drop 0 (List.take 1 [enc y0]))))),(1,(.pv (.int IntKind.u64 m))),(3,(.pv (.fn 104))),(9,(.pv (.int .i64 (IntKind.wrap IntKind.i64 (i - 1)))))] [(.obj (.row false 5 1 (List.map enc x++List.drop 0 (List.take 1 [enc y0]))))]))))else(G (((.row 0 q 0 q),([(.row false 5 1 (List.map enc x))],[]))))):At QH 1 (Zj 1 VP G) V4 0 27 [(0,.row 0 q 0 q),(1,.pv (.int .u64 m)),(3,.pv (.fn 104)),(9,.pv (.int .i64 i))] [.obj (.row false 5 1 (x.map enc))]:=At.to (.lit (.ask (.lit (.req (.req (.abs (UInt8) (fun YY=>AV.pv (enc YY)) (.lit (.lit (.req (.lit (.nil))))))))) (.nil))) h (by kernel_rfl)
theorem d5q{G:AV×List AObj×List AObj->Prop}(x:List UInt8)(q:Nat)(m k:Int)(h:At QH 1 (Zj 1 VP G) V4 0 27 [(0,(.row 0 q 0 q)),(1,(.pv (.int IntKind.u64 m))),(3,(.pv (.fn 105))),(9,(.pv (.int .i64 (IntKind.wrap IntKind.i64 (k - 1)))))] [(.obj (.row false 5 1 (List.map enc x)))]):Zf QH 1 (Zj 1 VP G) V4 [] (ZN 27 [.row 0 q 0 q,.pv (.int .u64 m),.pv (.int .i64 k),.pv (.fn 105)] [.row false 5 1 (x.map enc)]):=Zf.to (.lit (.nil)) h (by kernel_rfl)
theorem a8y{G:AV×List AObj×List AObj->Prop}(x:List UInt8)(q:Nat)(m k:Int)(i:Int)(h:if (decide (i ≥ 0))=true then(decide (0<=IntKind.wrap IntKind.i64 (8*i)))=true∧((Go.Pl.preT (fun(x:UInt8×Unit)=>true) [(.int IntKind.u8 (IntKind.wrap IntKind.u8 (Int.fdiv m (2 ^ min (Int.toNat (IntKind.wrap IntKind.i64 (8*i))) (IntKind.bits IntKind.u64)))))])=true∧(∃ y0:UInt8,AV.pv (Zk (fun(x:UInt8×Unit)=>(255:UInt8) - x.1) [(.int IntKind.u8 (IntKind.wrap IntKind.u8 (Int.fdiv m (2 ^ min (Int.toNat (IntKind.wrap IntKind.i64 (8*i))) (IntKind.bits IntKind.u64)))))])=AV.pv (enc y0)∧((List.length (List.map enc x)==q&&q==q&&decide ((q+List.length (List.drop 0 (List.take 1 [enc y0])))*1<=1099511627776)&&decide (q+List.length (List.drop 0 (List.take 1 [enc y0]))<=1099511627776))=true∧(At QH 1 (Zj 1 VP G) V4 0 27 [(0,(.row 0 (q+List.length (List.drop 0 (List.take 1 [enc y0]))) 0 (q+List.length (List.drop 0 (List.take 1 [enc y0]))))),(1,(.pv (.int IntKind.u64 m))),(3,(.pv (.fn 105))),(9,(.pv (.int .i64 (IntKind.wrap IntKind.i64 (i - 1)))))] [(.obj (.row false 5 1 (List.map enc x++List.drop 0 (List.take 1 [enc y0]))))]))))else(G (((.row 0 q 0 q),([(.row false 5 1 (List.map enc x))],[]))))):At QH 1 (Zj 1 VP G) V4 0 27 [(0,.row 0 q 0 q),(1,.pv (.int .u64 m)),(3,.pv (.fn 105)),(9,.pv (.int .i64 i))] [.obj (.row false 5 1 (x.map enc))]:=At.to (.lit (.ask (.lit (.req (.req (.abs (UInt8) (fun YY=>AV.pv (enc YY)) (.lit (.lit (.req (.lit (.nil))))))))) (.nil))) h (by kernel_rfl)
noncomputable def O3:IC:=Xp Proofs.Tryz.f61
def OQ:List IRes:=[(.tmp 4)]
abbrev d1r:Nat:=50
def a3l:ZI:=YN [(102,.pure (preT (fun x:U64×Unit=>decide (0<=x.1.n)&&decide (x.1.n<18446744073709551616))) (Zk (fun x:U64×Unit=>(Yl x.1.n.toNat:Int)))),(103,.own (Jh 5 104 105) (Fx 105))]
theorem d5h{G:AV×List AObj×List AObj->Prop}(x:List UInt8)(q:Nat)(n:Int)(h:if (decide (n ≥ 120))=true then(Go.Pl.preT (fun(x:U64×Unit)=>decide (0<=U64.n x.1)&&decide (U64.n x.1<18446744073709551616)) [(.int IntKind.u64 (IntKind.wrap IntKind.u64 (IntKind.wrap IntKind.i64 (n - 120))))])=true∧(∃ y0:Int,AV.pv (Zk (fun(x:U64×Unit)=>(↑(Yl (Int.toNat (U64.n x.1))):Int)) [(.int IntKind.u64 (IntKind.wrap IntKind.u64 (IntKind.wrap IntKind.i64 (n - 120))))])=AV.pv (enc y0)∧((List.length (List.map enc x)==q&&q==q&&decide ((q+List.length (List.drop 0 (List.take 1 [PV.int IntKind.u8 (IntKind.wrap IntKind.u8 (IntKind.wrap IntKind.i64 (247+y0)))])))*1<=1099511627776)&&decide (q+List.length (List.drop 0 (List.take 1 [PV.int IntKind.u8 (IntKind.wrap IntKind.u8 (IntKind.wrap IntKind.i64 (247+y0)))]))<=1099511627776))=true∧((Jh 5 104 105 [(.row 0 (q+List.length (List.drop 0 (List.take 1 [PV.int IntKind.u8 (IntKind.wrap IntKind.u8 (IntKind.wrap IntKind.i64 (247+y0)))]))) 0 (q+List.length (List.drop 0 (List.take 1 [PV.int IntKind.u8 (IntKind.wrap IntKind.u8 (IntKind.wrap IntKind.i64 (247+y0)))])))),(.pv (.int IntKind.u64 (IntKind.wrap IntKind.u64 (IntKind.wrap IntKind.i64 (n - 120))))),(.pv (.int .i64 y0)),(.pv (.fn 104))] [(.row false 5 1 (List.map enc x++List.drop 0 (List.take 1 [PV.int IntKind.u8 (IntKind.wrap IntKind.u8 (IntKind.wrap IntKind.i64 (247+y0)))])))])=true∧(G (((.row 0 (q+List.length (List.drop 0 (List.take 1 [PV.int IntKind.u8 (IntKind.wrap IntKind.u8 (IntKind.wrap IntKind.i64 (247+y0)))]))+Int.toNat y0) 0 (q+List.length (List.drop 0 (List.take 1 [PV.int IntKind.u8 (IntKind.wrap IntKind.u8 (IntKind.wrap IntKind.i64 (247+y0)))]))+Int.toNat y0)),([(.row false 5 1 (List.map enc x++List.drop 0 (List.take 1 [PV.int IntKind.u8 (IntKind.wrap IntKind.u8 (IntKind.wrap IntKind.i64 (247+y0)))])++List.map enc (VT (104==105) (Int.toNat (IntKind.wrap IntKind.u64 (IntKind.wrap IntKind.i64 (n - 120)))) (Int.toNat y0))))],[])))))))else(if (decide (n<(-120:Int)))=true then(Go.Pl.preT (fun(x:U64×Unit)=>decide (0<=U64.n x.1)&&decide (U64.n x.1<18446744073709551616)) [(.int IntKind.u64 (IntKind.wrap IntKind.u64 (IntKind.wrap IntKind.i64 (-IntKind.wrap IntKind.i64 (n+121)))))])=true∧(∃ y1:Int,AV.pv (Zk (fun(x:U64×Unit)=>(↑(Yl (Int.toNat (U64.n x.1))):Int)) [(.int IntKind.u64 (IntKind.wrap IntKind.u64 (IntKind.wrap IntKind.i64 (-IntKind.wrap IntKind.i64 (n+121)))))])=AV.pv (enc y1)∧((List.length (List.map enc x)==q&&q==q&&decide ((q+List.length (List.drop 0 (List.take 1 [PV.int IntKind.u8 (IntKind.wrap IntKind.u8 (IntKind.wrap IntKind.i64 (8 - y1)))])))*1<=1099511627776)&&decide (q+List.length (List.drop 0 (List.take 1 [PV.int IntKind.u8 (IntKind.wrap IntKind.u8 (IntKind.wrap IntKind.i64 (8 - y1)))]))<=1099511627776))=true∧((Jh 5 104 105 [(.row 0 (q+List.length (List.drop 0 (List.take 1 [PV.int IntKind.u8 (IntKind.wrap IntKind.u8 (IntKind.wrap IntKind.i64 (8 - y1)))]))) 0 (q+List.length (List.drop 0 (List.take 1 [PV.int IntKind.u8 (IntKind.wrap IntKind.u8 (IntKind.wrap IntKind.i64 (8 - y1)))])))),(.pv (.int IntKind.u64 (IntKind.wrap IntKind.u64 (IntKind.wrap IntKind.i64 (-IntKind.wrap IntKind.i64 (n+121)))))),(.pv (.int .i64 y1)),(.pv (.fn 105))] [(.row false 5 1 (List.map enc x++List.drop 0 (List.take 1 [PV.int IntKind.u8 (IntKind.wrap IntKind.u8 (IntKind.wrap IntKind.i64 (8 - y1)))])))])=true∧(G (((.row 0 (q+List.length (List.drop 0 (List.take 1 [PV.int IntKind.u8 (IntKind.wrap IntKind.u8 (IntKind.wrap IntKind.i64 (8 - y1)))]))+Int.toNat y1) 0 (q+List.length (List.drop 0 (List.take 1 [PV.int IntKind.u8 (IntKind.wrap IntKind.u8 (IntKind.wrap IntKind.i64 (8 - y1)))]))+Int.toNat y1)),([(.row false 5 1 (List.map enc x++List.drop 0 (List.take 1 [PV.int IntKind.u8 (IntKind.wrap IntKind.u8 (IntKind.wrap IntKind.i64 (8 - y1)))])++List.map enc (VT (105==105) (Int.toNat (IntKind.wrap IntKind.u64 (IntKind.wrap IntKind.i64 (-IntKind.wrap IntKind.i64 (n+121))))) (Int.toNat y1))))],[])))))))else((List.length (List.map enc x)==q&&q==q&&decide ((q+List.length (List.drop 0 (List.take 1 [PV.int IntKind.u8 (IntKind.wrap IntKind.u8 (IntKind.wrap IntKind.i64 (n+128)))])))*1<=1099511627776)&&decide (q+List.length (List.drop 0 (List.take 1 [PV.int IntKind.u8 (IntKind.wrap IntKind.u8 (IntKind.wrap IntKind.i64 (n+128)))]))<=1099511627776))=true∧(G (((.row 0 (q+List.length (List.drop 0 (List.take 1 [PV.int IntKind.u8 (IntKind.wrap IntKind.u8 (IntKind.wrap IntKind.i64 (n+128)))]))) 0 (q+List.length (List.drop 0 (List.take 1 [PV.int IntKind.u8 (IntKind.wrap IntKind.u8 (IntKind.wrap IntKind.i64 (n+128)))])))),([(.row false 5 1 (List.map enc x++List.drop 0 (List.take 1 [PV.int IntKind.u8 (IntKind.wrap IntKind.u8 (IntKind.wrap IntKind.i64 (n+128)))])))],[]))))))):Zf a3l 1 (Zj 1 OQ G) O3 [] (ZN 50 [.row 0 q 0 q,.pv (.int .i64 n)] [.row false 5 1 (x.map enc)]):=Zf.to (.lit (.ask (.lit (.req (.abs (Int) (fun YY=>AV.pv (enc YY)) (.lit (.lit (.lit (.req (.req (.keep (.nil)))))))))) (.lit (.ask (.lit (.req (.abs (Int) (fun YY=>AV.pv (enc YY)) (.lit (.lit (.lit (.req (.req (.keep (.nil)))))))))) (.lit (.lit (.lit (.req (.nil))))))))) h (by kernel_rfl)
noncomputable def OU:IC:=Xp Proofs.Tryz.f62
def Ou:List IRes:=[(.tmp 2)]
abbrev c9r:Nat:=6
def a6h:ZI:=YN []
theorem d8u{G:AV×List AObj×List AObj->Prop}(x:List UInt8)(h:(List.isEmpty (List.map enc x)||Enc.sz UInt8==1)=true∧((List.length ([]:List PV)==0&&0==0&&decide ((0+List.length (List.map enc x))*1<=1099511627776)&&decide (0+List.length (List.map enc x)<=1099511627776))=true∧(G (((.row 0 (0+List.length (List.map enc x)) 0 (0+List.length (List.map enc x))),([],[(.row false 5 1 (([]:List PV)++List.map enc x))])))))):Zf a6h 0 (Zj 0 Ou G) OU [] (ZN 6 [.pv (enc x)] []):=Zf.to (.lit (.req (.req (.nil)))) h (by kernel_rfl)
noncomputable def Gb:IC:=Xp Proofs.Tryz.f30
def Hm:List IRes:=[(.tmp 4)]
abbrev a9m:Nat:=9
def Bw:ZI:=YN [(62,.own VQ (Bb 5)),(61,.own (Vl 5) HV)]
theorem d8l{G:PV->Prop}(x:List UInt8)(n:Int)(h:(VQ [(.pv (.sl 1 false (List.map enc x)))] [])=true∧((Vl 5 [(.row 0 (List.length (Za (enc x))) 0 (List.length (Za (enc x)))),(.pv (.int .i64 n))] [(.row false 5 1 (List.map enc (Za (enc x))))])=true∧((List.length (List.map enc (Za (enc x))++List.map enc (encI n))==List.length (Za (enc x))+List.length (encI n))=true∧(G ((.sl 1 false (List.drop 0 (List.take (List.length (Za (enc x))+List.length (encI n)) (List.map enc (Za (enc x))++List.map enc (encI n)))))))))):Zf Bw 0 (Ze Hm G) Gb [] (Yp 9 [enc x,.int .i64 n]):=Zf.tp (.req (.keep (.req (.keep (.req (.nil)))))) h (by kernel_rfl)
noncomputable def Oc:IC:=Xp Proofs.Tryz.f81
def OL:List IRes:=[(.tmp 4)]
abbrev c9m:Nat:=11
def a5z:ZI:=YN [(61,.own (Vl 5) HV)]
theorem d7u{G:AV×List AObj×List AObj->Prop}(x:List UInt8)(q:Nat)(s:List UInt8)(h:(Vl 5 [(.row 0 q 0 q),(.pv (.int .i64 (↑(List.length s):Int)))] [(.row false 5 1 (List.map enc x))])=true∧((List.length (List.map enc x++List.map enc (encI (↑(List.length s):Int)))==q+List.length (encI (↑(List.length s):Int))&&q+List.length (encI (↑(List.length s):Int))==q+List.length (encI (↑(List.length s):Int))&&decide ((q+List.length (encI (↑(List.length s):Int))+List.length (ZE s))*1<=1099511627776)&&decide (q+List.length (encI (↑(List.length s):Int))+List.length (ZE s)<=1099511627776))=true∧(G (((.row 0 (q+List.length (encI (↑(List.length s):Int))+List.length (ZE s)) 0 (q+List.length (encI (↑(List.length s):Int))+List.length (ZE s))),([(.row false 5 1 (List.map enc x++List.map enc (encI (↑(List.length s):Int))++ZE s))],[])))))):Zf a5z 1 (Zj 1 OL G) Oc [] (ZN 11 [.row 0 q 0 q,.pv (.str s)] [.row false 5 1 (x.map enc)]):=Zf.to (.req (.keep (.req (.nil)))) h (by kernel_rfl)
noncomputable def Rj:IC:=Xp Proofs.Tryz.f43
def TQ:List IRes:=[(.tmp 4)]
abbrev c7h:Nat:=9
def Od:ZI:=YN [(62,.own VQ (Bb 5)),(81,.own (DI 5) Oe)]
theorem c8y{G:PV->Prop}(x:List UInt8)(s:List UInt8)(h:(VQ [(.pv (.sl 1 false (List.map enc x)))] [])=true∧((DI 5 [(.row 0 (List.length (Za (enc x))) 0 (List.length (Za (enc x)))),(.pv (.str s))] [(.row false 5 1 (List.map enc (Za (enc x))))])=true∧((List.length (List.map enc (Za (enc x))++List.map enc (encS s))==List.length (Za (enc x))+List.length (encS s))=true∧(G ((.sl 1 false (List.drop 0 (List.take (List.length (Za (enc x))+List.length (encS s)) (List.map enc (Za (enc x))++List.map enc (encS s)))))))))):Zf Od 0 (Ze TQ G) Rj [] (Yp 9 [enc x,.str s]):=Zf.tp (.req (.keep (.req (.keep (.req (.nil)))))) h (by kernel_rfl)
noncomputable def QZ:IC:=Xp Proofs.Tryz.f15
def Q5:List IRes:=[(.tmp 4)]
abbrev c8m:Nat:=31
def JL:ZI:=YN [(30,.pure (preT (fun x:List UInt8×Int×Unit=>decide (x.1.length<=1000000))) (Zk (fun x:List UInt8×Int×Unit=>x.1++encI x.2.1))),(43,.pure (preT (fun x:List UInt8×Str×Unit=>decide (x.1.length<=1000000)&&decide (x.2.1.s.length<=1000000))) (Zk (fun x:List UInt8×Str×Unit=>x.1++encS x.2.1.s)))]
theorem d7t{G:PV->Prop}(x:List UInt8)(l:Lin)(h:(Go.Pl.preT (fun(x:List UInt8×Int×Unit)=>decide (List.length x.1<=1000000)) [(.sl 1 false (List.map enc x)),(.int .i64 l.k)])=true∧(∃ y0:List UInt8,AV.pv (Zk (fun(x:List UInt8×Int×Unit)=>x.1++encI x.2.1) [(.sl 1 false (List.map enc x)),(.int .i64 l.k)])=AV.pv (enc y0)∧((Go.Pl.preT (fun(x:List UInt8×Int×Unit)=>decide (List.length x.1<=1000000)) [(.sl 1 false (List.map enc y0)),(.int .i64 (↑(List.length (List.map enc l.t)):Int))])=true∧(∃ y1:List UInt8,AV.pv (Zk (fun(x:List UInt8×Int×Unit)=>x.1++encI x.2.1) [(.sl 1 false (List.map enc y0)),(.int .i64 (↑(List.length (List.map enc l.t)):Int))])=AV.pv (enc y1)∧(At JL 0 (Ze Q5 G) QZ 0 31 [(0,(.pv (.sl 1 false (List.map enc y1)))),(16,(.pv (.sl 2 false (List.map enc l.t)))),(17,(.pv (.int .i64 (↑(List.length (List.map enc l.t)):Int)))),(18,(.pv (.int .i64 0)))] []))))):Zf JL 0 (Ze Q5 G) QZ [] (Yp 31 [enc x,.agg [enc l.k,enc l.t]]):=Zf.tp (.req (.abs (List UInt8) (fun YY=>AV.pv (enc YY)) (.req (.abs (List UInt8) (fun YY=>AV.pv (enc YY)) (.nil))))) h (by kernel_rfl)
theorem a8m{G:PV->Prop}(x:List UInt8)(l:Lin)(y:List UInt8)(i:Int)(h:if (decide (i<(↑(List.length l.t):Int)))=true then(decide (0<=i)&&decide (Int.toNat i<List.length (List.map enc l.t))&&Enc.sz Coef==2)=true∧(∃ y0:Coef,AV.pv (PV.rptr (PV.cells (List.getD (List.map enc l.t) (Int.toNat i) default)))=AV.pv (PV.rptr (PV.cells ((enc) y0)))∧((Go.Pl.preT (fun(x:List UInt8×Str×Unit)=>decide (List.length x.1<=1000000)&&decide (List.length (Str.s x.2.1)<=1000000)) [(.sl 1 false (List.map enc y)),(.str (PV.asStr (List.getD (PV.cells (enc y0)) 0 default)))])=true∧(∃ y1:List UInt8,AV.pv (Zk (fun(x:List UInt8×Str×Unit)=>x.1++encS (Str.s x.2.1)) [(.sl 1 false (List.map enc y)),(.str (PV.asStr (List.getD (PV.cells (enc y0)) 0 default)))])=AV.pv (enc y1)∧((Go.Pl.preT (fun(x:List UInt8×Int×Unit)=>decide (List.length x.1<=1000000)) [(.sl 1 false (List.map enc y1)),(.int .i64 (PV.asInt (List.getD (PV.cells (enc y0)) (0+1) default)))])=true∧(∃ y2:List UInt8,AV.pv (Zk (fun(x:List UInt8×Int×Unit)=>x.1++encI x.2.1) [(.sl 1 false (List.map enc y1)),(.int .i64 (PV.asInt (List.getD (PV.cells (enc y0)) (0+1) default)))])=AV.pv (enc y2)∧(At JL 0 (Ze Q5 G) QZ 0 31 [(0,(.pv (.sl 1 false (List.map enc y2)))),(16,(.pv (.sl 2 false (List.map enc l.t)))),(17,(.pv (.int .i64 (↑(List.length l.t):Int)))),(18,(.pv (.int .i64 (IntKind.wrap IntKind.i64 (i+1)))))] []))))))else(G ((.sl 1 false (List.map enc y))))):At JL 0 (Ze Q5 G) QZ 0 31 [(0,.pv (enc y)),(16,.pv (enc l.t)),(17,.pv (.int .i64 l.t.length)),(18,.pv (.int .i64 i))] []:=At.tp (.lit (.ask (.req (.abs (Coef) (fun YY=>AV.pv (PV.rptr (PV.cells ((enc) YY)))) (.lit (.req (.abs (List UInt8) (fun YY=>AV.pv (enc YY)) (.req (.abs (List UInt8) (fun YY=>AV.pv (enc YY)) (.lit (.nil))))))))) (.nil))) h (by kernel_rfl)
noncomputable def Wi:IC:=Xp Proofs.Tryz.f64
def Xh:List IRes:=[(.tmp 2),(.tmp 3)]
abbrev b7b:Nat:=31
def X3:ZI:=YN []
theorem b9t{G:PV->Prop}(n:Int)(h:if (decide (n ≥ (-120:Int)))=true then if (decide (n<=119))=true then G ((.tup [(.int .i64 0),(.int IntKind.u64 0)]))else(if (decide (n<0))=true then At X3 0 (Ze Xh G) Wi 0 31 [(4,(.pv (.int IntKind.u64 (IntKind.wrap IntKind.u64 (IntKind.wrap IntKind.i64 ((-121:Int) - n)))))),(5,(.pv (.int .i64 1))),(6,(.pv (.int IntKind.u64 (Int.fdiv (IntKind.wrap IntKind.u64 (IntKind.wrap IntKind.i64 ((-121:Int) - n))) (2 ^ min (Int.toNat 8) (IntKind.bits IntKind.u64))))))] []else(At X3 0 (Ze Xh G) Wi 0 31 [(4,(.pv (.int IntKind.u64 (IntKind.wrap IntKind.u64 (IntKind.wrap IntKind.u64 n - 120))))),(5,(.pv (.int .i64 1))),(6,(.pv (.int IntKind.u64 (Int.fdiv (IntKind.wrap IntKind.u64 (IntKind.wrap IntKind.u64 n - 120)) (2 ^ min (Int.toNat 8) (IntKind.bits IntKind.u64))))))] []))else(if (decide (n<0))=true then At X3 0 (Ze Xh G) Wi 0 31 [(4,(.pv (.int IntKind.u64 (IntKind.wrap IntKind.u64 (IntKind.wrap IntKind.i64 ((-121:Int) - n)))))),(5,(.pv (.int .i64 1))),(6,(.pv (.int IntKind.u64 (Int.fdiv (IntKind.wrap IntKind.u64 (IntKind.wrap IntKind.i64 ((-121:Int) - n))) (2 ^ min (Int.toNat 8) (IntKind.bits IntKind.u64))))))] []else(At X3 0 (Ze Xh G) Wi 0 31 [(4,(.pv (.int IntKind.u64 (IntKind.wrap IntKind.u64 (IntKind.wrap IntKind.u64 n - 120))))),(5,(.pv (.int .i64 1))),(6,(.pv (.int IntKind.u64 (Int.fdiv (IntKind.wrap IntKind.u64 (IntKind.wrap IntKind.u64 n - 120)) (2 ^ min (Int.toNat 8) (IntKind.bits IntKind.u64))))))] []))):Zf X3 0 (Ze Xh G) Wi [] (Yp 31 [.int .i64 n]):=Zf.tp (.lit (.ask (.lit (.lit (.lit (.ask (.nil) (.lit (.lit (.ask (.lit (.lit (.nil))) (.lit (.nil))))))))) (.lit (.lit (.lit (.lit (.lit (.ask (.lit (.lit (.nil))) (.lit (.nil)))))))))) h (by kernel_rfl)
theorem Ai{G:PV->Prop}(n:Int)(m r k:Int)(h:if (decide (r>0))=true then At X3 0 (Ze Xh G) Wi 0 31 [(4,(.pv (.int IntKind.u64 m))),(5,(.pv (.int .i64 (IntKind.wrap IntKind.i64 (k+1))))),(6,(.pv (.int IntKind.u64 (Int.fdiv r (2 ^ min (Int.toNat 8) (IntKind.bits IntKind.u64))))))] []else(G ((.tup [(.int .i64 k),(.int IntKind.u64 m)])))):At X3 0 (Ze Xh G) Wi 0 31 [(4,.pv (.int .u64 m)),(5,.pv (.int .i64 k)),(6,.pv (.int .u64 r))] []:=At.tp (.lit (.ask (.lit (.lit (.nil))) (.nil))) h (by kernel_rfl)
noncomputable def U9:IC:=Xp Proofs.Tryz.f33
def Qc:List IRes:=[(.tmp 4)]
abbrev d0a:Nat:=60
def Je:ZI:=YN [(64,.pure (preT (fun x:Int×Unit=>true)) (Zk (fun x:Int×Unit=>Wp x.1)))]
theorem d5i{G:AV×List AObj×List AObj->Prop}(x:List UInt8)(n:Int)(h:(List.isEmpty (List.map enc x)||Enc.sz UInt8==1)=true∧((List.length ([]:List PV)==0&&0==0&&decide ((0+List.length (List.map enc x))*1<=1099511627776)&&decide (0+List.length (List.map enc x)<=1099511627776))=true∧(∃ y0:Int×U64,AV.pv (Zk (fun(x:Int×Unit)=>Wp x.1) [(.int .i64 n)])=AV.pv (enc y0)∧(if (y0.1==0)=true then(List.length (([]:List PV)++List.map enc x)==0+List.length (List.map enc x)&&0+List.length (List.map enc x)==0+List.length (List.map enc x)&&decide ((0+List.length (List.map enc x)+List.length (List.drop 0 (List.take 1 [PV.int IntKind.u8 (IntKind.wrap IntKind.u8 (IntKind.wrap IntKind.i64 (n+128)))])))*1<=1099511627776)&&decide (0+List.length (List.map enc x)+List.length (List.drop 0 (List.take 1 [PV.int IntKind.u8 (IntKind.wrap IntKind.u8 (IntKind.wrap IntKind.i64 (n+128)))]))<=1099511627776))=true∧(G (((.row 0 (0+List.length (List.map enc x)+List.length (List.drop 0 (List.take 1 [PV.int IntKind.u8 (IntKind.wrap IntKind.u8 (IntKind.wrap IntKind.i64 (n+128)))]))) 0 (0+List.length (List.map enc x)+List.length (List.drop 0 (List.take 1 [PV.int IntKind.u8 (IntKind.wrap IntKind.u8 (IntKind.wrap IntKind.i64 (n+128)))])))),([],[(.row false 5 1 (([]:List PV)++List.map enc x++List.drop 0 (List.take 1 [PV.int IntKind.u8 (IntKind.wrap IntKind.u8 (IntKind.wrap IntKind.i64 (n+128)))])))]))))else(if (decide (n<0))=true then(List.length (([]:List PV)++List.map enc x)==0+List.length (List.map enc x)&&0+List.length (List.map enc x)==0+List.length (List.map enc x)&&decide ((0+List.length (List.map enc x)+List.length (List.drop 0 (List.take 1 [PV.int IntKind.u8 (IntKind.wrap IntKind.u8 (IntKind.wrap IntKind.i64 (8 - y0.1)))])))*1<=1099511627776)&&decide (0+List.length (List.map enc x)+List.length (List.drop 0 (List.take 1 [PV.int IntKind.u8 (IntKind.wrap IntKind.u8 (IntKind.wrap IntKind.i64 (8 - y0.1)))]))<=1099511627776))=true∧(At Je 0 (Zj 0 Qc G) U9 0 60 [(1,(.pv (.int .i64 n))),(5,(.row 0 (0+List.length (List.map enc x)+List.length (List.drop 0 (List.take 1 [PV.int IntKind.u8 (IntKind.wrap IntKind.u8 (IntKind.wrap IntKind.i64 (8 - y0.1)))]))) 0 (0+List.length (List.map enc x)+List.length (List.drop 0 (List.take 1 [PV.int IntKind.u8 (IntKind.wrap IntKind.u8 (IntKind.wrap IntKind.i64 (8 - y0.1)))]))))),(7,(.pv (.int IntKind.u64 (U64.n y0.2)))),(8,(.pv (.int .i64 (IntKind.wrap IntKind.i64 (y0.1 - 1)))))] [(.obj (.row false 5 1 (([]:List PV)++List.map enc x++List.drop 0 (List.take 1 [PV.int IntKind.u8 (IntKind.wrap IntKind.u8 (IntKind.wrap IntKind.i64 (8 - y0.1)))]))))])else((List.length (([]:List PV)++List.map enc x)==0+List.length (List.map enc x)&&0+List.length (List.map enc x)==0+List.length (List.map enc x)&&decide ((0+List.length (List.map enc x)+List.length (List.drop 0 (List.take 1 [PV.int IntKind.u8 (IntKind.wrap IntKind.u8 (IntKind.wrap IntKind.i64 (247+y0.1)))])))*1<=1099511627776)&&decide (0+List.length (List.map enc x)+List.length (List.drop 0 (List.take 1 [PV.int IntKind.u8 (IntKind.wrap IntKind.u8 (IntKind.wrap IntKind.i64 (247+y0.1)))]))<=1099511627776))=true∧(At Je 0 (Zj 0 Qc G) U9 0 60 [(1,(.pv (.int .i64 n))),(5,(.row 0 (0+List.length (List.map enc x)+List.length (List.drop 0 (List.take 1 [PV.int IntKind.u8 (IntKind.wrap IntKind.u8 (IntKind.wrap IntKind.i64 (247+y0.1)))]))) 0 (0+List.length (List.map enc x)+List.length (List.drop 0 (List.take 1 [PV.int IntKind.u8 (IntKind.wrap IntKind.u8 (IntKind.wrap IntKind.i64 (247+y0.1)))]))))),(7,(.pv (.int IntKind.u64 (U64.n y0.2)))),(8,(.pv (.int .i64 (IntKind.wrap IntKind.i64 (y0.1 - 1)))))] [(.obj (.row false 5 1 (([]:List PV)++List.map enc x++List.drop 0 (List.take 1 [PV.int IntKind.u8 (IntKind.wrap IntKind.u8 (IntKind.wrap IntKind.i64 (247+y0.1)))]))))]))))))):Zf Je 0 (Zj 0 Qc G) U9 [] (ZN 60 [.pv (enc x),.pv (.int .i64 n)] []):=Zf.to (.lit (.req (.req (.lit (.abs (Int×U64) (fun YY=>AV.pv (enc YY)) (.lit (.ask (.lit (.lit (.lit (.req (.nil))))) (.lit (.ask (.lit (.lit (.lit (.req (.lit (.nil)))))) (.lit (.lit (.lit (.req (.lit (.nil))))))))))))))) h (by kernel_rfl)
theorem a9v{G:AV×List AObj×List AObj->Prop}(x:List UInt8)(n:Int)(y:List UInt8)(q:Nat)(m i:Int)(h:if (decide (i ≥ 0))=true then(decide (0<=IntKind.wrap IntKind.i64 (8*i)))=true∧(if (decide (n<0))=true then(List.length (List.map enc y)==q&&q==q&&decide ((q+List.length (List.drop 0 (List.take 1 [PV.int IntKind.u8 (IntKind.wrap IntKind.u8 (255 - IntKind.wrap IntKind.u8 (Int.fdiv m (2 ^ min (Int.toNat (IntKind.wrap IntKind.i64 (8*i))) (IntKind.bits IntKind.u64)))))])))*1<=1099511627776)&&decide (q+List.length (List.drop 0 (List.take 1 [PV.int IntKind.u8 (IntKind.wrap IntKind.u8 (255 - IntKind.wrap IntKind.u8 (Int.fdiv m (2 ^ min (Int.toNat (IntKind.wrap IntKind.i64 (8*i))) (IntKind.bits IntKind.u64)))))]))<=1099511627776))=true∧(At Je 0 (Zj 0 Qc G) U9 0 60 [(1,(.pv (.int .i64 n))),(5,(.row 0 (q+List.length (List.drop 0 (List.take 1 [PV.int IntKind.u8 (IntKind.wrap IntKind.u8 (255 - IntKind.wrap IntKind.u8 (Int.fdiv m (2 ^ min (Int.toNat (IntKind.wrap IntKind.i64 (8*i))) (IntKind.bits IntKind.u64)))))]))) 0 (q+List.length (List.drop 0 (List.take 1 [PV.int IntKind.u8 (IntKind.wrap IntKind.u8 (255 - IntKind.wrap IntKind.u8 (Int.fdiv m (2 ^ min (Int.toNat (IntKind.wrap IntKind.i64 (8*i))) (IntKind.bits IntKind.u64)))))]))))),(7,(.pv (.int IntKind.u64 m))),(8,(.pv (.int .i64 (IntKind.wrap IntKind.i64 (i - 1)))))] [(.obj (.row false 5 1 (List.map enc y++List.drop 0 (List.take 1 [PV.int IntKind.u8 (IntKind.wrap IntKind.u8 (255 - IntKind.wrap IntKind.u8 (Int.fdiv m (2 ^ min (Int.toNat (IntKind.wrap IntKind.i64 (8*i))) (IntKind.bits IntKind.u64)))))]))))])else((List.length (List.map enc y)==q&&q==q&&decide ((q+List.length (List.drop 0 (List.take 1 [PV.int IntKind.u8 (IntKind.wrap IntKind.u8 (Int.fdiv m (2 ^ min (Int.toNat (IntKind.wrap IntKind.i64 (8*i))) (IntKind.bits IntKind.u64))))])))*1<=1099511627776)&&decide (q+List.length (List.drop 0 (List.take 1 [PV.int IntKind.u8 (IntKind.wrap IntKind.u8 (Int.fdiv m (2 ^ min (Int.toNat (IntKind.wrap IntKind.i64 (8*i))) (IntKind.bits IntKind.u64))))]))<=1099511627776))=true∧(At Je 0 (Zj 0 Qc G) U9 0 60 [(1,(.pv (.int .i64 n))),(5,(.row 0 (q+List.length (List.drop 0 (List.take 1 [PV.int IntKind.u8 (IntKind.wrap IntKind.u8 (Int.fdiv m (2 ^ min (Int.toNat (IntKind.wrap IntKind.i64 (8*i))) (IntKind.bits IntKind.u64))))]))) 0 (q+List.length (List.drop 0 (List.take 1 [PV.int IntKind.u8 (IntKind.wrap IntKind.u8 (Int.fdiv m (2 ^ min (Int.toNat (IntKind.wrap IntKind.i64 (8*i))) (IntKind.bits IntKind.u64))))]))))),(7,(.pv (.int IntKind.u64 m))),(8,(.pv (.int .i64 (IntKind.wrap IntKind.i64 (i - 1)))))] [(.obj (.row false 5 1 (List.map enc y++List.drop 0 (List.take 1 [PV.int IntKind.u8 (IntKind.wrap IntKind.u8 (Int.fdiv m (2 ^ min (Int.toNat (IntKind.wrap IntKind.i64 (8*i))) (IntKind.bits IntKind.u64))))]))))])))else(G (((.row 0 q 0 q),([],[(.row false 5 1 (List.map enc y))]))))):At Je 0 (Zj 0 Qc G) U9 0 60 [(1,.pv (.int .i64 n)),(5,.row 0 q 0 q),(7,.pv (.int .u64 m)),(8,.pv (.int .i64 i))] [.obj (.row false 5 1 (y.map enc))]:=At.to (.lit (.ask (.lit (.req (.lit (.ask (.lit (.lit (.lit (.req (.lit (.nil)))))) (.lit (.lit (.req (.lit (.nil))))))))) (.nil))) h (by kernel_rfl)
noncomputable def Av:IC:=Xp Proofs.Tryz.f44
def BM:List IRes:=[(.tmp 4)]
abbrev b4k:Nat:=11
def TT:ZI:=YN [(33,.own Wy (WC 5))]
theorem c1k{G:PV->Prop}(x:List UInt8)(s:List UInt8)(h:(Wy [(.pv (.sl 1 false (List.map enc x))),(.pv (.int .i64 (↑(List.length s):Int)))] [])=true∧((List.length (List.map enc (Za (enc x)++encI (↑(List.length s):Int)))==List.length (Za (enc x)++encI (↑(List.length s):Int))&&List.length (Za (enc x)++encI (↑(List.length s):Int))==List.length (Za (enc x)++encI (↑(List.length s):Int))&&decide ((List.length (Za (enc x)++encI (↑(List.length s):Int))+List.length (ZE s))*1<=1099511627776)&&decide (List.length (Za (enc x)++encI (↑(List.length s):Int))+List.length (ZE s)<=1099511627776))=true∧((List.length (List.map enc (Za (enc x)++encI (↑(List.length s):Int))++ZE s)==List.length (Za (enc x)++encI (↑(List.length s):Int))+List.length (ZE s))=true∧(G ((.sl 1 false (List.drop 0 (List.take (List.length (Za (enc x)++encI (↑(List.length s):Int))+List.length (ZE s)) (List.map enc (Za (enc x)++encI (↑(List.length s):Int))++ZE s))))))))):Zf TT 0 (Ze BM G) Av [] (Yp 11 [enc x,.str s]):=Zf.tp (.req (.keep (.req (.req (.nil))))) h (by kernel_rfl)
noncomputable def Rn:IC:=Xp Proofs.Tryz.f8
def Rv:List IRes:=[(.tmp 4)]
abbrev c7f:Nat:=10
def OX:ZI:=YN []
theorem d0l{G:PV->Prop}(x y:List UInt8)(h:(List.all (List.map enc x) SE&&(List.isEmpty (List.map enc x)||Enc.sz UInt8==1))=true∧((List.all (List.map enc y) SE&&(List.isEmpty (List.map enc y)||Enc.sz UInt8==1))=true∧(G ((.bool (Xl (List.map enc x)==Xl (List.map enc y))))))):Zf OX 0 (Ze Rv G) Rn [] (Yp 10 [enc x,enc y]):=Zf.tp (.req (.req (.lit (.nil)))) h (by kernel_rfl)
noncomputable def UV:IC:=Xp Proofs.Tryz.f16
def UL:List IRes:=[(.tmp 4)]
abbrev c6s:Nat:=38
def Q9:ZI:=YN [(33,.pure (preT (fun x:List UInt8×Int×Unit=>decide (x.1.length<=1000000))) (Zk (fun x:List UInt8×Int×Unit=>x.1++encI x.2.1))),(44,.pure (preT (fun x:List UInt8×Str×Unit=>decide (x.1.length<=1000000)&&decide (x.2.1.s.length<=1000000))) (Zk (fun x:List UInt8×Str×Unit=>x.1++encS x.2.1.s)))]
theorem d0x{G:PV->Prop}(x:List UInt8)(l:Lin)(h:(Go.Pl.preT (fun(x:List UInt8×Int×Unit)=>decide (List.length x.1<=1000000)) [(.sl 1 false (List.map enc x)),(.int .i64 l.k)])=true∧(∃ y0:List UInt8,AV.pv (Zk (fun(x:List UInt8×Int×Unit)=>x.1++encI x.2.1) [(.sl 1 false (List.map enc x)),(.int .i64 l.k)])=AV.pv (enc y0)∧((Go.Pl.preT (fun(x:List UInt8×Int×Unit)=>decide (List.length x.1<=1000000)) [(.sl 1 false (List.map enc y0)),(.int .i64 (↑(List.length (List.map enc l.t)):Int))])=true∧(∃ y1:List UInt8,AV.pv (Zk (fun(x:List UInt8×Int×Unit)=>x.1++encI x.2.1) [(.sl 1 false (List.map enc y0)),(.int .i64 (↑(List.length (List.map enc l.t)):Int))])=AV.pv (enc y1)∧(At Q9 0 (Ze UL G) UV 0 38 [(3,(.ptr 0 0)),(5,(.pv (.sl 1 false (List.map enc y1)))),(6,(.pv (.int .i64 0)))] [(.obj (.box [(.pv (.int .i64 l.k)),(.pv (.sl 2 false (List.map enc l.t)))]))]))))):Zf Q9 0 (Ze UL G) UV [] (Yp 38 [enc x,.agg [enc l.k,enc l.t]]):=Zf.tp (.req (.abs (List UInt8) (fun YY=>AV.pv (enc YY)) (.req (.abs (List UInt8) (fun YY=>AV.pv (enc YY)) (.nil))))) h (by kernel_rfl)
theorem a2j{G:PV->Prop}(x:List UInt8)(l:Lin)(y:List UInt8)(i:Int)(h:if (decide (i<(↑(List.length (List.map enc l.t)):Int)))=true then(decide (0<=i)&&decide (Int.toNat i<List.length (List.map enc l.t))&&Enc.sz Coef==2)=true∧(∃ y0:Coef,AV.pv (PV.rptr (PV.cells (List.getD (List.map enc l.t) (Int.toNat i) default)))=AV.pv (PV.rptr (PV.cells ((enc) y0)))∧((Go.Pl.preT (fun(x:List UInt8×Str×Unit)=>decide (List.length x.1<=1000000)&&decide (List.length (Str.s x.2.1)<=1000000)) [(.sl 1 false (List.map enc y)),(.str (PV.asStr (List.getD (List.drop 0 (PV.cells (enc y0))) 0 default)))])=true∧(∃ y1:List UInt8,AV.pv (Zk (fun(x:List UInt8×Str×Unit)=>x.1++encS (Str.s x.2.1)) [(.sl 1 false (List.map enc y)),(.str (PV.asStr (List.getD (List.drop 0 (PV.cells (enc y0))) 0 default)))])=AV.pv (enc y1)∧((decide (0<=i)&&decide (Int.toNat i<List.length (List.map enc l.t))&&Enc.sz Coef==2)=true∧(∃ y2:Coef,AV.pv (PV.rptr (PV.cells (List.getD (List.map enc l.t) (Int.toNat i) default)))=AV.pv (PV.rptr (PV.cells ((enc) y2)))∧((Go.Pl.preT (fun(x:List UInt8×Int×Unit)=>decide (List.length x.1<=1000000)) [(.sl 1 false (List.map enc y1)),(.int .i64 (PV.asInt (List.getD (List.drop 1 (PV.cells (enc y2))) 0 default)))])=true∧(∃ y3:List UInt8,AV.pv (Zk (fun(x:List UInt8×Int×Unit)=>x.1++encI x.2.1) [(.sl 1 false (List.map enc y1)),(.int .i64 (PV.asInt (List.getD (List.drop 1 (PV.cells (enc y2))) 0 default)))])=AV.pv (enc y3)∧(At Q9 0 (Ze UL G) UV 0 38 [(3,(.ptr 0 0)),(5,(.pv (.sl 1 false (List.map enc y3)))),(6,(.pv (.int .i64 (IntKind.wrap IntKind.i64 (i+1)))))] [(.obj (.box [(.pv (.int .i64 l.k)),(.pv (.sl 2 false (List.map enc l.t)))]))]))))))))else(G ((.sl 1 false (List.map enc y))))):At Q9 0 (Ze UL G) UV 0 38 [(3,.ptr 0 0),(5,.pv (enc y)),(6,.pv (.int .i64 i))] [.obj (.box [.pv (enc l.k),.pv (enc l.t)])]:=At.tp (.lit (.ask (.req (.abs (Coef) (fun YY=>AV.pv (PV.rptr (PV.cells ((enc) YY)))) (.lit (.req (.abs (List UInt8) (fun YY=>AV.pv (enc YY)) (.req (.abs (Coef) (fun YY=>AV.pv (PV.rptr (PV.cells ((enc) YY)))) (.lit (.req (.abs (List UInt8) (fun YY=>AV.pv (enc YY)) (.lit (.nil)))))))))))) (.nil))) h (by kernel_rfl)
end Go.Pl
namespace Go.Pl
open Go.RowKit
open Enc (enc dec is)
open EncL (encL decL isL)
theorem Yi{α β:Type}[EncL α][Enc β]{F:α->β}{ps:List PV}{P:β->Prop}{v:β}(a:α)(h:ps=encL a)(hv:F a=v)(k:P v): ∃ y,AV.pv (Zk F ps)=AV.pv (enc y)∧P y:=Zq a h (by rw[hv];exact k)
theorem Cx(n:Int):IntKind.wrap IntKind.u8 n=n % 256:=by
 unfold IntKind.wrap
 simp[IntKind.bits,IntKind.signed]
theorem KC(n:Int):IntKind.wrap IntKind.u64 n=n % 18446744073709551616:=by
 unfold IntKind.wrap
 simp[IntKind.bits,IntKind.signed]
theorem H6(X:Nat):PV.int IntKind.u8 (IntKind.wrap IntKind.u8 (X:Int))=enc (UInt8.ofNat X):=by
 show _=PV.int IntKind.u8 (((UInt8.ofNat X).toNat:Nat):Int)
 rw[Cx,UInt8.toNat_ofNat']
 congr 1
theorem d3e(j:Nat):(2:Int) ^ (8*j)=((256 ^ j:Nat):Int):=by
 rw[Int.natCast_pow,Int.pow_mul]
 rfl
theorem ES(M K:Nat):Int.fdiv (M:Int) (K:Int)=((M / K:Nat):Int):=by
 rw[Int.fdiv_eq_ediv_of_nonneg _ (by omega),Int.natCast_ediv]
theorem Ll(M j:Nat)(hj:j<=8):Int.fdiv (M:Int) (2 ^ min (Int.toNat (IntKind.wrap IntKind.i64 (8*(j:Int)))) (IntKind.bits IntKind.u64))=((M / 256 ^ j:Nat):Int):=by
 have h1:IntKind.wrap IntKind.i64 (8*(j:Int))=((8*j:Nat):Int):=by rw[Yn (by omega) (by omega)];omega
 have h2:min (8*j) (IntKind.bits IntKind.u64)=8*j:=by
  show min (8*j) 64=8*j
  omega
 rw[h1,Int.toNat_natCast,h2,d3e,ES]
theorem Lt(j:Nat)(hj:j<=8):decide (0<=IntKind.wrap IntKind.i64 (8*(j:Int)))=true:=by
 rw[Yn (by omega) (by omega)]
 exact decide_eq_true (by omega)
theorem b5e: ∀ x:UInt8×Unit,true=true->Zf Fv 0 (Ze RX (ZB x.1)) TF [] (Yp c0e (encL x)):=by
 rintro⟨c,⟨⟩⟩ _
 exact d0y c (YC rfl)
theorem b4t: ∀ x:UInt8×Unit,true=true->Zf LK 0 (Ze Rl (ZB (255 - x.1:UInt8))) TV [] (Yp c0m (encL x)):=by
 rintro⟨c,⟨⟩⟩ _
 refine c8s c ?_
 have h:IntKind.wrap IntKind.u8 (255 - (c.toNat:Int))=((255 - c:UInt8).toNat:Int):=by
  have:=UInt8.toNat_lt c
  rw[Cx,UInt8.toNat_sub]
  simp
  omega
 rw[h]
 exact YC (x:=(255 - c:UInt8)) rfl
theorem b5s(M:Nat): ∀ (f k:Nat),f+k=8->1<=k->At Dn 0 (Ze Jg (ZB ((Kj M f k:Nat):Int))) Jd 0 16 [(0,.pv (.int .u64 (M:Int))),(3,.pv (.int .i64 (k:Int)))] []:=by
 intro f
 induction f with
 | zero=>
  intro k hk h1
  exact a7u M k (Zv (by simp;omega) (U3 rfl))
 | succ f ih=>
  intro k hk h1
  refine a7u M k (Zu (by simp;omega) ⟨Lt k (by omega),?_⟩)
  rw[Ll M k (by omega),next (by omega),Kj]
  by_cases h:0<M / 256 ^ k
  ·rw[if_pos (show k<8∧0<M / 256 ^ k from⟨by omega,h⟩)]
   exact Zu (decide_eq_true (by omega)) (ih (k+1) (by omega) (by omega))
  ·rw[if_neg (show ¬ (k<8∧0<M / 256 ^ k)from fun e=>h e.2)]
   exact Zv (fun e=>h (Int.natCast_pos.mp (of_decide_eq_true e))) (U3 rfl)
theorem c1z: ∀ x:U64×Unit,(decide (0<=x.1.n)&&decide (x.1.n<18446744073709551616))=true->Zf Dn 0 (Ze Jg (ZB (Yl x.1.n.toNat:Int))) Jd [] (Yp d2a (encL x)):=by
 rintro⟨⟨m⟩,⟨⟩⟩ h
 simp only[Bool.and_eq_true,decide_eq_true_eq]at h
 obtain⟨M,rfl⟩ : ∃ M:Nat,m=(M:Int):=⟨m.toNat,by omega⟩
 exact d8i M (b5s M 7 1 (by omega) (by omega))
theorem GU{x:List UInt8}{q:Nat}(hq:x.length=q)(h:q<=10000100)(b:PV):((List.map (enc:UInt8->PV) x).length==q&&q==q&&decide ((q+List.length (List.drop 0 (List.take 1 [b])))*1<=1099511627776)&&decide (q+List.length (List.drop 0 (List.take 1 [b]))<=1099511627776))=true:=by
 rw[List.length_map,hq]
 simp
 omega
theorem NN{G:AV×List AObj×List AObj->Prop}(t:Bool)(M:Nat)(k:Int): ∀ (j q:Nat) (x:List UInt8),j<=8->x.length=q->q+j<=10000100 ->
  G (.row 0 (q+j) 0 (q+j),[.row false 5 1 ((x++VT t M j).map enc)],[]) ->
  At QH 1 (Zj 1 VP G) V4 0 27
   [(0,.row 0 q 0 q),(1,.pv (.int .u64 (M:Int))),(3,.pv (.fn (bif t then 105 else 104))),(9,.pv (.int .i64 ((j:Int) - 1)))] [.obj (.row false 5 1 (x.map enc))]:=by
 intro j
 induction j with
 | zero=>
  intro q x hj hq h hG
  rw[VT,List.append_nil]at hG
  cases t
  ·exact a9b x q M k _ (Zv (by simp) hG)
  ·exact a8y x q M k _ (Zv (by simp) hG)
 | succ j ih=>
  intro q x hj hq h hG
  have hi:((j+1:Nat):Int) - 1=(j:Int):=by omega
  have hd:IntKind.wrap IntKind.i64 ((j:Int) - 1)=(j:Int) - 1:=Yn (by omega) (by omega)
  have h':=ih (q+1) (x++[byT t (M / 256 ^ j)]) (by omega) (by simp[hq]) (by omega) (by
   rw[List.append_assoc,show [byT t (M / 256 ^ j)]++VT t M j=VT t M (j+1)from rfl,show q+1+j=q+(j+1) by omega]
   exact hG)
  rw[(List.map_append:List.map (enc:UInt8->PV) (x++[byT t (M / 256 ^ j)])=_)]at h'
  rw[hi]
  cases t
  ·refine a9b x q M k _ (Zu (by simp) ⟨Lt j (by omega),?_⟩)
   rw[Ll M j (by omega),hd,H6]
   exact⟨Zo (UInt8.ofNat (M / 256 ^ j),()) rfl rfl,Zq (UInt8.ofNat (M / 256 ^ j),()) rfl ⟨GU hq (by omega) _,h'⟩⟩
  ·refine a8y x q M k _ (Zu (by simp) ⟨Lt j (by omega),?_⟩)
   rw[Ll M j (by omega),hd,H6]
   exact⟨Zo (UInt8.ofNat (M / 256 ^ j),()) rfl rfl,Zq (UInt8.ofNat (M / 256 ^ j),()) rfl ⟨GU hq (by omega) _,h'⟩⟩
theorem V7(t:Bool)(m:Nat): ∀ k,(VT t m k).length=k
 | 0=>rfl
 | k+1=>by rw[VT,List.length_cons,V7 t m k]
theorem c8a(M:Nat): ∀ f k,k<=Kj M f k∧Kj M f k<=k+f:=by
 intro f
 induction f with
 | zero=>intro k;rw[Kj];omega
 | succ f ih=>
  intro k
  rw[Kj]
  split
  ·have:=ih (k+1);omega
  ·omega
theorem H8(M:Nat):1<=Yl M∧Yl M<=8:=by have:=c8a M 7 1;unfold Yl;omega
theorem CO{xs:List PV}(h:Aq xs=true): ∃ x:List UInt8,xs=x.map enc:=by
 obtain⟨a,ha⟩:=XX h
 exact⟨a,(PV.sl.inj (show PV.sl 1 false xs=PV.sl 1 false (a.map enc)from ha)).2.2⟩
theorem CL(x:List UInt8):Aq (x.map enc)=true:=YD x
theorem c2c: ∀ args os,Jh 5 104 105 args os=true->Zf QH os.length (Zj os.length VP fun r=>r=Fx 105 args os) V4 [] (ZN d4j args os):=by
 intro args os h
 unfold Jh at h
 split at h
 ·rename_i q q' m k f ty xs
  simp only[Bool.and_eq_true,decide_eq_true_eq,beq_iff_eq,Bool.or_eq_true]at h
  obtain⟨⟨⟨⟨⟨⟨⟨⟨⟨rfl,hc⟩,hl⟩,rfl⟩,h1⟩,h2⟩,h3⟩,h4⟩,h5⟩,h6⟩:=h
  obtain⟨x,rfl⟩:=CO hc
  rw[List.length_map]at hl
  obtain⟨M,rfl⟩ : ∃ M:Nat,m=(M:Int):=⟨m.toNat,by omega⟩
  obtain⟨j,rfl⟩ : ∃ j:Nat,k=(j:Int):=⟨k.toNat,by omega⟩
  have hd:IntKind.wrap IntKind.i64 ((j:Int) - 1)=(j:Int) - 1:=Yn (by omega) (by omega)
  rcases h5 with rfl|rfl
  ·refine d5z x q' M j ?_
   rw[hd]
   refine NN false M j j q' x (by omega) hl (by omega) ?_
   rw[List.map_append]
   rfl
  ·refine d5q x q' M j ?_
   rw[hd]
   refine NN true M j j q' x (by omega) hl (by omega) ?_
   rw[List.map_append]
   rfl
 ·cases h
theorem Lf(a:Int):IntKind.wrap IntKind.u64 (IntKind.wrap IntKind.i64 a)=a % 18446744073709551616:=by
 rw[KC]
 unfold IntKind.wrap
 simp[IntKind.bits,IntKind.signed,Int.bmod]
 split <;> omega
theorem c2w(n:Int):IntKind.wrap IntKind.u64 (IntKind.wrap IntKind.i64 (n - 120))=(Xd n:Int):=by
 rw[Lf];unfold Xd;omega
theorem c5k(n:Int):IntKind.wrap IntKind.u64 (IntKind.wrap IntKind.i64 (-IntKind.wrap IntKind.i64 (n+121)))=(Xf n:Int):=by
 rw[Lf]
 unfold Xf IntKind.wrap
 simp[IntKind.bits,IntKind.signed,Int.bmod]
 split <;> omega
theorem Fj(n:Int):(Xd n:Int)<18446744073709551616:=by unfold Xd;omega
theorem FC(n:Int):(Xf n:Int)<18446744073709551616:=by unfold Xf;omega
theorem K4{a:Int}{k:Nat}(h:a=(k:Int))(hk:k<9223372036854775808):PV.int IntKind.u8 (IntKind.wrap IntKind.u8 (IntKind.wrap IntKind.i64 a))=enc (UInt8.ofNat k):=by
 rw[h,Yn (by omega) (by omega),H6]
theorem YM(n:Int):1<=(encI n).length∧(encI n).length<=9:=by
 unfold encI
 have h1:=H8 (Xd n)
 have h2:=H8 (Xf n)
 split
 ·rw[List.length_cons,V7];omega
 ·split
  ·rw[List.length_cons,V7];omega
  ·simp
theorem EF(M:Nat)(h:(M:Int)<18446744073709551616):(decide (0<=(M:Int))&&decide ((M:Int)<18446744073709551616))=true:=by
 simp only[Bool.and_eq_true,decide_eq_true_eq];omega
theorem c2k(f:Nat)(hf:f=104∨f=105){x:List UInt8}{q M k:Nat}{b:UInt8}(hq:x.length=q)(hM:(M:Int)<18446744073709551616)(hk:k<=8)(h:q<=9000100):Jh 5 104 105 [(.row 0 (q+List.length (List.drop 0 (List.take 1 [enc b]))) 0 (q+List.length (List.drop 0 (List.take 1 [enc b])))),(.pv (.int .u64 (M:Int))),(.pv (.int .i64 (k:Int))),(.pv (.fn f))] [(.row false 5 1 (List.map enc x++List.drop 0 (List.take 1 [enc b])))]=true:=by
 have e:List.map enc x++List.drop 0 (List.take 1 [enc b])=(x++[b]).map enc:=by rw[List.map_append];rfl
 rw[e]
 show(_==_&&Aq ((x++[b]).map enc)&&_&&_&&_&&_&&_&&_&&_&&_)=true
 rw[CL]
 simp only[Bool.and_eq_true,decide_eq_true_eq,beq_iff_eq,Bool.or_eq_true,List.length_map,List.length_append,List.length_cons,List.length_nil,List.take,List.drop]
 repeat' apply And.intro
 all_goals first|exact True.intro|omega|exact hf|exact decide_eq_true (by omega)
theorem Ca{a b:Nat}{xs ys:List PV}(h:a=b)(hx:xs=ys):(AV.row 0 a 0 a,[AObj.row false 5 1 xs],([]:List AObj))=(AV.row 0 b 0 b,[AObj.row false 5 1 ys],[]):=by rw[h,hx]
theorem DR{a b:Nat}{xs ys:List PV}(h:a=b)(hx:xs=ys):(AV.row 0 a 0 a,([]:List AObj),[AObj.row false 5 1 xs])=(AV.row 0 b 0 b,[],[AObj.row false 5 1 ys]):=by rw[h,hx]
theorem a1m{n:Int}(h:n ≥ 120):encI n=UInt8.ofNat (247+Yl (Xd n))::VT false (Xd n) (Yl (Xd n)):=by unfold encI;rw[if_pos h]
theorem a1y{n:Int}(h:n < -120):encI n=UInt8.ofNat (8 - Yl (Xf n))::VT true (Xf n) (Yl (Xf n)):=by unfold encI;rw[if_neg (show ¬ n ≥ 120 by omega),if_pos h]
theorem a2c{n:Int}(h1 : ¬ n ≥ 120)(h2 : ¬ n < -120):encI n=[UInt8.ofNat (n+128).toNat]:=by unfold encI;rw[if_neg h1,if_neg h2]
theorem a3e{x:List UInt8}{b:UInt8}{y:List UInt8}:List.map (enc:UInt8->PV) x++List.drop 0 (List.take 1 [enc b])++y.map enc=List.map enc x++(b::y).map enc:=by rw[List.append_assoc];rfl
theorem c6q: ∀ args os,Vl 5 args os=true->Zf a3l os.length (Zj os.length OQ fun r=>r=HV args os) O3 [] (ZN d1r args os):=by
 intro args os h
 unfold Vl at h
 split at h
 ·rename_i q q' n ty xs
  simp only[Bool.and_eq_true,decide_eq_true_eq,beq_iff_eq]at h
  obtain⟨⟨⟨⟨rfl,hc⟩,hl⟩,rfl⟩,h6⟩:=h
  obtain⟨x,rfl⟩:=CO hc
  rw[List.length_map]at hl
  have hv:HV [AV.row 0 q' 0 q',AV.pv (PV.int IntKind.i64 n)] [AObj.row false 5 1 (List.map enc x)]=(AV.row 0 (q'+(encI n).length) 0 (q'+(encI n).length),[AObj.row false 5 1 (x.map enc++(encI n).map enc)],[]):=rfl
  rw[hv]
  refine d5h x q' n ?_
  rw[c2w,c5k]
  have e1:=H8 (Xd n)
  have e2:=H8 (Xf n)
  by_cases hp:n ≥ 120
  ·rw[a1m hp,List.length_cons,V7]
   refine Zu (decide_eq_true hp) ⟨Zo (⟨Xd n⟩,()) rfl (EF _ (Fj n)),?_⟩
   refine Yi (v:=((Yl (Xd n):Nat):Int)) (⟨Xd n⟩,()) rfl rfl ?_
   rw[K4 (k:=247+Yl (Xd n)) (by omega) (by omega)]
   refine⟨GU hl (by omega) _,c2k _ (.inl rfl) hl (Fj n) e1.2 (by omega),?_⟩
   rw[Int.toNat_natCast,Int.toNat_natCast]
   exact Ca (by simp only[List.take,List.drop,List.length_cons,List.length_nil];omega) a3e
  ·refine Zv (fun e=>hp (of_decide_eq_true e)) ?_
   by_cases hn:n < -120
   ·rw[a1y hn,List.length_cons,V7]
    refine Zu (decide_eq_true hn) ⟨Zo (⟨Xf n⟩,()) rfl (EF _ (FC n)),?_⟩
    refine Yi (v:=((Yl (Xf n):Nat):Int)) (⟨Xf n⟩,()) rfl rfl ?_
    rw[K4 (k:=8 - Yl (Xf n)) (by omega) (by omega)]
    refine⟨GU hl (by omega) _,c2k _ (.inr rfl) hl (FC n) e2.2 (by omega),?_⟩
    rw[Int.toNat_natCast,Int.toNat_natCast]
    exact Ca (by simp only[List.take,List.drop,List.length_cons,List.length_nil];omega) a3e
   ·rw[a2c hp hn]
    refine Zv (fun e=>hn (of_decide_eq_true e)) ?_
    rw[K4 (k:=(n+128).toNat) (by omega) (by omega)]
    exact⟨GU hl (by omega) _,Ca rfl rfl⟩
 ·cases h
theorem G5{b:Bool}:(b||Enc.sz UInt8==1)=true:=by cases b <;> rfl
theorem a8x{x:List UInt8}(h:x.length<=9000000):(List.length ([]:List PV)==0&&0==0&&decide ((0+List.length (List.map (enc:UInt8->PV) x))*1<=1099511627776)&&decide (0+List.length (List.map (enc:UInt8->PV) x)<=1099511627776))=true:=by
 rw[List.length_map];simp;omega
theorem c5m: ∀ args os,VQ args os=true->Zf a6h os.length (Zj os.length Ou fun r=>r=Bb 5 args os) OU [] (ZN c9r args os):=by
 intro args os h
 unfold VQ at h
 split at h
 ·rename_i p
  simp only[Bool.and_eq_true,decide_eq_true_eq]at h
  obtain⟨hc,hl⟩:=h
  obtain⟨x,rfl⟩:=XX hc
  rw[Zz]at hl
  refine d8u x ⟨G5,a8x hl,?_⟩
  show _=(AV.row 0 (Za (enc x)).length 0 (Za (enc x)).length,_,[AObj.row false 5 1 ((Za (enc x)).map enc)])
  rw[Zz]
  exact DR (by rw[List.length_map,Nat.zero_add]) rfl
 ·cases h
theorem F5(x:List UInt8)(h:x.length<=9000000):VQ [(.pv (.sl 1 false (List.map enc x)))] []=true:=by
 show(QV (List UInt8) (enc x)&&decide ((Za (enc x)).length<=9000000))=true
 rw[YD,Zz]
 exact decide_eq_true h
theorem Re(x:List UInt8)(n:Int){q:Nat}(hq:x.length=q)(h:q<=9000000):Vl 5 [.row 0 q 0 q,.pv (.int .i64 n)] [.row false 5 1 (x.map enc)]=true:=by
 show(_==_&&Aq (x.map enc)&&(x.map (enc:UInt8->PV)).length==q&&q==q&&decide (q<=9000000))=true
 rw[CL,List.length_map,hq]
 simp[h]
theorem JW{x y:List UInt8}:List.drop 0 (List.take (x.length+y.length) (List.map (enc:UInt8->PV) x++List.map enc y))=(x++y).map enc:=by
 rw[List.take_of_length_le (by simp),List.drop_zero,List.map_append]
theorem c3x: ∀ x:List UInt8×Int×Unit,decide (x.1.length<=1000000)=true->Zf Bw 0 (Ze Hm (ZB (x.1++encI x.2.1))) Gb [] (Yp a9m (encL x)):=by
 rintro⟨x,n,⟨⟩⟩ h
 have h:x.length<=1000000:=of_decide_eq_true h
 refine d8l x n ⟨F5 x (by omega),?_⟩
 rw[Zz]
 refine⟨Re x n rfl (by omega),by simp,?_⟩
 rw[JW]
 exact YC (x:=x++encI n) rfl
theorem Gs(s:List UInt8):ZE s=s.map enc:=rfl
theorem b9o: ∀ args os,DI 5 args os=true->Zf a5z os.length (Zj os.length OL fun r=>r=Oe args os) Oc [] (ZN c9m args os):=by
 intro args os h
 unfold DI at h
 split at h
 ·rename_i q q' s ty xs
  simp only[Bool.and_eq_true,decide_eq_true_eq,beq_iff_eq]at h
  obtain⟨⟨⟨⟨⟨rfl,hc⟩,hl⟩,rfl⟩,h6⟩,h7⟩:=h
  obtain⟨x,rfl⟩:=CO hc
  rw[List.length_map]at hl
  have he:=YM s.length
  refine d7u x q' s ⟨Re x _ hl (by omega),?_,?_⟩
  ·rw[Gs]
   simp only[List.length_append,List.length_map,Bool.and_eq_true,decide_eq_true_eq,beq_iff_eq]
   exact⟨⟨⟨by omega,trivial⟩,by omega⟩,by omega⟩
  ·show _=(AV.row 0 (q'+(encS s).length) 0 (q'+(encS s).length),[AObj.row false 5 1 (x.map enc++(encS s).map enc)],[])
   unfold encS
   exact Ca (by rw[Gs,List.length_map,List.length_append];omega) (by rw[Gs,List.map_append,List.append_assoc])
 ·cases h
theorem b5q: ∀ x:List UInt8×Str×Unit,(decide (x.1.length<=1000000)&&decide (x.2.1.s.length<=1000000))=true->Zf Od 0 (Ze TQ (ZB (x.1++encS x.2.1.s))) Rj [] (Yp c7h (encL x)):=by
 rintro⟨x,⟨s⟩,⟨⟩⟩ h
 simp only[Bool.and_eq_true,decide_eq_true_eq]at h
 obtain⟨h1,h2⟩:=h
 refine c8y x s ⟨F5 x (by omega),?_⟩
 rw[Zz]
 refine⟨?_,by simp,?_⟩
 ·show(_==_&&Aq (x.map enc)&&(x.map (enc:UInt8->PV)).length==x.length&&x.length==x.length&&decide (x.length<=9000000)&&decide (s.length<=9000000))=true
  rw[CL,List.length_map]
  simp
  omega
 ·rw[JW]
  exact YC (x:=x++encS s) rfl
theorem MI{ts:List Coef}{i:Nat}(h:i<ts.length):(ts.drop i).flatMap UJ=UJ ts[i]++(ts.drop (i+1)).flatMap UJ:=by
 rw[List.drop_eq_getElem_cons h,List.flatMap_cons]
theorem Du{α:Type}[Enc α]{l:List α}{i:Nat}(h:i<l.length):(l.map (enc:α->PV)).getD i default=enc l[i]:=by
 rw[List.getD_eq_getElem?_getD,List.getElem?_map,List.getElem?_eq_getElem h];rfl
theorem Kb(x:List UInt8)(n:Int)(h:x.length<=1000000):preT (fun(x:List UInt8×Int×Unit)=>decide (List.length (Prod.fst x)<=1000000)) [(.sl 1 false (List.map enc x)),(.int .i64 n)]=true:=
 Zo (x,n,()) rfl (decide_eq_true h)
theorem a9y(x s:List UInt8)(h:x.length<=1000000)(hs:s.length<=1000000):preT (fun(x:List UInt8×Str×Unit)=>decide (List.length (Prod.fst x)<=1000000)&&decide (List.length (Str.s (Prod.fst (Prod.snd x)))<=1000000)) [(.sl 1 false (List.map enc x)),(.str s)]=true:=
 Zo (x,(⟨s⟩:Str),()) rfl (by rw[Bool.and_eq_true];exact⟨decide_eq_true h,decide_eq_true hs⟩)
theorem b2z(x:List UInt8)(l:Lin): ∀ (n i:Nat) (y:List UInt8),n+i=l.t.length->l.t.length<1000000->(y++(l.t.drop i).flatMap UJ).length<=1000000 ->
  At JL 0 (Ze Q5 (ZB (y++(l.t.drop i).flatMap UJ))) QZ 0 31 [(0,(.pv (.sl 1 false (List.map enc y)))),(16,(.pv (.sl 2 false (List.map enc (Lin.t l))))),(17,(.pv (.int .i64 (l.t.length:Int)))),(18,(.pv (.int .i64 (i:Int))))] []:=by
 intro n
 induction n with
 | zero=>
  intro i y hn hl h
  refine a8m x l y i (Zv (by simp;omega) (YC (x:=y) ?_))
  rw[List.drop_of_length_le (by omega),List.flatMap_nil,List.append_nil]
 | succ n ih=>
  intro i y hn hl h
  have hi:i<l.t.length:=by omega
  have e:=MI hi
  rw[e]at h ⊢
  have e1:y++(UJ l.t[i]++(l.t.drop (i+1)).flatMap UJ)=(y++encS l.t[i].v.s++encI l.t[i].c)++(l.t.drop (i+1)).flatMap UJ:=by unfold UJ;simp only[List.append_assoc]
  rw[e1]at h ⊢
  have h3:=ih (i+1) _ (by omega) hl h
  simp only[List.length_append]at h
  have hs:l.t[i].v.s.length<=1000000:=by unfold encS at h;simp only[List.length_append]at h;omega
  refine a8m x l y i (Zu (by simp;omega) ⟨by simp[hi];rfl,?_⟩)
  rw[Int.toNat_natCast,Du hi,next (by omega)]
  refine⟨l.t[i],rfl,a9y y _ (by omega) hs,?_⟩
  refine Yi (v:=y++encS l.t[i].v.s) (y,l.t[i].v,()) rfl rfl ⟨Kb _ _ (by rw[List.length_append];omega),?_⟩
  exact Yi (v:=y++encS l.t[i].v.s++encI l.t[i].c) (y++encS l.t[i].v.s,l.t[i].c,()) rfl rfl h3
theorem Ak: ∀ (ts:List Coef),ts.length<=(ts.flatMap UJ).length
 | []=>Nat.le_refl 0
 | t::ts=>by
  have h:=Ak ts
  have h2:=YM t.c
  rw[List.flatMap_cons,List.length_append,List.length_cons]
  have h4:(UJ t).length=(encS t.v.s).length+(encI t.c).length:=by unfold UJ;rw[List.length_append]
  omega
theorem c0c: ∀ x:List UInt8×Lin×Unit,decide ((x.1++ZV x.2.1).length<=1000000)=true->Zf JL 0 (Ze Q5 (ZB (x.1++ZV x.2.1))) QZ [] (Yp c8m (encL x)):=by
 rintro⟨x,l,⟨⟩⟩ h
 have h:(x++ZV l).length<=1000000:=of_decide_eq_true h
 have e:x++ZV l=x++encI l.k++encI l.t.length++(l.t.drop 0).flatMap UJ:=by unfold ZV;rw[List.drop_zero];simp only[List.append_assoc]
 show Zf JL 0 (Ze Q5 (ZB (x++ZV l))) QZ [] _
 rw[e]at h ⊢
 have h2:=Ak l.t
 have h3:=b2z x l l.t.length 0 _ rfl (by rw[List.length_append,List.drop_zero]at h;have:=YM l.k;simp only[List.length_append]at h;omega) h
 simp only[List.length_append]at h
 refine d7t x l ⟨Kb x l.k (by omega),Yi (v:=x++encI l.k) (x,l.k,()) rfl rfl ⟨?_,?_⟩⟩
 ·exact Kb _ _ (by rw[List.length_append];omega)
 ·rw[List.length_map]
  exact Yi (v:=x++encI l.k++encI l.t.length) (x++encI l.k,(l.t.length:Int),()) rfl rfl h3
theorem a4a(x:List UInt8)(l:Lin): ∀ (n i:Nat) (y:List UInt8),n+i=l.t.length->l.t.length<1000000->(y++(l.t.drop i).flatMap UJ).length<=1000000 ->
  At Q9 0 (Ze UL (ZB (y++(l.t.drop i).flatMap UJ))) UV 0 38 [(3,(.ptr 0 0)),(5,(.pv (.sl 1 false (List.map enc y)))),(6,(.pv (.int .i64 (i:Int))))] [(.obj (.box [(.pv (.int .i64 (Lin.k l))),(.pv (.sl 2 false (List.map enc (Lin.t l))))]))]:=by
 intro n
 induction n with
 | zero=>
  intro i y hn hl h
  refine a2j x l y i (Zv (by simp;omega) (YC (x:=y) ?_))
  rw[List.drop_of_length_le (by omega),List.flatMap_nil,List.append_nil]
 | succ n ih=>
  intro i y hn hl h
  have hi:i<l.t.length:=by omega
  have e:=MI hi
  rw[e]at h ⊢
  have e1:y++(UJ l.t[i]++(l.t.drop (i+1)).flatMap UJ)=(y++encS l.t[i].v.s++encI l.t[i].c)++(l.t.drop (i+1)).flatMap UJ:=by unfold UJ;simp only[List.append_assoc]
  rw[e1]at h ⊢
  have h3:=ih (i+1) _ (by omega) hl h
  simp only[List.length_append]at h
  have hs:l.t[i].v.s.length<=1000000:=by unfold encS at h;simp only[List.length_append]at h;omega
  have hg:(decide (0<=(i:Int))&&decide (Int.toNat i<List.length (List.map enc (Lin.t l)))&&Enc.sz Coef==2)=true:=by simp[hi];rfl
  refine a2j x l y i (Zu (by simp;omega) ⟨hg,?_⟩)
  rw[Int.toNat_natCast,Du hi,next (by omega)]
  refine⟨l.t[i],rfl,a9y y _ (by omega) hs,?_⟩
  refine Yi (v:=y++encS l.t[i].v.s) (y,l.t[i].v,()) rfl rfl ⟨by simpa using hg,l.t[i],rfl,Kb _ _ (by rw[List.length_append];omega),?_⟩
  exact Yi (v:=y++encS l.t[i].v.s++encI l.t[i].c) (y++encS l.t[i].v.s,l.t[i].c,()) rfl rfl h3
theorem b2i: ∀ x:List UInt8×Lin×Unit,decide ((x.1++ZV x.2.1).length<=1000000)=true->Zf Q9 0 (Ze UL (ZB (x.1++ZV x.2.1))) UV [] (Yp c6s (encL x)):=by
 rintro⟨x,l,⟨⟩⟩ h
 have h:(x++ZV l).length<=1000000:=of_decide_eq_true h
 have e:x++ZV l=x++encI l.k++encI l.t.length++(l.t.drop 0).flatMap UJ:=by unfold ZV;rw[List.drop_zero];simp only[List.append_assoc]
 show Zf Q9 0 (Ze UL (ZB (x++ZV l))) UV [] _
 rw[e]at h ⊢
 have h2:=Ak l.t
 have h3:=a4a x l l.t.length 0 _ rfl (by rw[List.length_append,List.drop_zero]at h;have:=YM l.k;simp only[List.length_append]at h;omega) h
 simp only[List.length_append]at h
 refine d0x x l ⟨Kb x l.k (by omega),Yi (v:=x++encI l.k) (x,l.k,()) rfl rfl ⟨?_,?_⟩⟩
 ·exact Kb _ _ (by rw[List.length_append];omega)
 ·rw[List.length_map]
  exact Yi (v:=x++encI l.k++encI l.t.length) (x++encI l.k,(l.t.length:Int),()) rfl rfl h3
theorem FT(R:Nat):Int.fdiv (R:Int) (2 ^ min (Int.toNat 8) (IntKind.bits IntKind.u64))=((R / 256:Nat):Int):=by
 have h:(2:Int) ^ min (Int.toNat 8) (IntKind.bits IntKind.u64)=((256:Nat):Int):=by decide
 rw[h,ES]
theorem AJ(n:Int)(M:Nat)(hM:(M:Int)<18446744073709551616): ∀ (f k:Nat),f+k=8->1<=k ->
  At X3 0 (Ze Xh (ZB (((Kj M f k:Nat):Int),(⟨M⟩:U64)))) Wi 0 31 [(4,(.pv (.int .u64 (M:Int)))),(5,(.pv (.int .i64 (k:Int)))),(6,(.pv (.int .u64 ((M / 256 ^ k:Nat):Int))))] []:=by
 intro f
 induction f with
 | zero=>
  intro k hk h1
  have:M / 256 ^ k=0:=by
   obtain rfl:k=8:=by omega
   have h256:(256:Nat) ^ 8=18446744073709551616:=by decide
   exact Nat.div_eq_of_lt (by omega)
  rw[this]
  exact Ai n M _ k (Zv (by simp) (YC (x:=(((k:Nat):Int),(⟨M⟩:U64))) rfl))
 | succ f ih=>
  intro k hk h1
  have h2:=ih (k+1) (by omega) (by omega)
  rw[Kj]
  by_cases h:0<M / 256 ^ k
  ·rw[if_pos (show k<8∧0<M / 256 ^ k from⟨by omega,h⟩)]
   refine Ai n M _ k (Zu (decide_eq_true (Int.natCast_pos.mpr h)) ?_)
   rw[FT,next (by omega),Nat.div_div_eq_div_mul,<- Nat.pow_succ]
   exact h2
  ·rw[if_neg (show ¬ (k<8∧0<M / 256 ^ k)from fun e=>h e.2)]
   exact Ai n M _ k (Zv (fun e=>h (Int.natCast_pos.mp (of_decide_eq_true e))) (YC (x:=(((k:Nat):Int),(⟨M⟩:U64))) rfl))
theorem b6b(n:Int):IntKind.wrap IntKind.u64 (IntKind.wrap IntKind.i64 (-121 - n))=(Xf n:Int):=by
 rw[Lf];unfold Xf;omega
theorem b0u(n:Int):IntKind.wrap IntKind.u64 (IntKind.wrap IntKind.u64 n - 120)=(Xd n:Int):=by
 rw[KC,KC];unfold Xd;omega
theorem a4q: ∀ x:Int×Unit,true=true->Zf X3 0 (Ze Xh (ZB (Wp x.1))) Wi [] (Yp b7b (encL x)):=by
 rintro⟨n,⟨⟩⟩ _
 have hp:=AJ n (Xd n) (Fj n) 7 1 (by omega) (by omega)
 have hn:=AJ n (Xf n) (FC n) 7 1 (by omega) (by omega)
 refine b9t n ?_
 rw[b6b,b0u,FT,FT]
 show if _ then _ else _
 by_cases h1:n ≥ -120
 ·refine Zu (decide_eq_true h1) ?_
  by_cases h2:n<=119
  ·refine Zu (decide_eq_true h2) (YC (x:=((0:Int),(⟨0⟩:U64))) ?_)
   unfold Wp
   rw[if_pos ⟨h1,h2⟩]
  ·refine Zv (fun e=>h2 (of_decide_eq_true e)) (Zv (by simp;omega) ?_)
   have e:Wp n=((Yl (Xd n):Int),⟨Xd n⟩):=by unfold Wp;rw[if_neg (fun e=>h2 e.2),if_neg (show ¬ n<0 by omega)]
   show At X3 0 (Ze Xh (ZB (Wp n))) _ _ _ _ _
   rw[e]
   exact hp
 ·refine Zv (fun e=>h1 (of_decide_eq_true e)) (Zu (by simp;omega) ?_)
  have e:Wp n=((Yl (Xf n):Int),⟨Xf n⟩):=by unfold Wp;rw[if_neg (fun e=>h1 e.1),if_pos (show n<0 by omega)]
  show At X3 0 (Ze Xh (ZB (Wp n))) _ _ _ _ _
  rw[e]
  exact hn
theorem Q6: ∀ (x:List UInt8),Xl (x.map enc)=x
 | []=>rfl
 | c::x=>by
  show UInt8.ofNat ((c.toNat:Int)).toNat::Xl (x.map enc)=c::x
  rw[Q6 x,Int.toNat_natCast,UInt8.ofNat_toNat]
theorem OG: ∀ (x:List UInt8),(x.map (enc:UInt8->PV)).all SE=true
 | []=>rfl
 | c::x=>by
  have:=UInt8.toNat_lt c
  rw[List.map_cons,List.all_cons,OG x,Bool.and_true]
  show(decide (0<=(c.toNat:Int))&&decide ((c.toNat:Int)<256))=true
  simp only[Bool.and_eq_true,decide_eq_true_eq];omega
theorem b2a: ∀ x:List UInt8×List UInt8×Unit,true=true->Zf OX 0 (Ze Rv (ZB (decide (x.1=x.2.1)))) Rn [] (Yp c7f (encL x)):=by
 rintro⟨x,y,⟨⟩⟩ _
 refine d0l x y ⟨by rw[OG,Bool.true_and];exact G5,by rw[OG,Bool.true_and];exact G5,?_⟩
 rw[Q6,Q6]
 exact YC (x:=(x==y)) (by by_cases h:x=y <;> simp[h])
theorem O1{q:Nat}(h:q<=10000100)(b:PV):(q==q&&q==q&&decide ((q+List.length (List.drop 0 (List.take 1 [b])))*1<=1099511627776)&&decide (q+List.length (List.drop 0 (List.take 1 [b]))<=1099511627776))=true:=by
 simp
 omega
theorem b9w(X:Nat):PV.int IntKind.u8 (IntKind.wrap IntKind.u8 (255 - IntKind.wrap IntKind.u8 (X:Int)))=enc (255 - UInt8.ofNat X:UInt8):=by
 show _=PV.int IntKind.u8 (((255 - UInt8.ofNat X:UInt8).toNat:Nat):Int)
 have h1:(UInt8.ofNat X).toNat=X % 256:=UInt8.toNat_ofNat'
 rw[Cx,Cx,UInt8.toNat_sub,h1]
 congr 1
 simp
 omega
theorem NK{G:AV×List AObj×List AObj->Prop}(x:List UInt8)(n:Int)(t:Bool)(ht:t=decide (n<0))(M:Nat): ∀ (j q:Nat) (y:List UInt8),j<=8->y.length=q->q+j<=10000100 ->
  G (.row 0 (q+j) 0 (q+j),[],[.row false 5 1 ((y++VT t M j).map enc)]) ->
  At Je 0 (Zj 0 Qc G) U9 0 60 [(1,(.pv (.int .i64 n))),(5,(.row 0 q 0 q)),(7,(.pv (.int .u64 (M:Int)))),(8,(.pv (.int .i64 ((j:Int) - 1))))] [(.obj (.row false 5 1 (y.map enc)))]:=by
 intro j
 induction j with
 | zero=>
  intro q y hj hq h hG
  rw[VT,List.append_nil]at hG
  exact a9v x n y q M _ (Zv (by simp) hG)
 | succ j ih=>
  intro q y hj hq h hG
  have hi:((j+1:Nat):Int) - 1=(j:Int):=by omega
  have hd:IntKind.wrap IntKind.i64 ((j:Int) - 1)=(j:Int) - 1:=Yn (by omega) (by omega)
  have h':=ih (q+1) (y++[byT t (M / 256 ^ j)]) (by omega) (by simp[hq]) (by omega) (by
   rw[List.append_assoc,show [byT t (M / 256 ^ j)]++VT t M j=VT t M (j+1)from rfl,show q+1+j=q+(j+1) by omega]
   exact hG)
  rw[(List.map_append:List.map (enc:UInt8->PV) (y++[byT t (M / 256 ^ j)])=_)]at h'
  rw[hi]
  refine a9v x n y q M _ (Zu (by simp) ⟨Lt j (by omega),?_⟩)
  rw[Ll M j (by omega),hd,H6,b9w]
  by_cases hn:n<0
  ·obtain rfl:t=true:=by rw[ht];exact decide_eq_true hn
   exact Zu (decide_eq_true hn) ⟨GU hq (by omega) _,h'⟩
  ·obtain rfl:t=false:=by rw[ht];exact decide_eq_false hn
   exact Zv (fun e=>hn (of_decide_eq_true e)) ⟨GU hq (by omega) _,h'⟩
theorem c1j: ∀ args os,Wy args os=true->Zf Je os.length (Zj os.length Qc fun r=>r=WC 5 args os) U9 [] (ZN d0a args os):=by
 intro args os h
 unfold Wy at h
 split at h
 ·rename_i p n
  simp only[Bool.and_eq_true,decide_eq_true_eq]at h
  obtain⟨hc,hl⟩:=h
  obtain⟨x,rfl⟩:=XX hc
  rw[Zz]at hl
  have hv:WC 5 [AV.pv (enc x),AV.pv (PV.int IntKind.i64 n)] []=(.row 0 (x++encI n).length 0 (x++encI n).length,[],[.row false 5 1 ((x++encI n).map enc)]):=by
   show(AV.row 0 (Za (enc x)++encI n).length 0 _,_,_)=_
   rw[Zz]
  rw[hv]
  refine d5i x n ⟨G5,a8x hl,Yi (v:=Wp n) (n,()) rfl rfl ?_⟩
  rw[List.nil_append,List.length_map,Nat.zero_add]
  have e1:=H8 (Xd n)
  have e2:=H8 (Xf n)
  by_cases h1:n ≥ -120∧n<=119
  ·rw[show Wp n=((0:Int),(⟨0⟩:U64)) by unfold Wp;rw[if_pos h1]]
   rw[K4 (k:=(n+128).toNat) (by omega) (by omega)]
   refine Zu rfl ⟨O1 (by omega) _,?_⟩
   rw[a2c (by omega) (by omega)]
   exact DR (by simp) (by rw[List.map_append];rfl)
  ·by_cases h2:n<0
   ·rw[show Wp n=((Yl (Xf n):Int),(⟨Xf n⟩:U64)) by unfold Wp;rw[if_neg h1,if_pos h2]]
    rw[K4 (a:=8 - (Yl (Xf n):Int)) (k:=8 - Yl (Xf n)) (by omega) (by omega),show IntKind.wrap IntKind.i64 ((Yl (Xf n):Int) - 1)=(Yl (Xf n):Int) - 1 from Yn (by omega) (by omega)]
    refine Zv (by simp;omega) (Zu (decide_eq_true h2) ⟨O1 (by omega) _,?_⟩)
    rw[a1y (show n < -120 by omega)]
    have hl:=NK (G:=fun r=>r=(AV.row 0 (x++UInt8.ofNat (8 - Yl (Xf n))::VT true (Xf n) (Yl (Xf n))).length 0 (x++UInt8.ofNat (8 - Yl (Xf n))::VT true (Xf n) (Yl (Xf n))).length,[],[.row false 5 1 ((x++UInt8.ofNat (8 - Yl (Xf n))::VT true (Xf n) (Yl (Xf n))).map enc)])) x n true (by simp[h2]) (Xf n) (Yl (Xf n)) (x.length+1) (x++[UInt8.ofNat (8 - Yl (Xf n))]) (by omega) (by simp) (by omega)
     (DR (by simp[V7];omega) (by simp))
    rw[List.map_append (l₁:=x) (l₂:=[UInt8.ofNat (8 - Yl (Xf n))])]at hl
    exact hl
   ·rw[show Wp n=((Yl (Xd n):Int),(⟨Xd n⟩:U64)) by unfold Wp;rw[if_neg h1,if_neg h2]]
    rw[K4 (a:=247+(Yl (Xd n):Int)) (k:=247+Yl (Xd n)) (by omega) (by omega),show IntKind.wrap IntKind.i64 ((Yl (Xd n):Int) - 1)=(Yl (Xd n):Int) - 1 from Yn (by omega) (by omega)]
    refine Zv (by simp;omega) (Zv (fun e=>h2 (of_decide_eq_true e)) ⟨O1 (by omega) _,?_⟩)
    rw[a1m (show n ≥ 120 by omega)]
    have hl:=NK (G:=fun r=>r=(AV.row 0 (x++UInt8.ofNat (247+Yl (Xd n))::VT false (Xd n) (Yl (Xd n))).length 0 (x++UInt8.ofNat (247+Yl (Xd n))::VT false (Xd n) (Yl (Xd n))).length,[],[.row false 5 1 ((x++UInt8.ofNat (247+Yl (Xd n))::VT false (Xd n) (Yl (Xd n))).map enc)])) x n false (by simp[h2]) (Xd n) (Yl (Xd n)) (x.length+1) (x++[UInt8.ofNat (247+Yl (Xd n))]) (by omega) (by simp) (by omega)
     (DR (by simp[V7];omega) (by simp))
    rw[List.map_append (l₁:=x) (l₂:=[UInt8.ofNat (247+Yl (Xd n))])]at hl
    exact hl
 ·cases h
theorem c9s{x:List UInt8}:(frz (.row 0 x.length 0 x.length)).run (Yr [.row false 5 1 (x.map enc)])=some (enc x,[.obj (.row true 5 1 (x.map enc))]):=by
 have:(PV.sl 1 false (List.drop 0 (List.take x.length (x.map (enc:UInt8->PV)))))=enc x:=by
  rw[List.take_of_length_le (by simp),List.drop_zero];rfl
 rw[<- this]
 simp[frz,HM.run,Yr]
theorem b2m{P:Program}{f:Nat}(h:ZA P f Wy (WC 5)):Zr P f (fun x:List UInt8×Int×Unit=>decide (x.1.length<=1000000)) (fun x:List UInt8×Int×Unit=>x.1++encI x.2.1):=Zr.of_own h fun a ha=>by
 obtain⟨x,n,⟨⟩⟩:=a
 have ha:x.length<=1000000:=by simpa using ha
 refine⟨.row 0 (x++encI n).length 0 (x++encI n).length,[.row false 5 1 ((x++encI n).map enc)],_,_,?_,?_,c9s,.refl _⟩
 ·show(QV (List UInt8) (enc x)&&decide ((Za (enc x)).length<=9000000))=true
  rw[YD,Zz,decide_eq_true (by omega)];rfl
 ·show(AV.row 0 (Za (enc x)++encI n).length 0 _,_,_)=_
  rw[Zz]
theorem a4r: ∀ x:List UInt8×Str×Unit,(decide (x.1.length<=1000000)&&decide (x.2.1.s.length<=1000000))=true->Zf TT 0 (Ze BM (ZB (x.1++encS x.2.1.s))) Av [] (Yp b4k (encL x)):=by
 rintro⟨x,⟨s⟩,⟨⟩⟩ h
 simp only[Bool.and_eq_true,decide_eq_true_eq]at h
 obtain⟨h1,h2⟩:=h
 have he:=YM s.length
 refine c1k x s ⟨?_,?_⟩
 ·show(QV (List UInt8) (enc x)&&decide ((Za (enc x)).length<=9000000))=true
  rw[YD,Zz,decide_eq_true (by omega)];rfl
 ·rw[Zz,Gs]
  refine⟨?_,by simp;omega,?_⟩
  ·simp only[List.length_append,List.length_map,Bool.and_eq_true,decide_eq_true_eq,beq_iff_eq]
   exact⟨⟨⟨trivial,trivial⟩,by omega⟩,by omega⟩
  ·have e:(x++encI s.length).length+(List.map (enc:UInt8->PV) s).length=(x++encI s.length).length+s.length:=by rw[List.length_map]
   rw[e,JW]
   exact YC (x:=x++encI s.length++s) (by unfold encS;rw[List.append_assoc])
theorem NT(M:Nat)(c:UInt8)(hM:M<72057594037927936):IntKind.wrap IntKind.u64 (↑(BitVec.toNat (BitVec.ofInt (IntKind.bits IntKind.u64) (IntKind.wrap IntKind.u64 ((M:Int)*2 ^ min (Int.toNat 8) (IntKind.bits IntKind.u64))) ||| BitVec.ofInt (IntKind.bits IntKind.u64) (IntKind.wrap IntKind.u64 (↑(UInt8.toNat c):Int)))):Int)=((M*256+c.toNat:Nat):Int):=by
 have hc:=UInt8.toNat_lt c
 have hp:(2:Int) ^ min (Int.toNat 8) (IntKind.bits IntKind.u64)=256:=by decide
 have h1:IntKind.wrap IntKind.u64 ((M:Int)*256)=((M*256:Nat):Int):=by rw[KC];omega
 have h2:IntKind.wrap IntKind.u64 (c.toNat:Int)=((c.toNat:Nat):Int):=by rw[KC];omega
 have h3:((BitVec.ofInt (IntKind.bits IntKind.u64) ((M*256:Nat):Int)) ||| BitVec.ofInt (IntKind.bits IntKind.u64) ((c.toNat:Nat):Int)).toNat=M*256+c.toNat:=by
  have hb:IntKind.bits IntKind.u64=64:=rfl
  rw[hb,BitVec.toNat_or,BitVec.ofInt_natCast,BitVec.ofInt_natCast,BitVec.toNat_ofNat,BitVec.toNat_ofNat,Nat.mod_eq_of_lt (by omega),Nat.mod_eq_of_lt (by omega)]
  have h4:=Nat.shiftLeft_add_eq_or_of_lt (i:=8) (b:=c.toNat) (by omega) M
  rw[Nat.shiftLeft_eq]at h4
  exact h4.symm
 rw[hp,h1,h2,h3,KC]
 omega
theorem Qu{l:List UInt8}{i:Nat}(h:i<l.length):AV.pv (PV.rptr (PV.cells (List.getD (List.map (enc:UInt8->PV) l) (Int.toNat (i:Int)) default)))=AV.pv (PV.rptr (PV.cells (enc l[i]))):=by
 rw[Int.toNat_natCast,Du h]
theorem CB{l:List UInt8}{i:Nat}(h:i<l.length):(decide (0<=(i:Int))&&decide (Int.toNat (i:Int)<List.length (List.map (enc:UInt8->PV) l))&&Enc.sz UInt8==1)=true:=by
 rw[Int.toNat_natCast,List.length_map,decide_eq_true (show(0:Int)<=i by omega),decide_eq_true h];rfl
def d3s(t:Bool)(c:UInt8)(x:List UInt8)(k:Int)(G:PV->Prop)(m:Int):Prop:=if (decide (m<=9223372036854775687))=true then(decide (0<=IntKind.wrap IntKind.i64 (1+k))&&true&&(List.isEmpty (List.map enc (c::x))||Enc.sz UInt8==1)&&decide (Int.toNat (IntKind.wrap IntKind.i64 (1+k))<=List.length (List.map enc (c::x)))&&decide (List.length (List.map enc (c::x))<=List.length (List.map enc (c::x))))=true∧(G ((.tup [(.int .i64 (bif t then IntKind.wrap IntKind.i64 ((-121:Int) - IntKind.wrap IntKind.i64 m)else IntKind.wrap IntKind.i64 (IntKind.wrap IntKind.i64 m+120))),(.sl 1 false (List.drop (Int.toNat (IntKind.wrap IntKind.i64 (1+k))) (List.take (List.length (List.map enc (c::x))) (List.map enc (c::x))))),(.bool true)])))else(G ((.tup [(.int .i64 0),(.sl 0 true []),(.bool false)])))
theorem e0e: ∀ i,i<=7->256 ^ i<=72057594037927936:=fun i h=>Nat.le_trans (b8t h) (by decide)
theorem FW{t:Bool}{y:List UInt8}{M i:Nat}(h:M<256 ^ i)(c:UInt8):M*256+(JH t c).toNat<256 ^ (i+1):=by
 have:=UInt8.toNat_lt (JH t c)
 rw[Nat.pow_succ]
 omega
theorem Ma{t:Bool}{y:List UInt8}{M i:Nat}(h:i<y.length):WF t M (y.drop i)=WF t (M*256+(JH t y[i]).toNat) (y.drop (i+1)):=by
 rw[List.drop_eq_getElem_cons h];rfl
theorem a3r{G:PV->Prop}(t:Bool)(c:UInt8)(x y:List UInt8)(k:Nat)(hk:k<=8)(hy:y.length=k): ∀ (j i M:Nat),i+j=k->1<=i->M<256 ^ i->d3s t c x k G (WF t M (y.drop i):Int) ->
  At Y9 0 (Ze YG G) YH 0 94 [(0,.pv (enc (c::x))),(6,.pv (.fn (bif t then 105 else 104))),(7,.pv (.int .i64 (k:Int))),(8,.pv (.bool t)),(9,.pv (.int .u64 (M:Int))),(41,.pv (enc y)),(42,.pv (.int .i64 (k:Int))),(43,.pv (.int .i64 (i:Int)))] []:=by
 intro j
 induction j with
 | zero=>
  intro i M hj hi hM hE
  rw[List.drop_of_length_le (by omega),WF]at hE
  cases t
  ·exact Bj c x y k M i k (Zv (by simp;omega) hE)
  ·exact Aw c x y k M i k (Zv (by simp;omega) hE)
 | succ j ih=>
  intro i M hj hi hM hE
  have hl:i<y.length:=by omega
  have hi0:((i:Int)==0)≠true:=by simp;omega
  have hb:=Nat.lt_of_lt_of_le hM (e0e i (by omega))
  rw[Ma hl]at hE
  have h':=ih (i+1) _ (by omega) (by omega) (FW (t:=t) (y:=y) hM y[i]) hE
  cases t
  ·refine Bj c x y k M i k (Zu (by simp;omega) ⟨CB hl,y[i],Qu hl,Zo (y[i],()) rfl rfl,Zq (y[i],()) rfl (Zv hi0 ?_)⟩)
   rw[NT M _ hb,next (by omega)]
   exact h'
  ·refine Aw c x y k M i k (Zu (by simp;omega) ⟨CB hl,y[i],Qu hl,Zo (y[i],()) rfl rfl,Zq (y[i],()) rfl (Zv hi0 ?_)⟩)
   rw[NT M _ hb,next (by omega)]
   exact h'
theorem a1c{G:PV->Prop}(t:Bool)(c:UInt8)(x y:List UInt8)(k:Nat)(h1:1<=k)(hk:k<=8)(hy:y.length=k)
  (hz:1<k∧JH t (y.headD 0)=0->G ((.tup [(.int .i64 0),(.sl 0 true []),(.bool false)]))) (hE : ¬ (1<k∧JH t (y.headD 0)=0)->d3s t c x k G (WF t 0 y:Int)) :
  At Y9 0 (Ze YG G) YH 0 94 [(0,.pv (enc (c::x))),(6,.pv (.fn (bif t then 105 else 104))),(7,.pv (.int .i64 (k:Int))),(8,.pv (.bool t)),(9,.pv (.int .u64 0)),(41,.pv (enc y)),(42,.pv (.int .i64 (k:Int))),(43,.pv (.int .i64 0))] []:=by
 obtain⟨b,r,rfl⟩ : ∃ b r,y=b::r:=by cases y;simp at hy;omega;exact⟨_,_,rfl⟩
 have hn : ¬ (1<k∧JH t b=0)->At Y9 0 (Ze YG G) YH 0 94 [(0,.pv (enc (c::x))),(6,.pv (.fn (bif t then 105 else 104))),(7,.pv (.int .i64 (k:Int))),(8,.pv (.bool t)),(9,.pv (.int .u64 ((0*256+(JH t b).toNat:Nat):Int))),(41,.pv (enc (b::r))),(42,.pv (.int .i64 (k:Int))),(43,.pv (.int .i64 ((0+1:Nat):Int)))] []:=fun hc=>
  a3r t c x (b::r) k hk hy (k - 1) 1 _ (by omega) (by omega) (FW (t:=t) (y:=[b]) (M:=0) (i:=0) (by decide) b) (hE hc)
 have hl:0<(b::r).length:=by simp
 have h8 : ∀ G':Prop,(1<k∧JH t b=0->G')-> ∀ H:Prop,(¬ (1<k∧JH t b=0)->H)->if (((JH t b).toNat:Int)==0)=true then if (decide ((k:Int)>1))=true then G' else H else H:=by
  intro G' hg H hh
  by_cases e:JH t b=0
  ·refine Zu (by rw[e];rfl) ?_
   by_cases e2:1<k
   ·exact Zu (decide_eq_true (by omega)) (hg ⟨e2,e⟩)
   ·exact Zv (by simp;omega) (hh fun h=>e2 h.1)
  ·refine Zv (fun h=>e (GJ ?_)) (hh fun h=>e h.2)
   have h:=eq_of_beq h
   show(JH t b).toNat=0
   omega
 cases t
 ·refine Bj c x (b::r) k (0:Nat) (0:Nat) k (Zu (by simp;omega) ⟨CB hl,b,Qu hl,Zo (b,()) rfl rfl,Zq (b,()) rfl (Zu rfl ?_)⟩)
  rw[NT 0 _ (by omega),next (by omega)]
  exact h8 _ hz _ hn
 ·refine Aw c x (b::r) k (0:Nat) (0:Nat) k (Zu (by simp;omega) ⟨CB hl,b,Qu hl,Zo (b,()) rfl rfl,Zq (b,()) rfl (Zu rfl ?_)⟩)
  rw[NT 0 _ (by omega),next (by omega)]
  exact h8 _ hz _ hn
theorem Wl:ZB (w3 none) ((.tup [(.int .i64 0),(.sl 0 true []),(.bool false)])):=⟨rfl,rfl⟩
theorem KF(n:Int)(r:List UInt8):ZB (w3 (some (n,r))) ((.tup [(.int .i64 n),(.sl 1 false (r.map enc)),(.bool true)])):=YC (x:=w3 (some (n,r))) rfl
theorem Ld{c:UInt8}{x:List UInt8}{k:Nat}(h:k<=8):List.drop (Int.toNat (IntKind.wrap IntKind.i64 (1+(k:Int)))) (List.take (List.length (List.map (enc:UInt8->PV) (c::x))) (List.map enc (c::x)))=(x.drop k).map enc:=by
 rw[Yn (by omega) (by omega),show Int.toNat (1+(k:Int))=k+1 by omega,List.take_of_length_le (Nat.le_refl _),List.map_cons,List.drop_succ_cons,List.map_drop]
theorem a3g{c:UInt8}{x:List UInt8}{k:Nat}(h:k<=8)(hx:k<=x.length):(decide (0<=IntKind.wrap IntKind.i64 (1+(k:Int)))&&true&&(List.isEmpty (List.map (enc:UInt8->PV) (c::x))||Enc.sz UInt8==1)&&decide (Int.toNat (IntKind.wrap IntKind.i64 (1+(k:Int)))<=List.length (List.map (enc:UInt8->PV) (c::x)))&&decide (List.length (List.map (enc:UInt8->PV) (c::x))<=List.length (List.map (enc:UInt8->PV) (c::x))))=true:=by
 rw[Yn (by omega) (by omega),G5]
 simp
 omega
theorem b6h(t:Bool)(c:UInt8)(x:List UInt8)(k m:Nat)(hk:k<=8)(hx:k<=x.length):d3s t c x k (ZB (w3 (if m<=9223372036854775687 then some (if t=true then -121 - (m:Int)else(m:Int)+120,x.drop k)else none))) m:=by
 unfold d3s
 by_cases h:m<=9223372036854775687
 ·rw[if_pos h]
  refine Zu (decide_eq_true (by omega)) ⟨a3g hk hx,?_⟩
  rw[Ld hk]
  have e:(bif t then IntKind.wrap IntKind.i64 ((-121:Int) - IntKind.wrap IntKind.i64 (m:Int))else IntKind.wrap IntKind.i64 (IntKind.wrap IntKind.i64 (m:Int)+120))=if t=true then -121 - (m:Int)else(m:Int)+120:=by
   rw[Yn (n:=(m:Int)) (by omega) (by omega)]
   cases t
   ·exact Yn (by omega) (by omega)
   ·exact Yn (by omega) (by omega)
  rw[e]
  exact KF _ _
 ·rw[if_neg h]
  exact Zv (by simp;omega) Wl
theorem a7q(c:UInt8):IntKind.wrap IntKind.i64 (PV.asInt (List.getD (PV.cells (enc c)) 0 default))=(c.toNat:Int):=by
 have:=UInt8.toNat_lt c
 show IntKind.wrap IntKind.i64 (c.toNat:Int)=_
 exact Yn (by omega) (by omega)
theorem b2y{c:UInt8}{x:List UInt8}{k:Nat}(h:k<=8):List.drop (Int.toNat 1) (List.take (Int.toNat (IntKind.wrap IntKind.i64 (1+(k:Int)))) (List.map (enc:UInt8->PV) (c::x)))=(x.take k).map enc:=by
 rw[Yn (by omega) (by omega),show Int.toNat (1+(k:Int))=k+1 by omega,List.map_cons,List.take_succ_cons,List.map_take]
 rfl
theorem d5j{c:UInt8}{x:List UInt8}{k:Nat}(h:k<=8)(hx:k<=x.length):(decide ((0:Int)<=1)&&decide (0<=IntKind.wrap IntKind.i64 (1+(k:Int)))&&(List.isEmpty (List.map (enc:UInt8->PV) (c::x))||Enc.sz UInt8==1)&&decide (Int.toNat 1<=Int.toNat (IntKind.wrap IntKind.i64 (1+(k:Int))))&&decide (Int.toNat (IntKind.wrap IntKind.i64 (1+(k:Int)))<=List.length (List.map (enc:UInt8->PV) (c::x))))=true:=by
 rw[Yn (by omega) (by omega),G5]
 simp
 omega
theorem b8u{c:UInt8}{x:List UInt8}{k:Nat}(h:k<=8):(decide ((↑(List.length (List.map (enc:UInt8->PV) (c::x))):Int)<IntKind.wrap IntKind.i64 (1+(k:Int))))=decide (x.length<k):=by
 rw[Yn (by omega) (by omega)]
 simp
 omega
theorem Mh{G:PV->Prop}(t:Bool)(c:UInt8)(x:List UInt8)(k:Nat)(hk:Ut c=k)(ht:YB c=t)(h1:X9 c=false)(hx:x.length<=9000000):
  if (decide ((↑(List.length (List.map (enc:UInt8->PV) (c::x))):Int)<IntKind.wrap IntKind.i64 (1+(k:Int))))=true then ZB (w3 (Yh (c::x))) ((.tup [(.int .i64 0),(.sl 0 true []),(.bool false)]))else((decide (0<=1)&&decide (0<=IntKind.wrap IntKind.i64 (1+(k:Int)))&&(List.isEmpty (List.map (enc:UInt8->PV) (c::x))||Enc.sz UInt8==1)&&decide (Int.toNat 1<=Int.toNat (IntKind.wrap IntKind.i64 (1+(k:Int))))&&decide (Int.toNat (IntKind.wrap IntKind.i64 (1+(k:Int)))<=List.length (List.map (enc:UInt8->PV) (c::x))))=true∧At Y9 0 (Ze YG (ZB (w3 (Yh (c::x))))) YH 0 94 [(0,.pv (enc (c::x))),(6,.pv (.fn (bif t then 105 else 104))),(7,.pv (.int .i64 (k:Int))),(8,.pv (.bool t)),(9,.pv (.int .u64 0)),(41,(.pv (.sl 1 false (List.drop (Int.toNat 1) (List.take (Int.toNat (IntKind.wrap IntKind.i64 (1+(k:Int)))) (List.map (enc:UInt8->PV) (c::x))))))),(42,(.pv (.int .i64 (↑(List.length (List.drop (Int.toNat 1) (List.take (Int.toNat (IntKind.wrap IntKind.i64 (1+(k:Int)))) (List.map (enc:UInt8->PV) (c::x))))):Int)))),(43,.pv (.int .i64 0))] []):=by
 obtain⟨k1,k8⟩:=SV c h1
 rw[b8u (by omega)]
 have hw:=UR c x
 rw[if_neg (show ¬ X9 c=true by rw[h1];simp),hk,ht]at hw
 by_cases hl:x.length<k
 ·rw[if_pos hl]at hw
  rw[hw]
  exact Zu (decide_eq_true hl) Wl
 ·rw[if_neg hl]at hw
  refine Zv (fun e=>hl (of_decide_eq_true e)) ⟨d5j (by omega) (by omega),?_⟩
  rw[b2y (by omega)]
  have hlen:(x.take k).length=k:=by rw[List.length_take];omega
  have hh:(x.take k).headD 0=x.headD 0:=Ao x (by omega)
  have:=a1c (G:=ZB (w3 (Yh (c::x)))) t c x (x.take k) k (by omega) (by omega) hlen (by
   rw[hh];intro e;rw[hw,if_pos e];exact Wl) (by
   rw[hh];intro e;rw[hw,if_neg e];exact b6h t c x k _ (by omega) (by omega))
  rw[List.length_map,hlen]
  exact this
theorem b6s: ∀ x:List UInt8×Unit,decide (x.1.length<=9000000)=true->Zf Y9 0 (Ze YG (ZB (w3 (Yh x.1)))) YH [] (Yp b9p (encL x)):=by
 rintro⟨l,⟨⟩⟩ h
 have h:l.length<=9000000:=of_decide_eq_true h
 cases l with
 | nil=>exact c5q Wl
 | cons c x=>
  have hc:=UInt8.toNat_lt c
  have hx:x.length<=9000000:=by rw[List.length_cons]at h;omega
  refine d1z c x ⟨c,Qu (l:=c::x) (i:=0) (by simp),?_⟩
  rw[a7q]
  have ht:YB c=decide (c.toNat<=7):=rfl
  by_cases a:c.toNat ≥ 248
  ·have h1:X9 c=false:=by unfold X9;rw[decide_eq_false (show ¬ c.toNat<=247 by omega),Bool.and_false]
   have ht:YB c=false:=by rw[ht];exact decide_eq_false (by omega)
   refine Zu (decide_eq_true (by omega)) ?_
   obtain⟨k,hk⟩ : ∃ k,k=c.toNat - 247:=⟨_,rfl⟩
   rw[show IntKind.wrap IntKind.i64 ((c.toNat:Int) - 247)=(k:Int) by rw[Yn (by omega) (by omega)];omega]
   exact Mh (G:=ZB (w3 (Yh (c::x)))) false c x k (by rw[hk];unfold Ut;rw[if_neg (by rw[ht];simp)]) ht h1 hx
  ·refine Zv (by simp;omega) ?_
   by_cases b:c.toNat<=7
   ·have h1:X9 c=false:=by unfold X9;rw[decide_eq_false (show ¬ 8<=c.toNat by omega),Bool.false_and]
    have ht:YB c=true:=by rw[ht];exact decide_eq_true b
    refine Zu (decide_eq_true (by omega)) ?_
    rw[show IntKind.wrap IntKind.i64 (8 - (c.toNat:Int))=((8 - c.toNat:Nat):Int) by rw[Yn (by omega) (by omega)];omega]
    exact Mh (G:=ZB (w3 (Yh (c::x)))) true c x (8 - c.toNat) (by unfold Ut;rw[if_pos ht]) ht h1 hx
   ·have h1:X9 c=true:=by unfold X9;rw[decide_eq_true (show 8<=c.toNat by omega),decide_eq_true (show c.toNat<=247 by omega)];rfl
    have hw:Yh (c::x)=some ((c.toNat:Int) - 128,x):=by rw[UR,if_pos h1]
    refine Zv (by simp;omega) ⟨by simp,?_⟩
    show ZB (w3 (Yh (c::x))) _
    rw[hw,Yn (by omega) (by omega),List.take_of_length_le (Nat.le_refl _)]
    exact KF _ _
end Go.Pl
namespace Go.Pl
open Go.RowKit
open Enc (enc dec is)
open EncL (encL decL isL)
set_option maxRecDepth 100000
noncomputable def Y1:IC:=Xp Proofs.Tryz.f125
def Y2:List IRes:=[(.tmp 2),(.tmp 3),(.tmp 4)]
abbrev b1c:Nat:=82
def XC:ZI:=YN [(33,.pure (preT (fun x:List UInt8×Int×Unit=>decide (x.1.length<=1000000))) (Zk (fun x:List UInt8×Int×Unit=>x.1++encI x.2.1)))]
theorem c6u{G:PV->Prop}(c:UInt8)(x:List UInt8)(h : ∃ y0:UInt8,AV.pv (PV.rptr (PV.cells (List.getD (List.map enc (c::x)) (Int.toNat 0) default)))=AV.pv (PV.rptr (PV.cells ((enc) y0)))∧(if (decide (IntKind.wrap IntKind.i64 (PV.asInt (List.getD (PV.cells (enc y0)) 0 default)) ≥ 8))=true then if (decide (IntKind.wrap IntKind.i64 (PV.asInt (List.getD (PV.cells (enc y0)) 0 default))<=247))=true then(decide (0<=1)&&true&&(List.isEmpty (List.map enc (c::x))||Enc.sz UInt8==1)&&decide (Int.toNat 1<=List.length (List.map enc (c::x)))&&decide (List.length (List.map enc (c::x))<=List.length (List.map enc (c::x))))=true∧(G ((.tup [(.int .i64 (IntKind.wrap IntKind.i64 (IntKind.wrap IntKind.i64 (PV.asInt (List.getD (PV.cells (enc y0)) 0 default)) - 128))),(.sl 1 false (List.drop (Int.toNat 1) (List.take (List.length (List.map enc (c::x))) (List.map enc (c::x))))),(.bool true)])))else(if (decide (IntKind.wrap IntKind.i64 (PV.asInt (List.getD (PV.cells (enc y0)) 0 default))<8))=true then if (decide ((↑(List.length (List.map enc (c::x))):Int)<IntKind.wrap IntKind.i64 (1+IntKind.wrap IntKind.i64 (8 - IntKind.wrap IntKind.i64 (PV.asInt (List.getD (PV.cells (enc y0)) 0 default))))))=true then G ((.tup [(.int .i64 0),(.sl 0 true []),(.bool false)]))else(At XC 0 (Ze Y2 G) Y1 0 82 [(0,(.pv (.sl 1 false (List.map enc (c::x))))),(5,(.pv (.int .i64 (IntKind.wrap IntKind.i64 (PV.asInt (List.getD (PV.cells (enc y0)) 0 default)))))),(6,(.pv (.int .i64 (IntKind.wrap IntKind.i64 (8 - IntKind.wrap IntKind.i64 (PV.asInt (List.getD (PV.cells (enc y0)) 0 default))))))),(7,(.pv (.int IntKind.u64 0))),(8,(.pv (.int .i64 1)))] [])else(if (decide ((↑(List.length (List.map enc (c::x))):Int)<IntKind.wrap IntKind.i64 (1+IntKind.wrap IntKind.i64 (IntKind.wrap IntKind.i64 (PV.asInt (List.getD (PV.cells (enc y0)) 0 default)) - 247))))=true then G ((.tup [(.int .i64 0),(.sl 0 true []),(.bool false)]))else(At XC 0 (Ze Y2 G) Y1 0 82 [(0,(.pv (.sl 1 false (List.map enc (c::x))))),(5,(.pv (.int .i64 (IntKind.wrap IntKind.i64 (PV.asInt (List.getD (PV.cells (enc y0)) 0 default)))))),(6,(.pv (.int .i64 (IntKind.wrap IntKind.i64 (IntKind.wrap IntKind.i64 (PV.asInt (List.getD (PV.cells (enc y0)) 0 default)) - 247))))),(7,(.pv (.int IntKind.u64 0))),(8,(.pv (.int .i64 1)))] [])))else(if (decide (IntKind.wrap IntKind.i64 (PV.asInt (List.getD (PV.cells (enc y0)) 0 default))<8))=true then if (decide ((↑(List.length (List.map enc (c::x))):Int)<IntKind.wrap IntKind.i64 (1+IntKind.wrap IntKind.i64 (8 - IntKind.wrap IntKind.i64 (PV.asInt (List.getD (PV.cells (enc y0)) 0 default))))))=true then G ((.tup [(.int .i64 0),(.sl 0 true []),(.bool false)]))else(At XC 0 (Ze Y2 G) Y1 0 82 [(0,(.pv (.sl 1 false (List.map enc (c::x))))),(5,(.pv (.int .i64 (IntKind.wrap IntKind.i64 (PV.asInt (List.getD (PV.cells (enc y0)) 0 default)))))),(6,(.pv (.int .i64 (IntKind.wrap IntKind.i64 (8 - IntKind.wrap IntKind.i64 (PV.asInt (List.getD (PV.cells (enc y0)) 0 default))))))),(7,(.pv (.int IntKind.u64 0))),(8,(.pv (.int .i64 1)))] [])else(if (decide ((↑(List.length (List.map enc (c::x))):Int)<IntKind.wrap IntKind.i64 (1+IntKind.wrap IntKind.i64 (IntKind.wrap IntKind.i64 (PV.asInt (List.getD (PV.cells (enc y0)) 0 default)) - 247))))=true then G ((.tup [(.int .i64 0),(.sl 0 true []),(.bool false)]))else(At XC 0 (Ze Y2 G) Y1 0 82 [(0,(.pv (.sl 1 false (List.map enc (c::x))))),(5,(.pv (.int .i64 (IntKind.wrap IntKind.i64 (PV.asInt (List.getD (PV.cells (enc y0)) 0 default)))))),(6,(.pv (.int .i64 (IntKind.wrap IntKind.i64 (IntKind.wrap IntKind.i64 (PV.asInt (List.getD (PV.cells (enc y0)) 0 default)) - 247))))),(7,(.pv (.int IntKind.u64 0))),(8,(.pv (.int .i64 1)))] []))))):Zf XC 0 (Ze Y2 G) Y1 [] (Yp 82 [enc (c::x)]):=Zf.tp (.lit (.lit (.lit (.abs (UInt8) (fun YY=>AV.pv (PV.rptr (PV.cells ((enc) YY)))) (.lit (.lit (.ask (.lit (.lit (.lit (.ask (.lit (.req (.nil))) (.lit (.lit (.ask (.lit (.lit (.lit (.ask (.nil) (.nil))))) (.lit (.lit (.ask (.nil) (.nil))))))))))) (.lit (.lit (.lit (.lit (.lit (.ask (.lit (.lit (.lit (.ask (.nil) (.nil))))) (.lit (.lit (.ask (.nil) (.nil))))))))))))))))) h (by kernel_rfl)
theorem MK{G:PV->Prop}(c:UInt8)(x:List UInt8)(k m i c0:Int)(h:if (decide (i<=k))=true then(decide (0<=i)&&decide (Int.toNat i<List.length (List.map enc (c::x)))&&Enc.sz UInt8==1)=true∧(∃ y0:UInt8,AV.pv (PV.rptr (PV.cells (List.getD (List.map enc (c::x)) (Int.toNat i) default)))=AV.pv (PV.rptr (PV.cells ((enc) y0)))∧(if (decide (c0<8))=true then At XC 0 (Ze Y2 G) Y1 0 82 [(0,(.pv (.sl 1 false (List.map enc (c::x))))),(5,(.pv (.int .i64 c0))),(6,(.pv (.int .i64 k))),(7,(.pv (.int IntKind.u64 (IntKind.wrap IntKind.u64 (↑(BitVec.toNat (BitVec.ofInt (IntKind.bits IntKind.u64) (IntKind.wrap IntKind.u64 (m*2 ^ min (Int.toNat 8) (IntKind.bits IntKind.u64))) ||| BitVec.ofInt (IntKind.bits IntKind.u64) (IntKind.wrap IntKind.u64 (IntKind.wrap IntKind.u8 (255 - PV.asInt (List.getD (PV.cells (enc y0)) 0 default)))))):Int))))),(8,(.pv (.int .i64 (IntKind.wrap IntKind.i64 (i+1)))))] []else(At XC 0 (Ze Y2 G) Y1 0 82 [(0,(.pv (.sl 1 false (List.map enc (c::x))))),(5,(.pv (.int .i64 c0))),(6,(.pv (.int .i64 k))),(7,(.pv (.int IntKind.u64 (IntKind.wrap IntKind.u64 (↑(BitVec.toNat (BitVec.ofInt (IntKind.bits IntKind.u64) (IntKind.wrap IntKind.u64 (m*2 ^ min (Int.toNat 8) (IntKind.bits IntKind.u64))) ||| BitVec.ofInt (IntKind.bits IntKind.u64) (IntKind.wrap IntKind.u64 (PV.asInt (List.getD (PV.cells (enc y0)) 0 default))))):Int))))),(8,(.pv (.int .i64 (IntKind.wrap IntKind.i64 (i+1)))))] [])))else(if (decide (c0<8))=true then if (decide (m>9223372036854775687))=true then G ((.tup [(.int .i64 0),(.sl 0 true []),(.bool false)]))else(∃ y1:List UInt8,AV.pv (Zk (fun(x:List UInt8×Int×Unit)=>x.1++encI x.2.1) [(.sl 0 true []),(.int .i64 (IntKind.wrap IntKind.i64 ((-121:Int) - IntKind.wrap IntKind.i64 m)))])=AV.pv (enc y1)∧(if ((↑(List.length (List.map enc y1)):Int) != IntKind.wrap IntKind.i64 (1+k))=true then G ((.tup [(.int .i64 0),(.sl 0 true []),(.bool false)]))else((decide (0<=IntKind.wrap IntKind.i64 (1+k))&&true&&(List.isEmpty (List.map enc (c::x))||Enc.sz UInt8==1)&&decide (Int.toNat (IntKind.wrap IntKind.i64 (1+k))<=List.length (List.map enc (c::x)))&&decide (List.length (List.map enc (c::x))<=List.length (List.map enc (c::x))))=true∧(G ((.tup [(.int .i64 (IntKind.wrap IntKind.i64 ((-121:Int) - IntKind.wrap IntKind.i64 m))),(.sl 1 false (List.drop (Int.toNat (IntKind.wrap IntKind.i64 (1+k))) (List.take (List.length (List.map enc (c::x))) (List.map enc (c::x))))),(.bool true)]))))))else(if (decide (m>9223372036854775687))=true then G ((.tup [(.int .i64 0),(.sl 0 true []),(.bool false)]))else(∃ y2:List UInt8,AV.pv (Zk (fun(x:List UInt8×Int×Unit)=>x.1++encI x.2.1) [(.sl 0 true []),(.int .i64 (IntKind.wrap IntKind.i64 (IntKind.wrap IntKind.i64 m+120)))])=AV.pv (enc y2)∧(if ((↑(List.length (List.map enc y2)):Int) != IntKind.wrap IntKind.i64 (1+k))=true then G ((.tup [(.int .i64 0),(.sl 0 true []),(.bool false)]))else((decide (0<=IntKind.wrap IntKind.i64 (1+k))&&true&&(List.isEmpty (List.map enc (c::x))||Enc.sz UInt8==1)&&decide (Int.toNat (IntKind.wrap IntKind.i64 (1+k))<=List.length (List.map enc (c::x)))&&decide (List.length (List.map enc (c::x))<=List.length (List.map enc (c::x))))=true∧(G ((.tup [(.int .i64 (IntKind.wrap IntKind.i64 (IntKind.wrap IntKind.i64 m+120))),(.sl 1 false (List.drop (Int.toNat (IntKind.wrap IntKind.i64 (1+k))) (List.take (List.length (List.map enc (c::x))) (List.map enc (c::x))))),(.bool true)]))))))))):At XC 0 (Ze Y2 G) Y1 0 82 [(0,.pv (enc (c::x))),(5,.pv (.int .i64 c0)),(6,.pv (.int .i64 k)),(7,.pv (.int .u64 m)),(8,.pv (.int .i64 i))] []:=At.tp (.lit (.ask (.req (.abs (UInt8) (fun YY=>AV.pv (PV.rptr (PV.cells ((enc) YY)))) (.lit (.lit (.ask (.lit (.lit (.lit (.lit (.nil))))) (.lit (.lit (.lit (.nil))))))))) (.lit (.ask (.lit (.ask (.nil) (.lit (.lit (.abs (List UInt8) (fun YY=>AV.pv (enc YY)) (.lit (.lit (.ask (.nil) (.lit (.req (.nil))))))))))) (.lit (.ask (.nil) (.lit (.lit (.abs (List UInt8) (fun YY=>AV.pv (enc YY)) (.lit (.lit (.ask (.nil) (.lit (.req (.nil))))))))))))))) h (by kernel_rfl)
theorem b1v{G:PV->Prop}(h:G ((.tup [(.int .i64 0),(.sl 0 true []),(.bool false)]))):Zf XC 0 (Ze Y2 G) Y1 [] (Yp 82 [enc ([]:List UInt8)]):=Zf.tp (.lit (.lit (.nil))) h (by kernel_rfl)
noncomputable def Bg:IC:=Xp Proofs.Tryz.f91
def Ad:List IRes:=[]
abbrev b3r:Nat:=14
def TY:ZI:=YN []
theorem c3g{G:AV×List AObj×List AObj->Prop}(x:List UInt8)(err:Int)(y:List UInt8)(e:Int)(h:G (((.tup []),([(.box [(.pv (.sl 1 false (List.map enc y))),(.pv (.int .i64 e))])],[])))):Zf TY 1 (Zj 1 Ad G) Bg [] (ZN 14 [.ptr 0 0,.pv (.sl 1 false (y.map enc)),.pv (.int .i64 e)] [.box [.pv (.sl 1 false (x.map enc)),.pv (.int .i64 err)]]):=Zf.to (.nil) h (by kernel_rfl)
noncomputable def LD:IC:=Xp Proofs.Tryz.f90
def F4:List IRes:=[(.tmp 8)]
abbrev c9t:Nat:=52
def a4z:ZI:=YN [(125,.pure (preT (fun x:List UInt8×Unit=>decide (x.1.length<=9000000))) (Zk (fun x:List UInt8×Unit=>w3 (Yh x.1))))]
theorem d7y{G:AV×List AObj×List AObj->Prop}(x:List UInt8)(err:Int)(lo hi e:Int)(h:if (err != 0)=true then G (((.pv (.int .i64 0)),([(.box [(.pv (.sl 1 false (List.map enc x))),(.pv (.int .i64 err))])],[])))else((Go.Pl.preT (fun(x:List UInt8×Unit)=>decide (List.length x.1<=9000000)) [(.sl 1 false (List.map enc x))])=true∧(∃ y0:R3 Int (List UInt8) Bool,AV.pv (Zk (fun(x:List UInt8×Unit)=>w3 (Yh x.1)) [(.sl 1 false (List.map enc x))])=AV.pv (enc y0)∧(if (!R3.c y0)=true then G (((.pv (.int .i64 0)),([(.box [(.pv (.sl 1 false (List.map enc x))),(.pv (.int .i64 4))])],[])))else(if (decide (R3.a y0<lo))=true then G (((.pv (.int .i64 0)),([(.box [(.pv (.sl 1 false (List.map enc x))),(.pv (.int .i64 e))])],[])))else(if (decide (R3.a y0>hi))=true then G (((.pv (.int .i64 0)),([(.box [(.pv (.sl 1 false (List.map enc x))),(.pv (.int .i64 e))])],[])))else(G (((.pv (.int .i64 (R3.a y0))),([(.box [(.pv (.sl 1 false (List.map enc (R3.b y0)))),(.pv (.int .i64 err))])],[])))))))))):Zf a4z 1 (Zj 1 F4 G) LD [] (ZN 52 [.ptr 0 0,.pv (.int .i64 lo),.pv (.int .i64 hi),.pv (.int .i64 e)] [.box [.pv (.sl 1 false (x.map enc)),.pv (.int .i64 err)]]):=Zf.to (.lit (.lit (.lit (.lit (.lit (.lit (.lit (.lit (.ask (.nil) (.req (.abs (R3 Int (List UInt8) Bool) (fun YY=>AV.pv (enc YY)) (.ask (.nil) (.lit (.ask (.lit (.lit (.lit (.lit (.nil))))) (.lit (.lit (.lit (.lit (.ask (.nil) (.nil)))))))))))))))))))) h (by kernel_rfl)
noncomputable def TP:IC:=Xp Proofs.Tryz.f50
def TE:List IRes:=[(.tmp 6)]
abbrev b8q:Nat:=11
def FV:ZI:=YN [(90,.own YA WN)]
theorem d2j{G:AV×List AObj×List AObj->Prop}(x:List UInt8)(err:Int)(lo hi:Int)(h:(YA [(.ptr 0 0),(.pv (.int .i64 lo)),(.pv (.int .i64 hi)),(.pv (.int .i64 2))] [(.box [(.pv (.sl 1 false (List.map enc x))),(.pv (.int .i64 err))])])=true∧(G (((.pv (.int .i64 (Prod.fst (Zc lo hi 2 (Za (PV.sl 1 false (List.map enc x))) err)))),([(.box [(.pv (.sl 1 false (List.map enc (Prod.fst (Prod.snd (Zc lo hi 2 (Za (PV.sl 1 false (List.map enc x))) err)))))),(.pv (.int .i64 (Prod.snd (Prod.snd (Zc lo hi 2 (Za (PV.sl 1 false (List.map enc x))) err)))))])],[]))))):Zf FV 1 (Zj 1 TE G) TP [] (ZN 11 [.ptr 0 0,.pv (.int .i64 lo),.pv (.int .i64 hi)] [.box [.pv (.sl 1 false (x.map enc)),.pv (.int .i64 err)]]):=Zf.to (.req (.keep (.nil))) h (by kernel_rfl)
noncomputable def BS:IC:=Xp Proofs.Tryz.f52
def BN:List IRes:=[(.tmp 4)]
abbrev b4h:Nat:=56
def TU:ZI:=YN [(90,.own YA WN),(91,.own Kv Gh)]
theorem c1v{G:AV×List AObj×List AObj->Prop}(x:List UInt8)(err:Int)(most:Int)(h:if (err != 0)=true then G (((.pv (.str [])),([(.box [(.pv (.sl 1 false (List.map enc x))),(.pv (.int .i64 err))])],[])))else((YA [(.ptr 0 0),(.pv (.int .i64 0)),(.pv (.int .i64 most)),(.pv (.int .i64 3))] [(.box [(.pv (.sl 1 false (List.map enc x))),(.pv (.int .i64 err))])])=true∧(if (Prod.snd (Prod.snd (Zc 0 most 3 (Za (PV.sl 1 false (List.map enc x))) err)) != 0)=true then G (((.pv (.str [])),([(.box [(.pv (.sl 1 false (List.map enc (Prod.fst (Prod.snd (Zc 0 most 3 (Za (PV.sl 1 false (List.map enc x))) err)))))),(.pv (.int .i64 (Prod.snd (Prod.snd (Zc 0 most 3 (Za (PV.sl 1 false (List.map enc x))) err)))))])],[])))else(if (decide (Prod.fst (Zc 0 most 3 (Za (PV.sl 1 false (List.map enc x))) err)>(↑(List.length (List.map enc (Prod.fst (Prod.snd (Zc 0 most 3 (Za (PV.sl 1 false (List.map enc x))) err))))):Int)))=true then(Kv [(.ptr 0 0),(.pv (.sl 1 false (List.map enc x))),(.pv (.int .i64 4))] [(.box [(.pv (.sl 1 false (List.map enc (Prod.fst (Prod.snd (Zc 0 most 3 (Za (PV.sl 1 false (List.map enc x))) err)))))),(.pv (.int .i64 (Prod.snd (Prod.snd (Zc 0 most 3 (Za (PV.sl 1 false (List.map enc x))) err)))))])])=true∧(G (((.pv (.str [])),([(.box [(.pv (.sl 1 false (List.map enc (Za (PV.sl 1 false (List.map enc x)))))),(.pv (.int .i64 4))])],[]))))else((true&&decide (0<=Prod.fst (Zc 0 most 3 (Za (PV.sl 1 false (List.map enc x))) err))&&(List.isEmpty (List.map enc (Prod.fst (Prod.snd (Zc 0 most 3 (Za (PV.sl 1 false (List.map enc x))) err))))||1==1)&&decide (0<=Int.toNat (Prod.fst (Zc 0 most 3 (Za (PV.sl 1 false (List.map enc x))) err)))&&decide (Int.toNat (Prod.fst (Zc 0 most 3 (Za (PV.sl 1 false (List.map enc x))) err))<=List.length (List.map enc (Prod.fst (Prod.snd (Zc 0 most 3 (Za (PV.sl 1 false (List.map enc x))) err))))))=true∧((List.all (List.drop 0 (List.take (Int.toNat (Prod.fst (Zc 0 most 3 (Za (PV.sl 1 false (List.map enc x))) err))) (List.map enc (Prod.fst (Prod.snd (Zc 0 most 3 (Za (PV.sl 1 false (List.map enc x))) err)))))) SE&&(List.isEmpty (List.drop 0 (List.take (Int.toNat (Prod.fst (Zc 0 most 3 (Za (PV.sl 1 false (List.map enc x))) err))) (List.map enc (Prod.fst (Prod.snd (Zc 0 most 3 (Za (PV.sl 1 false (List.map enc x))) err))))))||1==1))=true∧((decide (0<=Prod.fst (Zc 0 most 3 (Za (PV.sl 1 false (List.map enc x))) err))&&true&&(List.isEmpty (List.map enc (Prod.fst (Prod.snd (Zc 0 most 3 (Za (PV.sl 1 false (List.map enc x))) err))))||1==1)&&decide (Int.toNat (Prod.fst (Zc 0 most 3 (Za (PV.sl 1 false (List.map enc x))) err))<=List.length (List.map enc (Prod.fst (Prod.snd (Zc 0 most 3 (Za (PV.sl 1 false (List.map enc x))) err)))))&&decide (List.length (List.map enc (Prod.fst (Prod.snd (Zc 0 most 3 (Za (PV.sl 1 false (List.map enc x))) err))))<=List.length (List.map enc (Prod.fst (Prod.snd (Zc 0 most 3 (Za (PV.sl 1 false (List.map enc x))) err))))))=true∧(G (((.pv (.str (Xl (List.drop 0 (List.take (Int.toNat (Prod.fst (Zc 0 most 3 (Za (PV.sl 1 false (List.map enc x))) err))) (List.map enc (Prod.fst (Prod.snd (Zc 0 most 3 (Za (PV.sl 1 false (List.map enc x))) err))))))))),([(.box [(.pv (.sl 1 false (List.drop (Int.toNat (Prod.fst (Zc 0 most 3 (Za (PV.sl 1 false (List.map enc x))) err))) (List.take (List.length (List.map enc (Prod.fst (Prod.snd (Zc 0 most 3 (Za (PV.sl 1 false (List.map enc x))) err))))) (List.map enc (Prod.fst (Prod.snd (Zc 0 most 3 (Za (PV.sl 1 false (List.map enc x))) err)))))))),(.pv (.int .i64 (Prod.snd (Prod.snd (Zc 0 most 3 (Za (PV.sl 1 false (List.map enc x))) err)))))])],[]))))))))))):Zf TU 1 (Zj 1 BN G) BS [] (ZN 56 [.ptr 0 0,.pv (.int .i64 most)] [.box [.pv (.sl 1 false (x.map enc)),.pv (.int .i64 err)]]):=Zf.to (.lit (.lit (.lit (.lit (.lit (.lit (.lit (.lit (.ask (.nil) (.req (.keep (.lit (.ask (.nil) (.lit (.ask (.req (.keep (.nil))) (.req (.req (.req (.nil))))))))))))))))))) h (by kernel_rfl)
noncomputable def BU:IC:=Xp Proofs.Tryz.f51
def Bu:List IRes:=[(.tmp 4)]
abbrev b2l:Nat:=23
def PR:ZI:=YN [(50,.own Z5 VL)]
theorem b8y{G:AV×List AObj×List AObj->Prop}(x:List UInt8)(err:Int)(most:Int)(h:if (err != 0)=true then G (((.pv (.int .i64 0)),([(.box [(.pv (.sl 1 false (List.map enc x))),(.pv (.int .i64 err))])],[])))else((Z5 [(.ptr 0 0),(.pv (.int .i64 0)),(.pv (.int .i64 most))] [(.box [(.pv (.sl 1 false (List.map enc x))),(.pv (.int .i64 err))])])=true∧(if (Prod.snd (Prod.snd (Zc 0 most 2 (Za (PV.sl 1 false (List.map enc x))) err))==2)=true then G (((.pv (.int .i64 (Prod.fst (Zc 0 most 2 (Za (PV.sl 1 false (List.map enc x))) err)))),([(.box [(.pv (.sl 1 false (List.map enc (Prod.fst (Prod.snd (Zc 0 most 2 (Za (PV.sl 1 false (List.map enc x))) err)))))),(.pv (.int .i64 3))])],[])))else(G (((.pv (.int .i64 (Prod.fst (Zc 0 most 2 (Za (PV.sl 1 false (List.map enc x))) err)))),([(.box [(.pv (.sl 1 false (List.map enc (Prod.fst (Prod.snd (Zc 0 most 2 (Za (PV.sl 1 false (List.map enc x))) err)))))),(.pv (.int .i64 (Prod.snd (Prod.snd (Zc 0 most 2 (Za (PV.sl 1 false (List.map enc x))) err)))))])],[]))))))):Zf PR 1 (Zj 1 Bu G) BU [] (ZN 23 [.ptr 0 0,.pv (.int .i64 most)] [.box [.pv (.sl 1 false (x.map enc)),.pv (.int .i64 err)]]):=Zf.to (.lit (.ask (.nil) (.req (.keep (.lit (.ask (.nil) (.nil))))))) h (by kernel_rfl)
noncomputable def XV:IC:=Xp Proofs.Tryz.f17
def XQ:List IRes:=[(.cell true 2 2)]
abbrev d3o:Nat:=102
def Vw:ZI:=YN [(45,.own Z5 VL),(46,.own YF Ud),(41,.pure (preT (fun x:Lin×Unit=>ZG x.1)) (Zk (fun x:Lin×Unit=>Zm x.1)))]
theorem d6k{G:AV×List AObj×List AObj->Prop}(x:List UInt8)(err:Int)(h:if (err != 0)=true then G (((.pv (.agg [(.int .i64 0),(.sl 0 true [])])),([(.box [(.pv (.sl 1 false (List.map enc x))),(.pv (.int .i64 err))])],[])))else((Z5 [(.ptr 0 0),(.pv (.int .i64 (-1000000))),(.pv (.int .i64 1000000))] [(.box [(.pv (.sl 1 false (List.map enc x))),(.pv (.int .i64 0))])])=true∧((Z5 [(.ptr 0 0),(.pv (.int .i64 (-9223372036854775808))),(.pv (.int .i64 9223372036854775807))] [(.box [(.pv (.sl 1 false (List.map enc (Prod.fst (Prod.snd (Zc (-1000000:Int) 1000000 2 (Za (PV.sl 1 false (List.map enc x))) 0)))))),(.pv (.int .i64 (Prod.snd (Prod.snd (Zc (-1000000:Int) 1000000 2 (Za (PV.sl 1 false (List.map enc x))) 0)))))])])=true∧(if (Prod.snd (Prod.snd (Zc (-9223372036854775808:Int) 9223372036854775807 2 (Za (PV.sl 1 false (List.map enc (Prod.fst (Prod.snd (Zc (-1000000:Int) 1000000 2 (Za (PV.sl 1 false (List.map enc x))) 0)))))) (Prod.snd (Prod.snd (Zc (-1000000:Int) 1000000 2 (Za (PV.sl 1 false (List.map enc x))) 0)))))==0)=true then if (decide (Prod.fst (Zc (-9223372036854775808:Int) 9223372036854775807 2 (Za (PV.sl 1 false (List.map enc (Prod.fst (Prod.snd (Zc (-1000000:Int) 1000000 2 (Za (PV.sl 1 false (List.map enc x))) 0)))))) (Prod.snd (Prod.snd (Zc (-1000000:Int) 1000000 2 (Za (PV.sl 1 false (List.map enc x))) 0))))<0))=true then At Vw 1 (ZC 1 XQ G) XV 0 102 [(0,(.ptr 0 0)),(2,(.ptr 1 0)),(3,(.ptr 2 0)),(4,(.ptr 3 0)),(5,(.pv (.int .i64 (Prod.fst (Zc (-9223372036854775808:Int) 9223372036854775807 2 (Za (PV.sl 1 false (List.map enc (Prod.fst (Prod.snd (Zc (-1000000:Int) 1000000 2 (Za (PV.sl 1 false (List.map enc x))) 0)))))) (Prod.snd (Prod.snd (Zc (-1000000:Int) 1000000 2 (Za (PV.sl 1 false (List.map enc x))) 0)))))))),(6,(.pv (.int .i64 0)))] [(.obj (.box [(.pv (.sl 1 false (List.map enc x))),(.pv (.int .i64 err))])),(.obj (.box [(.pv (.int .i64 0)),(.pv (.sl 0 true []))])),(.obj (.box [(.pv (.sl 1 false (List.map enc (Prod.fst (Prod.snd (Zc (-9223372036854775808:Int) 9223372036854775807 2 (Za (PV.sl 1 false (List.map enc (Prod.fst (Prod.snd (Zc (-1000000:Int) 1000000 2 (Za (PV.sl 1 false (List.map enc x))) 0)))))) (Prod.snd (Prod.snd (Zc (-1000000:Int) 1000000 2 (Za (PV.sl 1 false (List.map enc x))) 0))))))))),(.pv (.int .i64 3))])),(.obj (.box [(.pv (.int .i64 (Prod.fst (Zc (-1000000:Int) 1000000 2 (Za (PV.sl 1 false (List.map enc x))) 0)))),(.pv (.sl 0 true []))]))]else(if (decide (Prod.fst (Zc (-9223372036854775808:Int) 9223372036854775807 2 (Za (PV.sl 1 false (List.map enc (Prod.fst (Prod.snd (Zc (-1000000:Int) 1000000 2 (Za (PV.sl 1 false (List.map enc x))) 0)))))) (Prod.snd (Prod.snd (Zc (-1000000:Int) 1000000 2 (Za (PV.sl 1 false (List.map enc x))) 0))))>12))=true then At Vw 1 (ZC 1 XQ G) XV 0 102 [(0,(.ptr 0 0)),(2,(.ptr 1 0)),(3,(.ptr 2 0)),(4,(.ptr 3 0)),(5,(.pv (.int .i64 (Prod.fst (Zc (-9223372036854775808:Int) 9223372036854775807 2 (Za (PV.sl 1 false (List.map enc (Prod.fst (Prod.snd (Zc (-1000000:Int) 1000000 2 (Za (PV.sl 1 false (List.map enc x))) 0)))))) (Prod.snd (Prod.snd (Zc (-1000000:Int) 1000000 2 (Za (PV.sl 1 false (List.map enc x))) 0)))))))),(6,(.pv (.int .i64 0)))] [(.obj (.box [(.pv (.sl 1 false (List.map enc x))),(.pv (.int .i64 err))])),(.obj (.box [(.pv (.int .i64 0)),(.pv (.sl 0 true []))])),(.obj (.box [(.pv (.sl 1 false (List.map enc (Prod.fst (Prod.snd (Zc (-9223372036854775808:Int) 9223372036854775807 2 (Za (PV.sl 1 false (List.map enc (Prod.fst (Prod.snd (Zc (-1000000:Int) 1000000 2 (Za (PV.sl 1 false (List.map enc x))) 0)))))) (Prod.snd (Prod.snd (Zc (-1000000:Int) 1000000 2 (Za (PV.sl 1 false (List.map enc x))) 0))))))))),(.pv (.int .i64 3))])),(.obj (.box [(.pv (.int .i64 (Prod.fst (Zc (-1000000:Int) 1000000 2 (Za (PV.sl 1 false (List.map enc x))) 0)))),(.pv (.sl 0 true []))]))]else(At Vw 1 (ZC 1 XQ G) XV 0 102 [(0,(.ptr 0 0)),(2,(.ptr 1 0)),(3,(.ptr 2 0)),(4,(.ptr 3 0)),(5,(.pv (.int .i64 (Prod.fst (Zc (-9223372036854775808:Int) 9223372036854775807 2 (Za (PV.sl 1 false (List.map enc (Prod.fst (Prod.snd (Zc (-1000000:Int) 1000000 2 (Za (PV.sl 1 false (List.map enc x))) 0)))))) (Prod.snd (Prod.snd (Zc (-1000000:Int) 1000000 2 (Za (PV.sl 1 false (List.map enc x))) 0)))))))),(6,(.pv (.int .i64 0)))] [(.obj (.box [(.pv (.sl 1 false (List.map enc x))),(.pv (.int .i64 err))])),(.obj (.box [(.pv (.int .i64 0)),(.pv (.sl 0 true []))])),(.obj (.box [(.pv (.sl 1 false (List.map enc (Prod.fst (Prod.snd (Zc (-9223372036854775808:Int) 9223372036854775807 2 (Za (PV.sl 1 false (List.map enc (Prod.fst (Prod.snd (Zc (-1000000:Int) 1000000 2 (Za (PV.sl 1 false (List.map enc x))) 0)))))) (Prod.snd (Prod.snd (Zc (-1000000:Int) 1000000 2 (Za (PV.sl 1 false (List.map enc x))) 0))))))))),(.pv (.int .i64 (Prod.snd (Prod.snd (Zc (-9223372036854775808:Int) 9223372036854775807 2 (Za (PV.sl 1 false (List.map enc (Prod.fst (Prod.snd (Zc (-1000000:Int) 1000000 2 (Za (PV.sl 1 false (List.map enc x))) 0)))))) (Prod.snd (Prod.snd (Zc (-1000000:Int) 1000000 2 (Za (PV.sl 1 false (List.map enc x))) 0))))))))])),(.obj (.box [(.pv (.int .i64 (Prod.fst (Zc (-1000000:Int) 1000000 2 (Za (PV.sl 1 false (List.map enc x))) 0)))),(.pv (.sl 0 true []))]))]))else(At Vw 1 (ZC 1 XQ G) XV 0 102 [(0,(.ptr 0 0)),(2,(.ptr 1 0)),(3,(.ptr 2 0)),(4,(.ptr 3 0)),(5,(.pv (.int .i64 (Prod.fst (Zc (-9223372036854775808:Int) 9223372036854775807 2 (Za (PV.sl 1 false (List.map enc (Prod.fst (Prod.snd (Zc (-1000000:Int) 1000000 2 (Za (PV.sl 1 false (List.map enc x))) 0)))))) (Prod.snd (Prod.snd (Zc (-1000000:Int) 1000000 2 (Za (PV.sl 1 false (List.map enc x))) 0)))))))),(6,(.pv (.int .i64 0)))] [(.obj (.box [(.pv (.sl 1 false (List.map enc x))),(.pv (.int .i64 err))])),(.obj (.box [(.pv (.int .i64 0)),(.pv (.sl 0 true []))])),(.obj (.box [(.pv (.sl 1 false (List.map enc (Prod.fst (Prod.snd (Zc (-9223372036854775808:Int) 9223372036854775807 2 (Za (PV.sl 1 false (List.map enc (Prod.fst (Prod.snd (Zc (-1000000:Int) 1000000 2 (Za (PV.sl 1 false (List.map enc x))) 0)))))) (Prod.snd (Prod.snd (Zc (-1000000:Int) 1000000 2 (Za (PV.sl 1 false (List.map enc x))) 0))))))))),(.pv (.int .i64 (Prod.snd (Prod.snd (Zc (-9223372036854775808:Int) 9223372036854775807 2 (Za (PV.sl 1 false (List.map enc (Prod.fst (Prod.snd (Zc (-1000000:Int) 1000000 2 (Za (PV.sl 1 false (List.map enc x))) 0)))))) (Prod.snd (Prod.snd (Zc (-1000000:Int) 1000000 2 (Za (PV.sl 1 false (List.map enc x))) 0))))))))])),(.obj (.box [(.pv (.int .i64 (Prod.fst (Zc (-1000000:Int) 1000000 2 (Za (PV.sl 1 false (List.map enc x))) 0)))),(.pv (.sl 0 true []))]))]))))):Zf Vw 1 (ZC 1 XQ G) XV [] (ZN 102 [.ptr 0 0] [.box [.pv (.sl 1 false (x.map enc)),.pv (.int .i64 err)]]):=Zf.tf (.lit (.lit (.lit (.lit (.lit (.lit (.lit (.lit (.ask (.nil) (.req (.keep (.req (.keep (.lit (.ask (.lit (.lit (.lit (.ask (.lit (.lit (.lit (.lit (.lit (.nil)))))) (.lit (.lit (.lit (.lit (.lit (.ask (.nil) (.nil))))))))))) (.lit (.lit (.lit (.lit (.lit (.nil))))))))))))))))))))) h (by kernel_rfl)
theorem a1j{G:AV×List AObj×List AObj->Prop}(x:List UInt8)(err:Int)(z:List UInt8)(e k n i:Int)(h:if (decide (i<n))=true then if (e==0)=true then(YF [(.ptr 0 0),(.pv (.int .i64 30))] [(.box [(.pv (.sl 1 false (List.map enc z))),(.pv (.int .i64 e))])])=true∧((Z5 [(.ptr 0 0),(.pv (.int .i64 (-1000000))),(.pv (.int .i64 1000000))] [(.box [(.pv (.sl 1 false (List.map enc (Prod.fst (Prod.snd (Zh 30 (Za (PV.sl 1 false (List.map enc z))) e)))))),(.pv (.int .i64 (Prod.snd (Prod.snd (Zh 30 (Za (PV.sl 1 false (List.map enc z))) e)))))])])=true∧(At Vw 1 (ZC 1 XQ G) XV 0 102 [(0,(.ptr 0 0)),(2,(.ptr 1 0)),(3,(.ptr 2 0)),(4,(.ptr 3 0)),(5,(.pv (.int .i64 n))),(6,(.pv (.int .i64 (IntKind.wrap IntKind.i64 (i+1)))))] [(.obj (.box [(.pv (.sl 1 false (List.map enc x))),(.pv (.int .i64 err))])),(.obj (.box [(.pv (.int .i64 0)),(.pv (.sl 0 true []))])),(.obj (.box [(.pv (.sl 1 false (List.map enc (Prod.fst (Prod.snd (Zc (-1000000:Int) 1000000 2 (Za (PV.sl 1 false (List.map enc (Prod.fst (Prod.snd (Zh 30 (Za (PV.sl 1 false (List.map enc z))) e)))))) (Prod.snd (Prod.snd (Zh 30 (Za (PV.sl 1 false (List.map enc z))) e))))))))),(.pv (.int .i64 (Prod.snd (Prod.snd (Zc (-1000000:Int) 1000000 2 (Za (PV.sl 1 false (List.map enc (Prod.fst (Prod.snd (Zh 30 (Za (PV.sl 1 false (List.map enc z))) e)))))) (Prod.snd (Prod.snd (Zh 30 (Za (PV.sl 1 false (List.map enc z))) e))))))))])),(.obj (.box [(.pv (.int .i64 k)),(.row 4 1 0 1)])),(.obj (.row false 80 2 [(.agg [(.str (Prod.fst (Zh 30 (Za (PV.sl 1 false (List.map enc z))) e))),(.int .i64 (Prod.fst (Zc (-1000000:Int) 1000000 2 (Za (PV.sl 1 false (List.map enc (Prod.fst (Prod.snd (Zh 30 (Za (PV.sl 1 false (List.map enc z))) e)))))) (Prod.snd (Prod.snd (Zh 30 (Za (PV.sl 1 false (List.map enc z))) e))))))])]))]))else(if (e==0)=true then ∃ y0:Bool,AV.pv (Zk (fun(x:Lin×Unit)=>Zm x.1) [(.agg [(.int .i64 k),(.sl 0 true [])])])=AV.pv (enc y0)∧(if (!y0)=true then G (((.pv (.agg [(.int .i64 0),(.sl 0 true [])])),([(.box [(.pv (.sl 1 false (List.map enc x))),(.pv (.int .i64 4))])],[])))else(if (e != 0)=true then G (((.pv (.agg [(.int .i64 0),(.sl 0 true [])])),([(.box [(.pv (.sl 1 false (List.map enc x))),(.pv (.int .i64 e))])],[])))else(G (((.pv (.agg [(.int .i64 k),(.sl 0 true [])])),([(.box [(.pv (.sl 1 false (List.map enc z))),(.pv (.int .i64 e))])],[]))))))else(if (e != 0)=true then G (((.pv (.agg [(.int .i64 0),(.sl 0 true [])])),([(.box [(.pv (.sl 1 false (List.map enc x))),(.pv (.int .i64 e))])],[])))else(G (((.pv (.agg [(.int .i64 k),(.sl 0 true [])])),([(.box [(.pv (.sl 1 false (List.map enc z))),(.pv (.int .i64 e))])],[]))))))else(if (e==0)=true then ∃ y1:Bool,AV.pv (Zk (fun(x:Lin×Unit)=>Zm x.1) [(.agg [(.int .i64 k),(.sl 0 true [])])])=AV.pv (enc y1)∧(if (!y1)=true then G (((.pv (.agg [(.int .i64 0),(.sl 0 true [])])),([(.box [(.pv (.sl 1 false (List.map enc x))),(.pv (.int .i64 4))])],[])))else(if (e != 0)=true then G (((.pv (.agg [(.int .i64 0),(.sl 0 true [])])),([(.box [(.pv (.sl 1 false (List.map enc x))),(.pv (.int .i64 e))])],[])))else(G (((.pv (.agg [(.int .i64 k),(.sl 0 true [])])),([(.box [(.pv (.sl 1 false (List.map enc z))),(.pv (.int .i64 e))])],[]))))))else(if (e != 0)=true then G (((.pv (.agg [(.int .i64 0),(.sl 0 true [])])),([(.box [(.pv (.sl 1 false (List.map enc x))),(.pv (.int .i64 e))])],[])))else(G (((.pv (.agg [(.int .i64 k),(.sl 0 true [])])),([(.box [(.pv (.sl 1 false (List.map enc z))),(.pv (.int .i64 e))])],[]))))))):At Vw 1 (ZC 1 XQ G) XV 0 102 [(0,.ptr 0 0),(2,.ptr 1 0),(3,.ptr 2 0),(4,.ptr 3 0),(5,.pv (.int .i64 n)),(6,.pv (.int .i64 i))] [.obj (.box [.pv (.sl 1 false (x.map enc)),.pv (.int .i64 err)]),.obj (.box [.pv (.int .i64 0),.pv (.sl 0 true [])]),.obj (.box [.pv (.sl 1 false (z.map enc)),.pv (.int .i64 e)]),.obj (.box [.pv (.int .i64 k),.pv (.sl 0 true [])])]:=At.tf (.lit (.ask (.lit (.lit (.lit (.lit (.lit (.lit (.ask (.req (.keep (.req (.keep (.lit (.lit (.lit (.lit (.lit (.lit (.nil))))))))))) (.lit (.ask (.lit (.lit (.abs (Bool) (fun YY=>AV.pv (enc YY)) (.lit (.lit (.ask (.lit (.lit (.nil))) (.lit (.ask (.nil) (.nil))))))))) (.lit (.lit (.lit (.lit (.lit (.ask (.nil) (.nil)))))))))))))))) (.lit (.lit (.lit (.lit (.lit (.lit (.lit (.ask (.lit (.lit (.abs (Bool) (fun YY=>AV.pv (enc YY)) (.lit (.lit (.ask (.lit (.lit (.nil))) (.lit (.ask (.nil) (.nil))))))))) (.lit (.lit (.lit (.lit (.lit (.ask (.nil) (.nil))))))))))))))))) h (by kernel_rfl)
theorem a2l{G:AV×List AObj×List AObj->Prop}(x:List UInt8)(err:Int)(z:List UInt8)(e k n i:Int)(ts:List Coef)(m:Nat)(h:if (decide (i<n))=true then if (e==0)=true then(YF [(.ptr 0 0),(.pv (.int .i64 30))] [(.box [(.pv (.sl 1 false (List.map enc z))),(.pv (.int .i64 e))])])=true∧((Z5 [(.ptr 0 0),(.pv (.int .i64 (-1000000))),(.pv (.int .i64 1000000))] [(.box [(.pv (.sl 1 false (List.map enc (Prod.fst (Prod.snd (Zh 30 (Za (PV.sl 1 false (List.map enc z))) e)))))),(.pv (.int .i64 (Prod.snd (Prod.snd (Zh 30 (Za (PV.sl 1 false (List.map enc z))) e)))))])])=true∧((List.length (List.map enc ts)==m&&m==m&&decide ((m+List.length (List.drop 0 (List.take 1 [PV.agg [PV.str (Prod.fst (Zh 30 (Za (PV.sl 1 false (List.map enc z))) e)),PV.int .i64 (Prod.fst (Zc (-1000000:Int) 1000000 2 (Za (PV.sl 1 false (List.map enc (Prod.fst (Prod.snd (Zh 30 (Za (PV.sl 1 false (List.map enc z))) e)))))) (Prod.snd (Prod.snd (Zh 30 (Za (PV.sl 1 false (List.map enc z))) e)))))]])))*24<=1099511627776)&&decide (m+List.length (List.drop 0 (List.take 1 [PV.agg [PV.str (Prod.fst (Zh 30 (Za (PV.sl 1 false (List.map enc z))) e)),PV.int .i64 (Prod.fst (Zc (-1000000:Int) 1000000 2 (Za (PV.sl 1 false (List.map enc (Prod.fst (Prod.snd (Zh 30 (Za (PV.sl 1 false (List.map enc z))) e)))))) (Prod.snd (Prod.snd (Zh 30 (Za (PV.sl 1 false (List.map enc z))) e)))))]]))<=1099511627776))=true∧(At Vw 1 (ZC 1 XQ G) XV 0 102 [(0,(.ptr 0 0)),(2,(.ptr 1 0)),(3,(.ptr 2 0)),(4,(.ptr 3 0)),(5,(.pv (.int .i64 n))),(6,(.pv (.int .i64 (IntKind.wrap IntKind.i64 (i+1)))))] [(.obj (.box [(.pv (.sl 1 false (List.map enc x))),(.pv (.int .i64 err))])),(.obj (.box [(.pv (.int .i64 0)),(.pv (.sl 0 true []))])),(.obj (.box [(.pv (.sl 1 false (List.map enc (Prod.fst (Prod.snd (Zc (-1000000:Int) 1000000 2 (Za (PV.sl 1 false (List.map enc (Prod.fst (Prod.snd (Zh 30 (Za (PV.sl 1 false (List.map enc z))) e)))))) (Prod.snd (Prod.snd (Zh 30 (Za (PV.sl 1 false (List.map enc z))) e))))))))),(.pv (.int .i64 (Prod.snd (Prod.snd (Zc (-1000000:Int) 1000000 2 (Za (PV.sl 1 false (List.map enc (Prod.fst (Prod.snd (Zh 30 (Za (PV.sl 1 false (List.map enc z))) e)))))) (Prod.snd (Prod.snd (Zh 30 (Za (PV.sl 1 false (List.map enc z))) e))))))))])),(.obj (.box [(.pv (.int .i64 k)),(.row 4 (m+List.length (List.drop 0 (List.take 1 [PV.agg [PV.str (Prod.fst (Zh 30 (Za (PV.sl 1 false (List.map enc z))) e)),PV.int .i64 (Prod.fst (Zc (-1000000:Int) 1000000 2 (Za (PV.sl 1 false (List.map enc (Prod.fst (Prod.snd (Zh 30 (Za (PV.sl 1 false (List.map enc z))) e)))))) (Prod.snd (Prod.snd (Zh 30 (Za (PV.sl 1 false (List.map enc z))) e)))))]]))) 0 (m+List.length (List.drop 0 (List.take 1 [PV.agg [PV.str (Prod.fst (Zh 30 (Za (PV.sl 1 false (List.map enc z))) e)),PV.int .i64 (Prod.fst (Zc (-1000000:Int) 1000000 2 (Za (PV.sl 1 false (List.map enc (Prod.fst (Prod.snd (Zh 30 (Za (PV.sl 1 false (List.map enc z))) e)))))) (Prod.snd (Prod.snd (Zh 30 (Za (PV.sl 1 false (List.map enc z))) e)))))]]))))])),(.obj (.row false 80 2 (List.map enc ts++List.drop 0 (List.take 1 [PV.agg [PV.str (Prod.fst (Zh 30 (Za (PV.sl 1 false (List.map enc z))) e)),PV.int .i64 (Prod.fst (Zc (-1000000:Int) 1000000 2 (Za (PV.sl 1 false (List.map enc (Prod.fst (Prod.snd (Zh 30 (Za (PV.sl 1 false (List.map enc z))) e)))))) (Prod.snd (Prod.snd (Zh 30 (Za (PV.sl 1 false (List.map enc z))) e)))))]]))))])))else(if (e==0)=true then(List.length (List.map enc ts)==m)=true∧((Go.Pl.preT (fun(x:Lin×Unit)=>ZG x.1) [(.agg [(.int .i64 k),(.sl 2 false (List.drop 0 (List.take m (List.map enc ts))))])])=true∧(∃ y0:Bool,AV.pv (Zk (fun(x:Lin×Unit)=>Zm x.1) [(.agg [(.int .i64 k),(.sl 2 false (List.drop 0 (List.take m (List.map enc ts))))])])=AV.pv (enc y0)∧(if (!y0)=true then G (((.pv (.agg [(.int .i64 0),(.sl 0 true [])])),([(.box [(.pv (.sl 1 false (List.map enc x))),(.pv (.int .i64 4))])],[])))else(if (e != 0)=true then G (((.pv (.agg [(.int .i64 0),(.sl 0 true [])])),([(.box [(.pv (.sl 1 false (List.map enc x))),(.pv (.int .i64 e))])],[])))else((List.length (List.map enc ts)==m)=true∧(G (((.pv (.agg [(.int .i64 k),(.sl 2 false (List.drop 0 (List.take m (List.map enc ts))))])),([(.box [(.pv (.sl 1 false (List.map enc z))),(.pv (.int .i64 e))])],[])))))))))else(if (e != 0)=true then G (((.pv (.agg [(.int .i64 0),(.sl 0 true [])])),([(.box [(.pv (.sl 1 false (List.map enc x))),(.pv (.int .i64 e))])],[])))else((List.length (List.map enc ts)==m)=true∧(G (((.pv (.agg [(.int .i64 k),(.sl 2 false (List.drop 0 (List.take m (List.map enc ts))))])),([(.box [(.pv (.sl 1 false (List.map enc z))),(.pv (.int .i64 e))])],[])))))))else(if (e==0)=true then(List.length (List.map enc ts)==m)=true∧((Go.Pl.preT (fun(x:Lin×Unit)=>ZG x.1) [(.agg [(.int .i64 k),(.sl 2 false (List.drop 0 (List.take m (List.map enc ts))))])])=true∧(∃ y1:Bool,AV.pv (Zk (fun(x:Lin×Unit)=>Zm x.1) [(.agg [(.int .i64 k),(.sl 2 false (List.drop 0 (List.take m (List.map enc ts))))])])=AV.pv (enc y1)∧(if (!y1)=true then G (((.pv (.agg [(.int .i64 0),(.sl 0 true [])])),([(.box [(.pv (.sl 1 false (List.map enc x))),(.pv (.int .i64 4))])],[])))else(if (e != 0)=true then G (((.pv (.agg [(.int .i64 0),(.sl 0 true [])])),([(.box [(.pv (.sl 1 false (List.map enc x))),(.pv (.int .i64 e))])],[])))else((List.length (List.map enc ts)==m)=true∧(G (((.pv (.agg [(.int .i64 k),(.sl 2 false (List.drop 0 (List.take m (List.map enc ts))))])),([(.box [(.pv (.sl 1 false (List.map enc z))),(.pv (.int .i64 e))])],[])))))))))else(if (e != 0)=true then G (((.pv (.agg [(.int .i64 0),(.sl 0 true [])])),([(.box [(.pv (.sl 1 false (List.map enc x))),(.pv (.int .i64 e))])],[])))else((List.length (List.map enc ts)==m)=true∧(G (((.pv (.agg [(.int .i64 k),(.sl 2 false (List.drop 0 (List.take m (List.map enc ts))))])),([(.box [(.pv (.sl 1 false (List.map enc z))),(.pv (.int .i64 e))])],[])))))))):At Vw 1 (ZC 1 XQ G) XV 0 102 [(0,.ptr 0 0),(2,.ptr 1 0),(3,.ptr 2 0),(4,.ptr 3 0),(5,.pv (.int .i64 n)),(6,.pv (.int .i64 i))] [.obj (.box [.pv (.sl 1 false (x.map enc)),.pv (.int .i64 err)]),.obj (.box [.pv (.int .i64 0),.pv (.sl 0 true [])]),.obj (.box [.pv (.sl 1 false (z.map enc)),.pv (.int .i64 e)]),.obj (.box [.pv (.int .i64 k),.row 4 m 0 m]),.obj (.row false 80 2 (ts.map enc))]:=At.tf (.lit (.ask (.lit (.lit (.lit (.lit (.lit (.lit (.ask (.req (.keep (.req (.keep (.lit (.lit (.req (.lit (.nil))))))))) (.lit (.ask (.lit (.req (.req (.abs (Bool) (fun YY=>AV.pv (enc YY)) (.lit (.lit (.ask (.lit (.lit (.nil))) (.lit (.ask (.nil) (.req (.nil))))))))))) (.lit (.lit (.lit (.lit (.lit (.ask (.nil) (.req (.nil))))))))))))))))) (.lit (.lit (.lit (.lit (.lit (.lit (.lit (.ask (.lit (.req (.req (.abs (Bool) (fun YY=>AV.pv (enc YY)) (.lit (.lit (.ask (.lit (.lit (.nil))) (.lit (.ask (.nil) (.req (.nil))))))))))) (.lit (.lit (.lit (.lit (.lit (.ask (.nil) (.req (.nil)))))))))))))))))) h (by kernel_rfl)
theorem d3k{G:AV×List AObj×List AObj->Prop}(h:G (((.pv (.agg [(.int .i64 0),(.sl 0 true [])])),([],[])))):Zf Vw 0 (ZC 0 XQ G) XV [] (ZN 102 [.pv .nilp] []):=Zf.tf (.lit (.lit (.lit (.lit (.lit (.lit (.lit (.lit (.nil))))))))) h (by kernel_rfl)
noncomputable def X4:IC:=Xp Proofs.Tryz.f20
def X0:List IRes:=[(.cell true 2 2)]
abbrev c1g:Nat:=74
def Vf:ZI:=YN [(50,.own Z5 VL),(52,.own YF Ud),(51,.own Ql Hq),(18,.pure (preT (fun x:Lin×Unit=>Yb x.1)) (Zk (fun x:Lin×Unit=>Zm x.1)))]
theorem d3f{G:AV×List AObj×List AObj->Prop}(x:List UInt8)(err:Int)(h:if (err != 0)=true then G (((.pv (.agg [(.int .i64 0),(.sl 0 true [])])),([(.box [(.pv (.sl 1 false (List.map enc x))),(.pv (.int .i64 err))])],[])))else((Z5 [(.ptr 0 0),(.pv (.int .i64 (-1000000))),(.pv (.int .i64 1000000))] [(.box [(.pv (.sl 1 false (List.map enc x))),(.pv (.int .i64 err))])])=true∧((Ql [(.ptr 0 0),(.pv (.int .i64 12))] [(.box [(.pv (.sl 1 false (List.map enc (Prod.fst (Prod.snd (Zc (-1000000:Int) 1000000 2 (Za (PV.sl 1 false (List.map enc x))) err)))))),(.pv (.int .i64 (Prod.snd (Prod.snd (Zc (-1000000:Int) 1000000 2 (Za (PV.sl 1 false (List.map enc x))) err)))))])])=true∧(At Vf 1 (ZC 1 X0 G) X4 0 74 [(0,(.ptr 0 0)),(2,(.ptr 1 0)),(3,(.pv (.sl 1 false (List.map enc x)))),(4,(.ptr 2 0)),(5,(.pv (.int .i64 (Prod.fst (Zc 0 12 3 (Za (PV.sl 1 false (List.map enc (Prod.fst (Prod.snd (Zc (-1000000:Int) 1000000 2 (Za (PV.sl 1 false (List.map enc x))) err)))))) (Prod.snd (Prod.snd (Zc (-1000000:Int) 1000000 2 (Za (PV.sl 1 false (List.map enc x))) err)))))))),(6,(.pv (.int .i64 0)))] [(.obj (.box [(.pv (.sl 1 false (List.map enc (Prod.fst (Prod.snd (Zc 0 12 3 (Za (PV.sl 1 false (List.map enc (Prod.fst (Prod.snd (Zc (-1000000:Int) 1000000 2 (Za (PV.sl 1 false (List.map enc x))) err)))))) (Prod.snd (Prod.snd (Zc (-1000000:Int) 1000000 2 (Za (PV.sl 1 false (List.map enc x))) err))))))))),(.pv (.int .i64 (Prod.snd (Prod.snd (Zc 0 12 3 (Za (PV.sl 1 false (List.map enc (Prod.fst (Prod.snd (Zc (-1000000:Int) 1000000 2 (Za (PV.sl 1 false (List.map enc x))) err)))))) (Prod.snd (Prod.snd (Zc (-1000000:Int) 1000000 2 (Za (PV.sl 1 false (List.map enc x))) err))))))))])),(.obj (.box [(.pv (.int .i64 0)),(.pv (.sl 0 true []))])),(.obj (.box [(.pv (.int .i64 (Prod.fst (Zc (-1000000:Int) 1000000 2 (Za (PV.sl 1 false (List.map enc x))) err)))),(.pv (.sl 0 true []))]))])))):Zf Vf 1 (ZC 1 X0 G) X4 [] (ZN 74 [.ptr 0 0] [.box [.pv (.sl 1 false (x.map enc)),.pv (.int .i64 err)]]):=Zf.tf (.lit (.lit (.lit (.lit (.lit (.lit (.lit (.lit (.ask (.nil) (.req (.keep (.req (.keep (.nil)))))))))))))) h (by kernel_rfl)
theorem N8{G:AV×List AObj×List AObj->Prop}(x:List UInt8)(err:Int)(z:List UInt8)(e k n i:Int)(h:if (decide (i<n))=true then if (e==0)=true then(YF [(.ptr 0 0),(.pv (.int .i64 30))] [(.box [(.pv (.sl 1 false (List.map enc z))),(.pv (.int .i64 e))])])=true∧((Z5 [(.ptr 0 0),(.pv (.int .i64 (-1000000))),(.pv (.int .i64 1000000))] [(.box [(.pv (.sl 1 false (List.map enc (Prod.fst (Prod.snd (Zh 30 (Za (PV.sl 1 false (List.map enc z))) e)))))),(.pv (.int .i64 (Prod.snd (Prod.snd (Zh 30 (Za (PV.sl 1 false (List.map enc z))) e)))))])])=true∧(At Vf 1 (ZC 1 X0 G) X4 0 74 [(0,(.ptr 0 0)),(2,(.ptr 1 0)),(3,(.pv (.sl 1 false (List.map enc x)))),(4,(.ptr 2 0)),(5,(.pv (.int .i64 n))),(6,(.pv (.int .i64 (IntKind.wrap IntKind.i64 (i+1)))))] [(.obj (.box [(.pv (.sl 1 false (List.map enc (Prod.fst (Prod.snd (Zc (-1000000:Int) 1000000 2 (Za (PV.sl 1 false (List.map enc (Prod.fst (Prod.snd (Zh 30 (Za (PV.sl 1 false (List.map enc z))) e)))))) (Prod.snd (Prod.snd (Zh 30 (Za (PV.sl 1 false (List.map enc z))) e))))))))),(.pv (.int .i64 (Prod.snd (Prod.snd (Zc (-1000000:Int) 1000000 2 (Za (PV.sl 1 false (List.map enc (Prod.fst (Prod.snd (Zh 30 (Za (PV.sl 1 false (List.map enc z))) e)))))) (Prod.snd (Prod.snd (Zh 30 (Za (PV.sl 1 false (List.map enc z))) e))))))))])),(.obj (.box [(.pv (.int .i64 0)),(.pv (.sl 0 true []))])),(.obj (.box [(.pv (.int .i64 k)),(.row 3 1 0 1)])),(.obj (.row false 80 2 [(.agg [(.str (Prod.fst (Zh 30 (Za (PV.sl 1 false (List.map enc z))) e))),(.int .i64 (Prod.fst (Zc (-1000000:Int) 1000000 2 (Za (PV.sl 1 false (List.map enc (Prod.fst (Prod.snd (Zh 30 (Za (PV.sl 1 false (List.map enc z))) e)))))) (Prod.snd (Prod.snd (Zh 30 (Za (PV.sl 1 false (List.map enc z))) e))))))])]))]))else(if (e==0)=true then ∃ y0:Bool,AV.pv (Zk (fun(x:Lin×Unit)=>Zm x.1) [(.agg [(.int .i64 k),(.sl 0 true [])])])=AV.pv (enc y0)∧(if (!y0)=true then G (((.pv (.agg [(.int .i64 0),(.sl 0 true [])])),([(.box [(.pv (.sl 1 false (List.map enc x))),(.pv (.int .i64 4))])],[])))else(if (e != 0)=true then G (((.pv (.agg [(.int .i64 0),(.sl 0 true [])])),([(.box [(.pv (.sl 1 false (List.map enc x))),(.pv (.int .i64 e))])],[])))else(G (((.pv (.agg [(.int .i64 k),(.sl 0 true [])])),([(.box [(.pv (.sl 1 false (List.map enc z))),(.pv (.int .i64 e))])],[]))))))else(if (e != 0)=true then G (((.pv (.agg [(.int .i64 0),(.sl 0 true [])])),([(.box [(.pv (.sl 1 false (List.map enc x))),(.pv (.int .i64 e))])],[])))else(G (((.pv (.agg [(.int .i64 k),(.sl 0 true [])])),([(.box [(.pv (.sl 1 false (List.map enc z))),(.pv (.int .i64 e))])],[]))))))else(if (e==0)=true then ∃ y1:Bool,AV.pv (Zk (fun(x:Lin×Unit)=>Zm x.1) [(.agg [(.int .i64 k),(.sl 0 true [])])])=AV.pv (enc y1)∧(if (!y1)=true then G (((.pv (.agg [(.int .i64 0),(.sl 0 true [])])),([(.box [(.pv (.sl 1 false (List.map enc x))),(.pv (.int .i64 4))])],[])))else(if (e != 0)=true then G (((.pv (.agg [(.int .i64 0),(.sl 0 true [])])),([(.box [(.pv (.sl 1 false (List.map enc x))),(.pv (.int .i64 e))])],[])))else(G (((.pv (.agg [(.int .i64 k),(.sl 0 true [])])),([(.box [(.pv (.sl 1 false (List.map enc z))),(.pv (.int .i64 e))])],[]))))))else(if (e != 0)=true then G (((.pv (.agg [(.int .i64 0),(.sl 0 true [])])),([(.box [(.pv (.sl 1 false (List.map enc x))),(.pv (.int .i64 e))])],[])))else(G (((.pv (.agg [(.int .i64 k),(.sl 0 true [])])),([(.box [(.pv (.sl 1 false (List.map enc z))),(.pv (.int .i64 e))])],[]))))))):At Vf 1 (ZC 1 X0 G) X4 0 74 [(0,.ptr 0 0),(2,.ptr 1 0),(3,.pv (.sl 1 false (x.map enc))),(4,.ptr 2 0),(5,.pv (.int .i64 n)),(6,.pv (.int .i64 i))] [.obj (.box [.pv (.sl 1 false (z.map enc)),.pv (.int .i64 e)]),.obj (.box [.pv (.int .i64 0),.pv (.sl 0 true [])]),.obj (.box [.pv (.int .i64 k),.pv (.sl 0 true [])])]:=At.tf (.lit (.ask (.lit (.lit (.lit (.lit (.lit (.lit (.ask (.req (.keep (.req (.keep (.lit (.lit (.lit (.lit (.lit (.lit (.nil))))))))))) (.lit (.ask (.lit (.lit (.abs (Bool) (fun YY=>AV.pv (enc YY)) (.lit (.lit (.ask (.lit (.lit (.nil))) (.lit (.ask (.nil) (.nil))))))))) (.lit (.lit (.lit (.lit (.lit (.ask (.nil) (.nil)))))))))))))))) (.lit (.lit (.lit (.lit (.lit (.lit (.lit (.ask (.lit (.lit (.abs (Bool) (fun YY=>AV.pv (enc YY)) (.lit (.lit (.ask (.lit (.lit (.nil))) (.lit (.ask (.nil) (.nil))))))))) (.lit (.lit (.lit (.lit (.lit (.ask (.nil) (.nil))))))))))))))))) h (by kernel_rfl)
theorem MG{G:AV×List AObj×List AObj->Prop}(x:List UInt8)(err:Int)(z:List UInt8)(e k n i:Int)(ts:List Coef)(m:Nat)(h:if (decide (i<n))=true then if (e==0)=true then(YF [(.ptr 0 0),(.pv (.int .i64 30))] [(.box [(.pv (.sl 1 false (List.map enc z))),(.pv (.int .i64 e))])])=true∧((Z5 [(.ptr 0 0),(.pv (.int .i64 (-1000000))),(.pv (.int .i64 1000000))] [(.box [(.pv (.sl 1 false (List.map enc (Prod.fst (Prod.snd (Zh 30 (Za (PV.sl 1 false (List.map enc z))) e)))))),(.pv (.int .i64 (Prod.snd (Prod.snd (Zh 30 (Za (PV.sl 1 false (List.map enc z))) e)))))])])=true∧((List.length (List.map enc ts)==m&&m==m&&decide ((m+List.length (List.drop 0 (List.take 1 [PV.agg [PV.str (Prod.fst (Zh 30 (Za (PV.sl 1 false (List.map enc z))) e)),PV.int .i64 (Prod.fst (Zc (-1000000:Int) 1000000 2 (Za (PV.sl 1 false (List.map enc (Prod.fst (Prod.snd (Zh 30 (Za (PV.sl 1 false (List.map enc z))) e)))))) (Prod.snd (Prod.snd (Zh 30 (Za (PV.sl 1 false (List.map enc z))) e)))))]])))*24<=1099511627776)&&decide (m+List.length (List.drop 0 (List.take 1 [PV.agg [PV.str (Prod.fst (Zh 30 (Za (PV.sl 1 false (List.map enc z))) e)),PV.int .i64 (Prod.fst (Zc (-1000000:Int) 1000000 2 (Za (PV.sl 1 false (List.map enc (Prod.fst (Prod.snd (Zh 30 (Za (PV.sl 1 false (List.map enc z))) e)))))) (Prod.snd (Prod.snd (Zh 30 (Za (PV.sl 1 false (List.map enc z))) e)))))]]))<=1099511627776))=true∧(At Vf 1 (ZC 1 X0 G) X4 0 74 [(0,(.ptr 0 0)),(2,(.ptr 1 0)),(3,(.pv (.sl 1 false (List.map enc x)))),(4,(.ptr 2 0)),(5,(.pv (.int .i64 n))),(6,(.pv (.int .i64 (IntKind.wrap IntKind.i64 (i+1)))))] [(.obj (.box [(.pv (.sl 1 false (List.map enc (Prod.fst (Prod.snd (Zc (-1000000:Int) 1000000 2 (Za (PV.sl 1 false (List.map enc (Prod.fst (Prod.snd (Zh 30 (Za (PV.sl 1 false (List.map enc z))) e)))))) (Prod.snd (Prod.snd (Zh 30 (Za (PV.sl 1 false (List.map enc z))) e))))))))),(.pv (.int .i64 (Prod.snd (Prod.snd (Zc (-1000000:Int) 1000000 2 (Za (PV.sl 1 false (List.map enc (Prod.fst (Prod.snd (Zh 30 (Za (PV.sl 1 false (List.map enc z))) e)))))) (Prod.snd (Prod.snd (Zh 30 (Za (PV.sl 1 false (List.map enc z))) e))))))))])),(.obj (.box [(.pv (.int .i64 0)),(.pv (.sl 0 true []))])),(.obj (.box [(.pv (.int .i64 k)),(.row 3 (m+List.length (List.drop 0 (List.take 1 [PV.agg [PV.str (Prod.fst (Zh 30 (Za (PV.sl 1 false (List.map enc z))) e)),PV.int .i64 (Prod.fst (Zc (-1000000:Int) 1000000 2 (Za (PV.sl 1 false (List.map enc (Prod.fst (Prod.snd (Zh 30 (Za (PV.sl 1 false (List.map enc z))) e)))))) (Prod.snd (Prod.snd (Zh 30 (Za (PV.sl 1 false (List.map enc z))) e)))))]]))) 0 (m+List.length (List.drop 0 (List.take 1 [PV.agg [PV.str (Prod.fst (Zh 30 (Za (PV.sl 1 false (List.map enc z))) e)),PV.int .i64 (Prod.fst (Zc (-1000000:Int) 1000000 2 (Za (PV.sl 1 false (List.map enc (Prod.fst (Prod.snd (Zh 30 (Za (PV.sl 1 false (List.map enc z))) e)))))) (Prod.snd (Prod.snd (Zh 30 (Za (PV.sl 1 false (List.map enc z))) e)))))]]))))])),(.obj (.row false 80 2 (List.map enc ts++List.drop 0 (List.take 1 [PV.agg [PV.str (Prod.fst (Zh 30 (Za (PV.sl 1 false (List.map enc z))) e)),PV.int .i64 (Prod.fst (Zc (-1000000:Int) 1000000 2 (Za (PV.sl 1 false (List.map enc (Prod.fst (Prod.snd (Zh 30 (Za (PV.sl 1 false (List.map enc z))) e)))))) (Prod.snd (Prod.snd (Zh 30 (Za (PV.sl 1 false (List.map enc z))) e)))))]]))))])))else(if (e==0)=true then(List.length (List.map enc ts)==m)=true∧((Go.Pl.preT (fun(x:Lin×Unit)=>Yb x.1) [(.agg [(.int .i64 k),(.sl 2 false (List.drop 0 (List.take m (List.map enc ts))))])])=true∧(∃ y0:Bool,AV.pv (Zk (fun(x:Lin×Unit)=>Zm x.1) [(.agg [(.int .i64 k),(.sl 2 false (List.drop 0 (List.take m (List.map enc ts))))])])=AV.pv (enc y0)∧(if (!y0)=true then G (((.pv (.agg [(.int .i64 0),(.sl 0 true [])])),([(.box [(.pv (.sl 1 false (List.map enc x))),(.pv (.int .i64 4))])],[])))else(if (e != 0)=true then G (((.pv (.agg [(.int .i64 0),(.sl 0 true [])])),([(.box [(.pv (.sl 1 false (List.map enc x))),(.pv (.int .i64 e))])],[])))else((List.length (List.map enc ts)==m)=true∧(G (((.pv (.agg [(.int .i64 k),(.sl 2 false (List.drop 0 (List.take m (List.map enc ts))))])),([(.box [(.pv (.sl 1 false (List.map enc z))),(.pv (.int .i64 e))])],[])))))))))else(if (e != 0)=true then G (((.pv (.agg [(.int .i64 0),(.sl 0 true [])])),([(.box [(.pv (.sl 1 false (List.map enc x))),(.pv (.int .i64 e))])],[])))else((List.length (List.map enc ts)==m)=true∧(G (((.pv (.agg [(.int .i64 k),(.sl 2 false (List.drop 0 (List.take m (List.map enc ts))))])),([(.box [(.pv (.sl 1 false (List.map enc z))),(.pv (.int .i64 e))])],[])))))))else(if (e==0)=true then(List.length (List.map enc ts)==m)=true∧((Go.Pl.preT (fun(x:Lin×Unit)=>Yb x.1) [(.agg [(.int .i64 k),(.sl 2 false (List.drop 0 (List.take m (List.map enc ts))))])])=true∧(∃ y1:Bool,AV.pv (Zk (fun(x:Lin×Unit)=>Zm x.1) [(.agg [(.int .i64 k),(.sl 2 false (List.drop 0 (List.take m (List.map enc ts))))])])=AV.pv (enc y1)∧(if (!y1)=true then G (((.pv (.agg [(.int .i64 0),(.sl 0 true [])])),([(.box [(.pv (.sl 1 false (List.map enc x))),(.pv (.int .i64 4))])],[])))else(if (e != 0)=true then G (((.pv (.agg [(.int .i64 0),(.sl 0 true [])])),([(.box [(.pv (.sl 1 false (List.map enc x))),(.pv (.int .i64 e))])],[])))else((List.length (List.map enc ts)==m)=true∧(G (((.pv (.agg [(.int .i64 k),(.sl 2 false (List.drop 0 (List.take m (List.map enc ts))))])),([(.box [(.pv (.sl 1 false (List.map enc z))),(.pv (.int .i64 e))])],[])))))))))else(if (e != 0)=true then G (((.pv (.agg [(.int .i64 0),(.sl 0 true [])])),([(.box [(.pv (.sl 1 false (List.map enc x))),(.pv (.int .i64 e))])],[])))else((List.length (List.map enc ts)==m)=true∧(G (((.pv (.agg [(.int .i64 k),(.sl 2 false (List.drop 0 (List.take m (List.map enc ts))))])),([(.box [(.pv (.sl 1 false (List.map enc z))),(.pv (.int .i64 e))])],[])))))))):At Vf 1 (ZC 1 X0 G) X4 0 74 [(0,.ptr 0 0),(2,.ptr 1 0),(3,.pv (.sl 1 false (x.map enc))),(4,.ptr 2 0),(5,.pv (.int .i64 n)),(6,.pv (.int .i64 i))] [.obj (.box [.pv (.sl 1 false (z.map enc)),.pv (.int .i64 e)]),.obj (.box [.pv (.int .i64 0),.pv (.sl 0 true [])]),.obj (.box [.pv (.int .i64 k),.row 3 m 0 m]),.obj (.row false 80 2 (ts.map enc))]:=At.tf (.lit (.ask (.lit (.lit (.lit (.lit (.lit (.lit (.ask (.req (.keep (.req (.keep (.lit (.lit (.req (.lit (.nil))))))))) (.lit (.ask (.lit (.req (.req (.abs (Bool) (fun YY=>AV.pv (enc YY)) (.lit (.lit (.ask (.lit (.lit (.nil))) (.lit (.ask (.nil) (.req (.nil))))))))))) (.lit (.lit (.lit (.lit (.lit (.ask (.nil) (.req (.nil))))))))))))))))) (.lit (.lit (.lit (.lit (.lit (.lit (.lit (.ask (.lit (.req (.req (.abs (Bool) (fun YY=>AV.pv (enc YY)) (.lit (.lit (.ask (.lit (.lit (.nil))) (.lit (.ask (.nil) (.req (.nil))))))))))) (.lit (.lit (.lit (.lit (.lit (.ask (.nil) (.req (.nil)))))))))))))))))) h (by kernel_rfl)
theorem c0q{G:AV×List AObj×List AObj->Prop}(h:G (((.pv (.agg [(.int .i64 0),(.sl 0 true [])])),([],[])))):Zf Vf 0 (ZC 0 X0 G) X4 [] (ZN 74 [.pv .nilp] []):=Zf.tf (.lit (.lit (.lit (.lit (.lit (.lit (.lit (.lit (.nil))))))))) h (by kernel_rfl)
end Go.Pl
namespace Go.Pl
open Go.RowKit
open Enc (enc dec is)
open EncL (encL decL isL)
theorem ZM(x:List UInt8):Za (PV.sl 1 false (List.map enc x))=x:=Zz x
theorem a8b{α β:Type}{r:α×β×Int}(h:r.2.2=0):r=(r.1,r.2.1,0):=by obtain⟨a,b,c⟩:=r;simp only at h;rw[h]
theorem e0c{β:Type}{r:Int×β×Int}{x:β}(h:r.1=0∧r.2.1=x):r=(0,x,r.2.2):=by obtain⟨a,b,c⟩:=r;simp only at h;rw[h.1,h.2]
theorem Yg{p:PV}(h:XL p=true): ∃ x:List UInt8,p=enc x∧x.length<=9000000:=by
 unfold XL at h
 simp only[Bool.and_eq_true,decide_eq_true_eq]at h
 obtain⟨hc,hl⟩:=h
 obtain⟨x,rfl⟩:=XX hc
 rw[Zz]at hl
 exact⟨x,rfl,hl⟩
theorem ZW{x:List UInt8}(h:x.length<=9000000):XL (PV.sl 1 false (List.map enc x))=true:=by
 show(QV (List UInt8) (enc x)&&decide ((Za (enc x)).length<=9000000))=true
 rw[YD,Zz,decide_eq_true h];rfl
theorem PX(x:List UInt8):QV (List UInt8) (PV.sl 1 false (List.map enc x))=true:=YD x
theorem b3v{x:List UInt8}{n:Int}{r:List UInt8}(h:Yh x=some (n,r)):r.length<=x.length:=by
 rw[(Gm h).1,List.length_append];omega
theorem ZX(lo hi e:Int)(x:List UInt8)(err:Int):(Zc lo hi e x err).2.1.length<=x.length:=by
 unfold Zc
 split
 ·exact Nat.le_refl _
 ·split
  ·exact Nat.le_refl _
  ·rename_i n r h
   split
   ·exact Nat.le_refl _
   ·exact b3v h
theorem KL(lo hi e:Int)(x:List UInt8){err:Int}(h:err≠0):Zc lo hi e x err=(0,x,err):=by unfold Zc;rw[if_pos h]
theorem Ch{lo hi e:Int}{x:List UInt8}{err:Int}(he:e≠0)(h:(Zc lo hi e x err).2.2≠0):(Zc lo hi e x err).1=0∧(Zc lo hi e x err).2.1=x:=by
 unfold Zc at h ⊢
 split
 ·exact⟨rfl,rfl⟩
 ·rename_i h0
  rw[if_neg h0]at h
  split
  ·exact⟨rfl,rfl⟩
  ·rename_i n r hw
   rw[hw]at h
   by_cases hc:n<lo∨n>hi
   ·rw[if_pos hc];exact⟨rfl,rfl⟩
   ·simp only[if_neg hc]at h;exact absurd rfl h
theorem KZ{lo hi e:Int}{x:List UInt8}(he:e≠0){err:Int}(h:(Zc lo hi e x err).2.2=0):err=0∧lo<=(Zc lo hi e x err).1∧(Zc lo hi e x err).1<=hi∧Yh x=some ((Zc lo hi e x err).1,(Zc lo hi e x err).2.1):=by
 unfold Zc at h ⊢
 by_cases h0:err≠0
 ·rw[if_pos h0]at h;exact absurd h h0
 ·rw[if_neg h0]at h
  simp only[if_neg h0]
  cases hw:Yh x with
  | none=>rw[hw]at h;exact absurd h (show(4:Int)≠0 by decide)
  | some p=>
   obtain⟨n,r⟩:=p
   rw[hw]at h
   by_cases hc:n<lo∨n>hi
   ·simp only[if_pos hc]at h;exact absurd h he
   ·simp only[if_neg hc]
    exact⟨by omega,by omega,by omega,trivial⟩
theorem b4a(most:Int)(x:List UInt8)(err:Int):(VJ most x err).2.1.length<=x.length:=by
 have h:=ZX 0 most 3 x err
 unfold VJ
 simp only
 split
 ·exact h
 ·split
  ·exact h
  ·rw[List.length_drop];omega
theorem Kw(most:Int)(x:List UInt8)(err:Int):(Zh most x err).2.1.length<=x.length:=by
 unfold Zh
 simp only
 split
 ·exact Nat.le_refl _
 ·split
  ·exact Nat.le_refl _
  ·exact b4a most x 0
theorem Wu{a:Int}{x:List UInt8}{e:Int}{r:Int×List UInt8×Int}{os:List AObj}(h:r=(a,x,e)):((.pv (.int .i64 a),sB x e::os,[]):AV×List AObj×List AObj)=Ap r os:=by rw[h];rfl
theorem b2g: ∀ args os,Ve args os=true->Zf LZ os.length (Zj os.length TW fun r=>r=J4 args os) Rm [] (ZN c0o args os):=by
 intro args os h
 unfold Ve at h
 split at h
 ·rename_i e p err
  obtain⟨x,rfl⟩:=XX h
  have hv:J4 [.ptr 0 0,.pv (.int .i64 e)] [.box [.pv (enc x),.pv (.int .i64 err)]]=(.tup [],[sB x (if err=0 then e else err)],[]):=by
   show(AV.tup [],[sB (Za (enc x)) _],[])=_
   rw[Zz]
  rw[hv]
  refine d3m x err e ?_
  by_cases he:err=0
  ·rw[if_pos he];exact Zu (by simpa using he) rfl
  ·rw[if_neg he];exact Zv (by simpa using he) rfl
 ·cases h
theorem SL(x:List UInt8)(e err:Int):Ve [.ptr 0 0,.pv (.int .i64 e)] [.box [.pv (.sl 1 false (List.map enc x)),.pv (.int .i64 err)]]=true:=PX x
theorem c5e: ∀ args os,YA args os=true->Zf a5w os.length (Zj os.length FR fun r=>r=WN args os) LM [] (ZN c7x args os):=by
 intro args os h
 unfold YA at h
 split at h
 ·rename_i lo hi e p err
  obtain⟨x,rfl,hl⟩:=Yg h
  have hv:WN [.ptr 0 0,.pv (.int .i64 lo),.pv (.int .i64 hi),.pv (.int .i64 e)] [.box [.pv (enc x),.pv (.int .i64 err)]]=Ap (Zc lo hi e x err) []:=by
   show Ap (Zc lo hi e (Za (enc x)) err) []=_
   rw[Zz]
  rw[hv]
  refine d8q x err lo hi e ?_
  by_cases he:err=0
  ·subst he
   refine Zv (by simp) ⟨Zo (x,()) rfl (decide_eq_true hl),Yi (v:=w3 (Yh x)) (x,()) rfl rfl ?_⟩
   rw[ZM]
   cases hw:Yh x with
   | none=>exact Zu rfl ⟨SL x 4 0,Wu (by unfold Zc;rw[if_neg (by simp),hw];rfl)⟩
   | some p=>
    obtain⟨n,r⟩:=p
    refine Zv (by simp[w3]) ?_
    by_cases h1:n<lo
    ·exact Zu (decide_eq_true h1) ⟨SL x e 0,Wu (by unfold Zc;rw[if_neg (by simp),hw];simp only[if_pos (show n<lo∨n>hi from .inl h1)];rfl)⟩
    ·refine Zv (fun e=>h1 (of_decide_eq_true e)) ?_
     by_cases h2:n>hi
     ·exact Zu (decide_eq_true h2) ⟨SL x e 0,Wu (by unfold Zc;rw[if_neg (by simp),hw];simp only[if_pos (show n<lo∨n>hi from .inr h2)];rfl)⟩
     ·exact Zv (fun e=>h2 (of_decide_eq_true e)) (Wu (by unfold Zc;rw[if_neg (by simp),hw];simp only[if_neg (show ¬ (n<lo∨n>hi) by omega)];rfl))
  ·exact Zu (by simpa using he) (Wu (KL lo hi e x he))
 ·cases h
theorem b4w: ∀ args os,JX args os=true->Zf Fg os.length (Zj os.length TA fun r=>r=QI args os) PP [] (ZN c7j args os):=by
 intro args os h
 unfold JX at h
 split at h
 ·rename_i p err lo hi
  obtain⟨x,rfl,hl⟩:=Yg h
  refine d3l x err lo hi ⟨ZW hl,?_⟩
  rfl
 ·cases h
theorem b7m: ∀ args os,JI 83 args os=true->Zf Oh os.length (Zj os.length Px fun r=>r=QI args os) PS [] (ZN c1r args os):=by
 intro args os h
 unfold JI at h
 split at h
 ·rename_i g p err lo hi
  rw[Bool.and_eq_true]at h
  obtain⟨hg,h⟩:=h
  obtain rfl:=eq_of_beq hg
  obtain⟨x,rfl,hl⟩:=Yg h
  have hv:QI [.ptr 0 0,.fn 83 [] [.ptr 1 0,.ptr 2 0]] [.box [.pv (enc x),.pv (.int .i64 err)],.box [.pv (.int .i64 lo)],.box [.pv (.int .i64 hi)]]=Ap (Zc lo hi 2 x err) [Va lo,Va hi]:=by
   show Ap (Zc lo hi 2 (Za (enc x)) err) _=_
   rw[Zz]
  rw[hv]
  refine d2l x err lo hi ?_
  rw[ZM]
  by_cases he:err=0
  ·subst he
   refine Zv (by simp) ⟨ZW hl,?_⟩
   by_cases h0:(Zc lo hi 2 x 0).2.2=0
   ·exact Zv (by simpa using h0) (Wu (a8b h0))
   ·have hb:=Ch (by decide) h0
    exact Zu (by simpa using h0) (Wu (e0c hb))
  ·exact Zu (by simpa using he) (Wu (KL lo hi 2 x he))
 ·cases h
theorem b6a: ∀ args os,Z5 args os=true->Zf LJ os.length (Zj os.length R8 fun r=>r=VL args os) PT [] (ZN c7a args os):=by
 intro args os h
 unfold Z5 at h
 split at h
 ·rename_i lo hi p err
  obtain⟨x,rfl,hl⟩:=Yg h
  refine d4h x err lo hi ⟨?_,rfl⟩
  show(((83:Nat)==83)&&XL _)=true
  rw[ZW hl];rfl
 ·cases h
theorem Uz{a:List UInt8}{x:List UInt8}{e:Int}{r:List UInt8×List UInt8×Int}{os:List AObj}(h:r=(a,x,e)):((.pv (.str a),sB x e::os,[]):AV×List AObj×List AObj)=RY r os:=by rw[h];rfl
theorem a0b{y:List UInt8}{k:Nat}(h:k<=y.length):Xl (List.drop 0 (List.take k (List.map enc y)))=y.take k∧List.drop k (List.take (List.length (List.map (enc:UInt8->PV) y)) (List.map enc y))=(y.drop k).map enc∧(List.drop 0 (List.take k (List.map (enc:UInt8->PV) y))).all SE=true:=by
 have e:List.drop 0 (List.take k (List.map (enc:UInt8->PV) y))=(y.take k).map enc:=by rw[List.drop_zero,List.map_take]
 rw[e,Q6,List.take_of_length_le (Nat.le_refl _),<- List.map_drop,OG]
 simp
theorem K5{b:Bool}:(b||1==1)=true:=by cases b <;> rfl
theorem b4u: ∀ args os,YF args os=true->Zf Fa os.length (Zj os.length R5 fun r=>r=DU args os) PE [] (ZN b7v args os):=by
 intro args os h
 unfold YF at h
 split at h
 ·rename_i most p err
  obtain⟨x,rfl,hl⟩:=Yg h
  have hv:DU [.ptr 0 0,.pv (.int .i64 most)] [.box [.pv (enc x),.pv (.int .i64 err)]]=RY (VJ most x err) []:=by
   show RY (VJ most (Za (enc x)) err) _=_
   rw[Zz]
  rw[hv]
  refine c8n x err most ⟨ZW hl,?_⟩
  rw[ZM,ZM]
  have hn:=KZ (lo:=0) (hi:=most) (e:=3) (x:=x) (err:=err) (by decide)
  unfold VJ
  generalize hr:Zc 0 most 3 x err=r at hn ⊢
  obtain⟨n,y,e⟩:=r
  simp only
  by_cases he:e=0
  ·subst he
   refine Zv (by simp) ?_
   obtain⟨_,h0,_,_⟩:=hn rfl
   have h0:0<=n:=h0
   by_cases hc:n>(y.length:Int)
   ·rw[List.length_map]
    refine Zu (decide_eq_true hc) ⟨SL y 4 0,Uz ?_⟩
    rw[if_neg (by simp),if_pos hc]
    rfl
   ·have hk:n.toNat<=y.length:=by omega
    obtain⟨c1,c2,c3⟩:=a0b hk
    refine Zv (by rw[List.length_map];simpa using hc) ⟨?_,?_,?_,?_⟩
    ·rw[K5,List.length_map];simp;omega
    ·rw[c3,K5];rfl
    ·rw[K5,List.length_map];simp;omega
    ·rw[c1,c2]
     refine Uz ?_
     rw[if_neg (by simp),if_neg hc]
  ·refine Zu (by simpa using he) (Uz ?_)
   rw[if_pos he]
 ·cases h
theorem b2b: ∀ args os,JK args os=true->Zf F3 os.length (Zj os.length Pg fun r=>r=TG args os) TN [] (ZN c7q args os):=by
 intro args os h
 unfold JK at h
 split at h
 ·rename_i p err most
  obtain⟨x,rfl,hl⟩:=Yg h
  exact d1w x err most ⟨ZW hl,rfl⟩
 ·cases h
theorem b3u: ∀ args os,JO 86 args os=true->Zf Fh os.length (Zj os.length Ro fun r=>r=CY args os) TZ [] (ZN c0u args os):=by
 intro args os h
 unfold JO at h
 split at h
 ·rename_i g p err most
  rw[Bool.and_eq_true]at h
  obtain⟨hg,h⟩:=h
  obtain rfl:=eq_of_beq hg
  obtain⟨x,rfl,hl⟩:=Yg h
  have hv:CY [.ptr 0 0,.fn 86 [] [.ptr 1 0]] [.box [.pv (enc x),.pv (.int .i64 err)],.box [.pv (.int .i64 most)]]=RY (Zh most x err) [Va most]:=by
   show RY (Zh most (Za (enc x)) err) _=_
   rw[Zz]
  rw[hv]
  refine d2n x err most ?_
  rw[ZM]
  by_cases he:err=0
  ·subst he
   refine Zv (by simp) ⟨ZW hl,?_⟩
   by_cases h0:(VJ most x 0).2.2=0
   ·refine Zv (by simpa using h0) (Uz ?_)
    unfold Zh
    simp only[if_neg (show ¬ (0:Int)≠0 by simp),if_neg (show ¬ (VJ most x 0).2.2≠0 by simpa using h0)]
    exact a8b h0
   ·refine Zu (by simpa using h0) (Uz ?_)
    unfold Zh
    simp only[if_neg (show ¬ (0:Int)≠0 by simp),if_pos h0]
  ·refine Zu (by simpa using he) (Uz ?_)
   unfold Zh
   rw[if_pos he]
 ·cases h
theorem a3u: ∀ args os,YF args os=true->Zf PY os.length (Zj os.length Ar fun r=>r=Ud args os) Bo [] (ZN b3j args os):=by
 intro args os h
 unfold YF at h
 split at h
 ·rename_i most p err
  obtain⟨x,rfl,hl⟩:=Yg h
  refine c3e x err most ⟨?_,rfl⟩
  show(((86:Nat)==86)&&XL _)=true
  rw[ZW hl];rfl
 ·cases h
def d6n(c:UInt8)(x:List UInt8)(k c0:Int)(G:PV->Prop)(m:Int):Prop:=(if (decide (c0<8))=true then if (decide (m>9223372036854775687))=true then G ((.tup [(.int .i64 0),(.sl 0 true []),(.bool false)]))else(∃ y1:List UInt8,AV.pv (Zk (fun(x:List UInt8×Int×Unit)=>Prod.fst x++encI (Prod.fst (Prod.snd x))) [(.sl 0 true []),(.int .i64 (IntKind.wrap IntKind.i64 ((-121:Int) - IntKind.wrap IntKind.i64 m)))])=AV.pv (enc y1)∧(if ((↑(List.length (List.map enc y1)):Int) != IntKind.wrap IntKind.i64 (1+k))=true then G ((.tup [(.int .i64 0),(.sl 0 true []),(.bool false)]))else((decide (0<=IntKind.wrap IntKind.i64 (1+k))&&true&&(List.isEmpty (List.map enc (c::x))||Enc.sz UInt8==1)&&decide (Int.toNat (IntKind.wrap IntKind.i64 (1+k))<=List.length (List.map enc (c::x)))&&decide (List.length (List.map enc (c::x))<=List.length (List.map enc (c::x))))=true∧(G ((.tup [(.int .i64 (IntKind.wrap IntKind.i64 ((-121:Int) - IntKind.wrap IntKind.i64 m))),(.sl 1 false (List.drop (Int.toNat (IntKind.wrap IntKind.i64 (1+k))) (List.take (List.length (List.map enc (c::x))) (List.map enc (c::x))))),(.bool true)]))))))else(if (decide (m>9223372036854775687))=true then G ((.tup [(.int .i64 0),(.sl 0 true []),(.bool false)]))else(∃ y2:List UInt8,AV.pv (Zk (fun(x:List UInt8×Int×Unit)=>Prod.fst x++encI (Prod.fst (Prod.snd x))) [(.sl 0 true []),(.int .i64 (IntKind.wrap IntKind.i64 (IntKind.wrap IntKind.i64 m+120)))])=AV.pv (enc y2)∧(if ((↑(List.length (List.map enc y2)):Int) != IntKind.wrap IntKind.i64 (1+k))=true then G ((.tup [(.int .i64 0),(.sl 0 true []),(.bool false)]))else((decide (0<=IntKind.wrap IntKind.i64 (1+k))&&true&&(List.isEmpty (List.map enc (c::x))||Enc.sz UInt8==1)&&decide (Int.toNat (IntKind.wrap IntKind.i64 (1+k))<=List.length (List.map enc (c::x)))&&decide (List.length (List.map enc (c::x))<=List.length (List.map enc (c::x))))=true∧(G ((.tup [(.int .i64 (IntKind.wrap IntKind.i64 (IntKind.wrap IntKind.i64 m+120))),(.sl 1 false (List.drop (Int.toNat (IntKind.wrap IntKind.i64 (1+k))) (List.take (List.length (List.map enc (c::x))) (List.map enc (c::x))))),(.bool true)]))))))))
theorem a9a(n:Int){P:List UInt8->Prop}(h:P (encI n)): ∃ y:List UInt8,AV.pv (Zk (fun(x:List UInt8×Int×Unit)=>Prod.fst x++encI (Prod.fst (Prod.snd x))) [(.sl 0 true []),(.int .i64 n)])=AV.pv (enc y)∧P y:=
 Kr (F:=fun(x:List UInt8×Int×Unit)=>Prod.fst x++encI (Prod.fst (Prod.snd x))) (([]:List UInt8),n,()) rfl h
theorem Ol{m:Nat}(h:m<=9223372036854775687):(encI ((m:Int)+120)).length=1+Yl m:=by rw[Mx h,List.length_cons,V7];omega
theorem Oz{m:Nat}(h:m<=9223372036854775687):(encI (-121 - (m:Int))).length=1+Yl m:=by rw[MV h,List.length_cons,V7];omega
theorem c3q{n:Int}{k w:Nat}(hk:k<=8)(hw:(encI n).length=1+w):(((↑(List.length (List.map (enc:UInt8->PV) (encI n))):Int)) != IntKind.wrap IntKind.i64 (1+(k:Int)))=decide (w≠k):=by
 rw[List.length_map,hw,Yn (by omega) (by omega)]
 by_cases h:w=k
 ·subst h;simp
 ·rw[decide_eq_true h]
  simp
  omega
theorem b1h(t:Bool)(c:UInt8)(x:List UInt8)(k m:Nat)(z:Prop)[Decidable z](ht:t=decide ((c.toNat:Int)<8))(hk:k<=8)(hx:k<=x.length)(hz:Yl m=k ↔ ¬ z):
  d6n c x k (c.toNat:Int) (ZB (w3 (if z then none else if m<=9223372036854775687 then some (if t=true then -121 - (m:Int)else(m:Int)+120,x.drop k)else none))) m:=by
 unfold d6n
 by_cases hm:m<=9223372036854775687
 ·rw[if_pos hm]
  rw[show IntKind.wrap IntKind.i64 (m:Int)=(m:Int)from Yn (by omega) (by omega)]
  rw[show IntKind.wrap IntKind.i64 ((-121:Int) - (m:Int)) = -121 - (m:Int)from Yn (by omega) (by omega),show IntKind.wrap IntKind.i64 ((m:Int)+120)=(m:Int)+120 from Yn (by omega) (by omega)]
  by_cases hc:(c.toNat:Int)<8
  ·obtain rfl:t=true:=by rw[ht];exact decide_eq_true hc
   refine Zu (decide_eq_true hc) (Zv (by simp;omega) (a9a _ ?_))
   rw[c3q hk (Oz hm)]
   by_cases e:z
   ·rw[if_pos e]
    exact Zu (decide_eq_true (fun h=>hz.mp h e)) Wl
   ·rw[if_neg e]
    refine Zv (by simpa using hz.mpr e) ⟨a3g hk hx,?_⟩
    rw[Ld hk]
    exact KF _ _
  ·obtain rfl:t=false:=by rw[ht];exact decide_eq_false hc
   refine Zv (fun e=>hc (of_decide_eq_true e)) (Zv (by simp;omega) (a9a _ ?_))
   rw[c3q hk (Ol hm)]
   by_cases e:z
   ·rw[if_pos e]
    exact Zu (decide_eq_true (fun h=>hz.mp h e)) Wl
   ·rw[if_neg e]
    refine Zv (by simpa using hz.mpr e) ⟨a3g hk hx,?_⟩
    rw[Ld hk]
    exact KF _ _
 ·rw[if_neg hm,show(if z then(none:Option (Int×List UInt8))else none)=none by split <;> rfl]
  by_cases hc:(c.toNat:Int)<8
  ·exact Zu (decide_eq_true hc) (Zu (decide_eq_true (by omega)) Wl)
  ·exact Zv (fun e=>hc (of_decide_eq_true e)) (Zu (decide_eq_true (by omega)) Wl)
theorem b1p(b:UInt8):IntKind.wrap IntKind.u8 (255 - PV.asInt (List.getD (PV.cells (enc b)) 0 default))=((JH true b).toNat:Int):=by
 have:=UInt8.toNat_lt b
 show IntKind.wrap IntKind.u8 (255 - (b.toNat:Int))=((255 - b:UInt8).toNat:Int)
 rw[Cx,UInt8.toNat_sub]
 simp
 omega
theorem b6y(b:UInt8):PV.asInt (List.getD (PV.cells (enc b)) 0 default)=((JH false b).toNat:Int):=rfl
theorem a0d{G:PV->Prop}(t:Bool)(c:UInt8)(x:List UInt8)(k:Nat)(ht:t=decide ((c.toNat:Int)<8))(hk:k<=8)(hx:k<=x.length): ∀ (j i M:Nat),i+j=k->M<256 ^ i->d6n c x k (c.toNat:Int) G (WF t M ((x.take k).drop i):Int) ->
  At XC 0 (Ze Y2 G) Y1 0 82 [(0,.pv (enc (c::x))),(5,.pv (.int .i64 (c.toNat:Int))),(6,.pv (.int .i64 (k:Int))),(7,.pv (.int .u64 (M:Int))),(8,.pv (.int .i64 ((i+1:Nat):Int)))] []:=by
 intro j
 induction j with
 | zero=>
  intro i M hj hM hE
  rw[List.drop_of_length_le (by rw[List.length_take];omega),WF]at hE
  exact MK c x k M _ _ (Zv (by simp;omega) hE)
 | succ j ih=>
  intro i M hj hM hE
  have hl:i+1<(c::x).length:=by rw[List.length_cons];omega
  have hi:i<(x.take k).length:=by rw[List.length_take];omega
  have hb:=Nat.lt_of_lt_of_le hM (e0e i (by omega))
  rw[Ma hi]at hE
  have he:(x.take k)[i]=(c::x)[i+1]:=by rw[List.getElem_take];rfl
  rw[he]at hE
  have h':=ih (i+1) _ (by omega) (FW (t:=t) (y:=x) hM (c::x)[i+1]) hE
  refine MK c x k M _ _ (Zu (by simp;omega) ⟨CB hl,(c::x)[i+1],Qu hl,?_⟩)
  rw[b1p,b6y,NT M _ hb,NT M _ hb,next (by omega)]
  by_cases hc:(c.toNat:Int)<8
  ·obtain rfl:t=true:=by rw[ht];exact decide_eq_true hc
   exact Zu (decide_eq_true hc) h'
  ·obtain rfl:t=false:=by rw[ht];exact decide_eq_false hc
   exact Zv (fun e=>hc (of_decide_eq_true e)) h'
theorem Pp(t:Bool)(c:UInt8)(x:List UInt8)(k:Nat)(hk:Ut c=k)(htc:YB c=t)(ht:t=decide ((c.toNat:Int)<8))(h1:X9 c=false)(hx:x.length<=9000000):
  if (decide ((↑(List.length (List.map (enc:UInt8->PV) (c::x))):Int)<IntKind.wrap IntKind.i64 (1+(k:Int))))=true then ZB (w3 (Yh (c::x))) ((.tup [(.int .i64 0),(.sl 0 true []),(.bool false)]))else At XC 0 (Ze Y2 (ZB (w3 (Yh (c::x))))) Y1 0 82 [(0,.pv (enc (c::x))),(5,.pv (.int .i64 (c.toNat:Int))),(6,.pv (.int .i64 (k:Int))),(7,.pv (.int .u64 0)),(8,.pv (.int .i64 1))] []:=by
 obtain⟨k1,k8⟩:=SV c h1
 rw[b8u (by omega)]
 have hw:=UR c x
 rw[if_neg (show ¬ X9 c=true by rw[h1];simp),hk,htc]at hw
 by_cases hl:x.length<k
 ·rw[if_pos hl]at hw
  rw[hw]
  exact Zu (decide_eq_true hl) Wl
 ·rw[if_neg hl]at hw
  refine Zv (fun e=>hl (of_decide_eq_true e)) ?_
  have hlen:(x.take k).length=k:=by rw[List.length_take];omega
  have hh:(x.take k).headD 0=x.headD 0:=Ao x (by omega)
  have hz:=a9r t (x.take k) k hlen (by omega) (by omega)
  rw[hh]at hz
  have he:=b1h t c x k (WF t 0 (x.take k)) _ ht (by omega) (by omega) hz
  rw[<- hw]at he
  exact a0d t c x k ht (by omega) (by omega) k 0 0 (by omega) (by decide) he
theorem a5k: ∀ x:List UInt8×Unit,decide (x.1.length<=9000000)=true->Zf XC 0 (Ze Y2 (ZB (w3 (Yh x.1)))) Y1 [] (Yp b1c (encL x)):=by
 rintro⟨l,⟨⟩⟩ h
 have h:l.length<=9000000:=of_decide_eq_true h
 cases l with
 | nil=>exact b1v Wl
 | cons c x=>
  have hc:=UInt8.toNat_lt c
  have hx:x.length<=9000000:=by rw[List.length_cons]at h;omega
  refine c6u c x ⟨c,Qu (l:=c::x) (i:=0) (by simp),?_⟩
  rw[a7q]
  have htn:YB c=decide (c.toNat<=7):=rfl
  by_cases a:(c.toNat:Int) ≥ 8
  ·refine Zu (decide_eq_true a) ?_
   by_cases b:(c.toNat:Int)<=247
   ·have h1:X9 c=true:=by unfold X9;rw[decide_eq_true (show 8<=c.toNat by omega),decide_eq_true (show c.toNat<=247 by omega)];rfl
    have hw:Yh (c::x)=some ((c.toNat:Int) - 128,x):=by rw[UR,if_pos h1]
    refine Zu (decide_eq_true b) ⟨by simp,?_⟩
    show ZB (w3 (Yh (c::x))) _
    rw[hw,Yn (by omega) (by omega),List.take_of_length_le (Nat.le_refl _)]
    exact KF _ _
   ·have h1:X9 c=false:=by unfold X9;rw[decide_eq_false (show ¬ c.toNat<=247 by omega),Bool.and_false]
    have ht:YB c=false:=by rw[htn];exact decide_eq_false (by omega)
    refine Zv (fun e=>b (of_decide_eq_true e)) (Zv (by simp;omega) ?_)
    obtain⟨k,hk⟩ : ∃ k,k=c.toNat - 247:=⟨_,rfl⟩
    rw[show IntKind.wrap IntKind.i64 ((c.toNat:Int) - 247)=(k:Int) by rw[Yn (by omega) (by omega)];omega]
    exact Pp false c x k (by rw[hk];unfold Ut;rw[if_neg (by rw[ht];simp)]) ht (by symm;exact decide_eq_false (by omega)) h1 hx
  ·have h1:X9 c=false:=by unfold X9;rw[decide_eq_false (show ¬ 8<=c.toNat by omega),Bool.false_and]
   have ht:YB c=true:=by rw[htn];exact decide_eq_true (by omega)
   refine Zv (fun e=>a (of_decide_eq_true e)) (Zu (decide_eq_true (by omega)) ?_)
   obtain⟨k,hk⟩ : ∃ k,k=8 - c.toNat:=⟨_,rfl⟩
   rw[show IntKind.wrap IntKind.i64 (8 - (c.toNat:Int))=(k:Int) by rw[Yn (by omega) (by omega)];omega]
   exact Pp true c x k (by rw[hk];unfold Ut;rw[if_pos ht]) ht (by symm;exact decide_eq_true (by omega)) h1 hx
theorem a5c: ∀ args os,Kv args os=true->Zf TY os.length (Zj os.length Ad fun r=>r=Gh args os) Bg [] (ZN b3r args os):=by
 intro args os h
 unfold Kv at h
 split at h
 ·rename_i q e p err
  rw[Bool.and_eq_true]at h
  obtain⟨y,rfl⟩:=XX h.1
  obtain⟨x,rfl⟩:=XX h.2
  have hv:Gh [.ptr 0 0,.pv (enc y),.pv (.int .i64 e)] [.box [.pv (enc x),.pv (.int .i64 err)]]=(.tup [],[sB y e],[]):=by
   show(AV.tup [],[sB (Za (enc y)) e],[])=_
   rw[Zz]
  rw[hv]
  exact c3g x err y e rfl
 ·cases h
theorem c3p: ∀ args os,YA args os=true->Zf a4z os.length (Zj os.length F4 fun r=>r=WN args os) LD [] (ZN c9t args os):=by
 intro args os h
 unfold YA at h
 split at h
 ·rename_i lo hi e p err
  obtain⟨x,rfl,hl⟩:=Yg h
  have hv:WN [.ptr 0 0,.pv (.int .i64 lo),.pv (.int .i64 hi),.pv (.int .i64 e)] [.box [.pv (enc x),.pv (.int .i64 err)]]=Ap (Zc lo hi e x err) []:=by
   show Ap (Zc lo hi e (Za (enc x)) err) []=_
   rw[Zz]
  rw[hv]
  refine d7y x err lo hi e ?_
  by_cases he:err=0
  ·subst he
   refine Zv (by simp) ⟨Zo (x,()) rfl (decide_eq_true hl),Yi (v:=w3 (Yh x)) (x,()) rfl rfl ?_⟩
   cases hw:Yh x with
   | none=>exact Zu rfl (Wu (by unfold Zc;rw[if_neg (by simp),hw]))
   | some p=>
    obtain⟨n,r⟩:=p
    refine Zv (by simp[w3]) ?_
    by_cases h1:n<lo
    ·exact Zu (decide_eq_true h1) (Wu (by unfold Zc;rw[if_neg (by simp),hw];simp only[if_pos (show n<lo∨n>hi from .inl h1)]))
    ·refine Zv (fun e=>h1 (of_decide_eq_true e)) ?_
     by_cases h2:n>hi
     ·exact Zu (decide_eq_true h2) (Wu (by unfold Zc;rw[if_neg (by simp),hw];simp only[if_pos (show n<lo∨n>hi from .inr h2)]))
     ·exact Zv (fun e=>h2 (of_decide_eq_true e)) (Wu (by unfold Zc;rw[if_neg (by simp),hw];simp only[if_neg (show ¬ (n<lo∨n>hi) by omega)];rfl))
  ·exact Zu (by simpa using he) (Wu (KL lo hi e x he))
 ·cases h
theorem b2s: ∀ args os,Z5 args os=true->Zf FV os.length (Zj os.length TE fun r=>r=VL args os) TP [] (ZN b8q args os):=by
 intro args os h
 unfold Z5 at h
 split at h
 ·rename_i lo hi p err
  obtain⟨x,rfl,hl⟩:=Yg h
  exact d2j x err lo hi ⟨ZW hl,rfl⟩
 ·cases h
theorem a3h: ∀ args os,Ql args os=true->Zf PR os.length (Zj os.length Bu fun r=>r=Hq args os) BU [] (ZN b2l args os):=by
 intro args os h
 unfold Ql at h
 split at h
 ·rename_i most p err
  obtain⟨x,rfl,hl⟩:=Yg h
  have hv:Hq [.ptr 0 0,.pv (.int .i64 most)] [.box [.pv (enc x),.pv (.int .i64 err)]]=Ap (Zc 0 most 3 x err) []:=by
   show Ap (Zc 0 most 3 (Za (enc x)) err) []=_
   rw[Zz]
  rw[hv]
  refine b8y x err most ?_
  rw[ZM]
  by_cases he:err=0
  ·subst he
   refine Zv (by simp) ⟨ZW hl,?_⟩
   unfold Zc
   simp only[if_neg (show ¬ (0:Int)≠0 by simp)]
   cases hw:Yh x with
   | none=>exact Zv (by simp) rfl
   | some p=>
    obtain⟨n,r⟩:=p
    by_cases hc:n<0∨n>most
    ·simp only[if_pos hc];exact Zu (by simp) rfl
    ·simp only[if_neg hc];exact Zv (by simp) rfl
  ·exact Zu (by simpa using he) (Wu (KL 0 most 3 x he))
 ·cases h
theorem a7j: ∀ args os,YF args os=true->Zf TU os.length (Zj os.length BN fun r=>r=Ud args os) BS [] (ZN b4h args os):=by
 intro args os h
 unfold YF at h
 split at h
 ·rename_i most p err
  obtain⟨x,rfl,hl⟩:=Yg h
  have hv:Ud [.ptr 0 0,.pv (.int .i64 most)] [.box [.pv (enc x),.pv (.int .i64 err)]]=RY (Zh most x err) []:=by
   show RY (Zh most (Za (enc x)) err) _=_
   rw[Zz]
  rw[hv]
  refine c1v x err most ?_
  rw[ZM]
  by_cases he:err=0
  ·subst he
   refine Zv (by simp) ⟨ZW hl,?_⟩
   have hn:=KZ (lo:=0) (hi:=most) (e:=3) (x:=x) (err:=0) (by decide)
   have hb:=Ch (lo:=0) (hi:=most) (e:=3) (x:=x) (err:=0) (by decide)
   unfold Zh VJ
   simp only[if_neg (show ¬ (0:Int)≠0 by simp)]
   generalize hr:Zc 0 most 3 x 0=r at hn hb ⊢
   obtain⟨n,y,e⟩:=r
   simp only
   by_cases he:e=0
   ·subst he
    refine Zv (by simp) ?_
    obtain⟨_,h0,_,_⟩:=hn rfl
    have h0:0<=n:=h0
    by_cases hc:n>(y.length:Int)
    ·rw[List.length_map]
     refine Zu (decide_eq_true hc) ⟨by show(QV (List UInt8) _&&QV (List UInt8) _)=true;rw[PX,PX];rfl,Uz ?_⟩
     simp[hc]
    ·have hk:n.toNat<=y.length:=by omega
     obtain⟨c1,c2,c3⟩:=a0b hk
     refine Zv (by rw[List.length_map];simpa using hc) ⟨?_,?_,?_,?_⟩
     ·rw[K5,List.length_map];simp;omega
     ·rw[c3,K5];rfl
     ·rw[K5,List.length_map];simp;omega
     ·rw[c1,c2]
      refine Uz ?_
      simp[hc]
   ·refine Zu (by simpa using he) (Uz ?_)
    have h2:=(hb he).2
    simp only at h2
    subst h2
    simp[he]
  ·refine Zu (by simpa using he) (Uz ?_)
   unfold Zh
   rw[if_pos he]
 ·cases h
def d5a(x z:List UInt8)(e k:Int)(G:AV×List AObj×List AObj->Prop):Prop:=(if (e==0)=true then ∃ y0:Bool,AV.pv (Zk (fun(x:Lin×Unit)=>Zm (Prod.fst x)) [(.agg [(.int .i64 k),(.sl 0 true [])])])=AV.pv (enc y0)∧(if (!y0)=true then G (((.pv (.agg [(.int .i64 0),(.sl 0 true [])])),([(.box [(.pv (.sl 1 false (List.map enc x))),(.pv (.int .i64 4))])],[])))else(if (e != 0)=true then G (((.pv (.agg [(.int .i64 0),(.sl 0 true [])])),([(.box [(.pv (.sl 1 false (List.map enc x))),(.pv (.int .i64 e))])],[])))else(G (((.pv (.agg [(.int .i64 k),(.sl 0 true [])])),([(.box [(.pv (.sl 1 false (List.map enc z))),(.pv (.int .i64 e))])],[]))))))else(if (e != 0)=true then G (((.pv (.agg [(.int .i64 0),(.sl 0 true [])])),([(.box [(.pv (.sl 1 false (List.map enc x))),(.pv (.int .i64 e))])],[])))else(G (((.pv (.agg [(.int .i64 k),(.sl 0 true [])])),([(.box [(.pv (.sl 1 false (List.map enc z))),(.pv (.int .i64 e))])],[]))))))
def d4x(pre:Lin->Bool)(x z:List UInt8)(e k:Int)(ts:List Coef)(m:Nat)(G:AV×List AObj×List AObj->Prop):Prop:=(if (e==0)=true then(List.length (List.map enc ts)==m)=true∧((Go.Pl.preT (fun(x:Lin×Unit)=>pre (Prod.fst x)) [(.agg [(.int .i64 k),(.sl 2 false (List.drop 0 (List.take m (List.map enc ts))))])])=true∧(∃ y0:Bool,AV.pv (Zk (fun(x:Lin×Unit)=>Zm (Prod.fst x)) [(.agg [(.int .i64 k),(.sl 2 false (List.drop 0 (List.take m (List.map enc ts))))])])=AV.pv (enc y0)∧(if (!y0)=true then G (((.pv (.agg [(.int .i64 0),(.sl 0 true [])])),([(.box [(.pv (.sl 1 false (List.map enc x))),(.pv (.int .i64 4))])],[])))else(if (e != 0)=true then G (((.pv (.agg [(.int .i64 0),(.sl 0 true [])])),([(.box [(.pv (.sl 1 false (List.map enc x))),(.pv (.int .i64 e))])],[])))else((List.length (List.map enc ts)==m)=true∧(G (((.pv (.agg [(.int .i64 k),(.sl 2 false (List.drop 0 (List.take m (List.map enc ts))))])),([(.box [(.pv (.sl 1 false (List.map enc z))),(.pv (.int .i64 e))])],[])))))))))else(if (e != 0)=true then G (((.pv (.agg [(.int .i64 0),(.sl 0 true [])])),([(.box [(.pv (.sl 1 false (List.map enc x))),(.pv (.int .i64 e))])],[])))else((List.length (List.map enc ts)==m)=true∧(G (((.pv (.agg [(.int .i64 k),(.sl 2 false (List.drop 0 (List.take m (List.map enc ts))))])),([(.box [(.pv (.sl 1 false (List.map enc z))),(.pv (.int .i64 e))])],[])))))))
def WZ(k:Int)(x:List UInt8)(ts:List Coef)(c:List Coef×List UInt8×Int):Lin×List UInt8×Int:=
 if (if c.2.2=0∧Zm ⟨k,ts++c.1⟩=false then 4 else c.2.2)=0 then(⟨k,ts++c.1⟩,c.2.1,0)else(⟨0,[]⟩,x,if c.2.2=0∧Zm ⟨k,ts++c.1⟩=false then 4 else c.2.2)
def d4r(v:Lin×List UInt8×Int):AV×List AObj×List AObj:=(.pv (enc v.1),[sB v.2.1 v.2.2],[])
def GLn(v:Lin×List UInt8×Int)(r:AV×List AObj×List AObj):Prop:= ∃ p p',r.1 = .pv p∧Sub p p'∧d4r v=(.pv p',r.2)
theorem CF(k:Int):Sub (.agg [.int .i64 k,.sl 0 true []]) (enc (⟨k,[]⟩:Lin)):=by
 refine .agg _ _ rfl ?_
 intro j a b ha hb
 match j with
 | 0=>cases ha;cases hb;exact .refl _
 | 1=>cases ha;cases hb;exact .nil 0 2 true false (by simp)
 | j+2=>cases ha
theorem Gd{v:Lin×List UInt8×Int}{x:List UInt8}{e:Int}(h:v=(⟨0,[]⟩,x,e)):GLn v (((.pv (.agg [(.int .i64 0),(.sl 0 true [])])),([(.box [(.pv (.sl 1 false (List.map enc x))),(.pv (.int .i64 e))])],[]))):=by
 subst h
 exact⟨_,_,rfl,CF 0,rfl⟩
theorem d3p{v:Lin×List UInt8×Int}{z:List UInt8}{k e:Int}(h:v=(⟨k,[]⟩,z,e)):GLn v (((.pv (.agg [(.int .i64 k),(.sl 0 true [])])),([(.box [(.pv (.sl 1 false (List.map enc z))),(.pv (.int .i64 e))])],[]))):=by
 subst h
 exact⟨_,_,rfl,CF k,rfl⟩
theorem d5x{ts:List Coef}{m:Nat}(h:ts.length=m):List.drop 0 (List.take m (List.map (enc:Coef->PV) ts))=ts.map enc:=by
 rw[List.take_of_length_le (by rw[List.length_map];omega),List.drop_zero]
theorem d1i{v:Lin×List UInt8×Int}{z:List UInt8}{k e:Int}{ts:List Coef}(h:v=(⟨k,ts⟩,z,e)):GLn v (((.pv (.agg [(.int .i64 k),(.sl 2 false (ts.map enc))])),([(.box [(.pv (.sl 1 false (List.map enc z))),(.pv (.int .i64 e))])],[]))):=by
 subst h
 exact⟨_,_,rfl,.refl _,rfl⟩
theorem Ur{k:Int}{x:List UInt8}{ts:List Coef}{c:List Coef×List UInt8×Int}(h:c.2.2≠0):WZ k x ts c=(⟨0,[]⟩,x,c.2.2):=by
 unfold WZ
 rw[if_neg (show ¬ (c.2.2=0∧Zm ⟨k,ts++c.1⟩=false)from fun e=>h e.1),if_neg h]
theorem Bh{k:Int}{x:List UInt8}{ts:List Coef}{c:List Coef×List UInt8×Int}(h:c.2.2=0)(hv:Zm ⟨k,ts++c.1⟩=false):WZ k x ts c=(⟨0,[]⟩,x,4):=by
 unfold WZ
 rw[if_pos (show c.2.2=0∧Zm ⟨k,ts++c.1⟩=false from⟨h,hv⟩),if_neg (by decide)]
theorem G9{k:Int}{x:List UInt8}{ts:List Coef}{c:List Coef×List UInt8×Int}(h:c.2.2=0)(hv:Zm ⟨k,ts++c.1⟩=true):WZ k x ts c=(⟨k,ts++c.1⟩,c.2.1,0):=by
 unfold WZ
 rw[if_neg (show ¬ (c.2.2=0∧Zm ⟨k,ts++c.1⟩=false)from fun e=>by rw[hv]at e;cases e.2),if_pos h]
theorem Jz{k:Int}{x:List UInt8}{ts:List Coef}{t:Coef}{r:List Coef×List UInt8×Int}:WZ k x ts (t::r.1,r.2)=WZ k x (ts++[t]) r:=by
 unfold WZ
 rw[show ts++[t]++r.1=ts++(t::r.1) by rw[List.append_assoc];rfl]
theorem Dv(x z:List UInt8)(e k:Int):d5a x z e k (GLn (WZ k x [] ([],z,e))):=by
 unfold d5a
 by_cases he:e=0
 ·refine Zu (by simpa using he) (Kr (F:=fun x:Lin×Unit=>Zm x.1) ((⟨k,[]⟩:Lin),()) rfl ?_)
  cases hv:Zm ⟨k,[]⟩
  ·exact Zu rfl (Gd (Bh he hv))
  ·exact Zv (by simp) (Zv (by simpa using he) (d3p (by rw[G9 he hv,he];rfl)))
 ·exact Zv (by simpa using he) (Zu (by simpa using he) (Gd (Ur he)))
theorem CJ(pre:Lin->Bool)(x z:List UInt8)(e k:Int)(ts:List Coef)(m:Nat)(hm:ts.length=m)(hp:pre ⟨k,ts⟩=true):d4x pre x z e k ts m (GLn (WZ k x ts ([],z,e))):=by
 unfold d4x
 rw[d5x hm]
 have hl:(List.length (List.map (enc:Coef->PV) ts)==m)=true:=by rw[List.length_map,hm];simp
 by_cases he:e=0
 ·refine Zu (by simpa using he) ⟨hl,Zo (α:=Lin×Unit) ((⟨k,ts⟩:Lin),()) rfl hp,Kr (F:=fun x:Lin×Unit=>Zm x.1) ((⟨k,ts⟩:Lin),()) (EncL.dec_encL ((⟨k,ts⟩:Lin),())) ?_⟩
  have ha:ts++([]:List Coef)=ts:=List.append_nil ts
  show if (!Zm ⟨k,ts⟩)=true then _ else _
  cases hv:Zm ⟨k,ts⟩
  ·exact Zu rfl (Gd (Bh he (by rw[ha];exact hv)))
  ·exact Zv (by simp) (Zv (by simpa using he) ⟨hl,d1i (by rw[G9 he (by rw[ha];exact hv),he,ha])⟩)
 ·exact Zv (by simpa using he) (Zu (by simpa using he) (Gd (Ur he)))
theorem Uw{e:Int}(h:e≠0): ∀ (j:Nat) (z:List UInt8),Ym j z e=([],z,e)
 | 0,z=>rfl
 | j+1,z=>by rw[Ym,if_pos h]
theorem Q4{lo hi e:Int}{x:List UInt8}{err:Int}(h1:0<=lo)(h2:0<=hi)(he:e≠0):0<=(Zc lo hi e x err).1∧(Zc lo hi e x err).1<=hi:=by
 by_cases h:(Zc lo hi e x err).2.2=0
 ·have:=KZ he h;omega
 ·have:=Ch he h;omega
theorem DL(x:List UInt8)(err:Int):(Zh 30 x err).1.length<=30:=by
 unfold Zh VJ
 have h:=Q4 (lo:=0) (hi:=30) (e:=3) (x:=x) (err:=0) (by decide) (by decide) (by decide)
 simp only
 repeat' split
 all_goals first|(simp;done)|(rw[List.length_take];omega)
def Bq(ts:List Coef):Bool:=ts.all fun t=>decide (t.v.s.length<=1000000)
theorem Gl{ts:List Coef}{t:Coef}(h:Bq ts=true)(ht:t.v.s.length<=30):Bq (ts++[t])=true:=by
 unfold Bq at h ⊢
 rw[List.all_append,h,List.all_cons,decide_eq_true (show t.v.s.length<=1000000 by omega)];rfl
theorem c0p{k:Int}{ts:List Coef}(h:ts.length<=12)(hn:Bq ts=true):ZG ⟨k,ts⟩=true:=by
 unfold ZG
 rw[show Yb ⟨k,ts⟩=true from decide_eq_true (by show ts.length<=_;omega)]
 exact hn
theorem c6k{k:Int}{ts:List Coef}(h:ts.length<=12):Yb ⟨k,ts⟩=true:=decide_eq_true (by show ts.length<=_;omega)
theorem WJ{z:List UInt8}(lo hi e:Int)(h:z.length<=9000000):Z5 [.ptr 0 0,.pv (.int .i64 lo),.pv (.int .i64 hi)] [.box [.pv (.sl 1 false (List.map enc z)),.pv (.int .i64 e)]]=true:=ZW h
theorem Tf{z:List UInt8}(m e:Int)(h:z.length<=9000000):YF [.ptr 0 0,.pv (.int .i64 m)] [.box [.pv (.sl 1 false (List.map enc z)),.pv (.int .i64 e)]]=true:=ZW h
theorem c0z{z:List UInt8}(m e:Int)(h:z.length<=9000000):Ql [.ptr 0 0,.pv (.int .i64 m)] [.box [.pv (.sl 1 false (List.map enc z)),.pv (.int .i64 e)]]=true:=ZW h
theorem a8w{ts:List Coef}{m:Nat}(hm:ts.length=m)(h:m<=12)(b:PV):(List.length (List.map (enc:Coef->PV) ts)==m&&m==m&&decide ((m+List.length (List.drop 0 (List.take 1 [b])))*24<=1099511627776)&&decide (m+List.length (List.drop 0 (List.take 1 [b]))<=1099511627776))=true:=by
 rw[List.length_map,hm]
 simp
 omega
theorem a6z(x:List UInt8)(err k n:Int): ∀ (j i m:Nat) (z:List UInt8) (e:Int) (ts:List Coef),i+j=n.toNat->(e=0->n<=12)->ts.length=m->m<=12->m<=i->Bq ts=true->z.length<=9000000 ->
  At Vw 1 (ZC 1 XQ (GLn (WZ k x ts (Ym j z e)))) XV 0 102 [(0,.ptr 0 0),(2,.ptr 1 0),(3,.ptr 2 0),(4,.ptr 3 0),(5,.pv (.int .i64 n)),(6,.pv (.int .i64 (i:Int)))] [.obj (.box [.pv (.sl 1 false (x.map enc)),.pv (.int .i64 err)]),.obj (.box [.pv (.int .i64 0),.pv (.sl 0 true [])]),.obj (.box [.pv (.sl 1 false (z.map enc)),.pv (.int .i64 e)]),.obj (.box [.pv (.int .i64 k),.row 4 m 0 m]),.obj (.row false 80 2 (ts.map enc))]:=by
 intro j
 induction j with
 | zero=>
  intro i m z e ts hj hn hm hmi hi hnm hz
  refine a2l x err z e k n i ts m (Zv (by simp;omega) ?_)
  exact CJ ZG x z e k ts m hm (c0p (by omega) hnm)
 | succ j ih=>
  intro i m z e ts hj hn hm hmi hi hnm hz
  refine a2l x err z e k n i ts m (Zu (by simp;omega) ?_)
  by_cases he:e=0
  ·subst he
   have hn12:=hn rfl
   have h1:=Kw 30 z 0
   have h2:=ZX (-1000000) 1000000 2 (Zh 30 z 0).2.1 (Zh 30 z 0).2.2
   have h3:=DL z 0
   have h4:=ih (i+1) (m+1) (Zc (-1000000) 1000000 2 (Zh 30 z 0).2.1 (Zh 30 z 0).2.2).2.1 (Zc (-1000000) 1000000 2 (Zh 30 z 0).2.1 (Zh 30 z 0).2.2).2.2 (ts++[⟨⟨(Zh 30 z 0).1⟩,(Zc (-1000000) 1000000 2 (Zh 30 z 0).2.1 (Zh 30 z 0).2.2).1⟩]) (by omega) (fun _=>hn12) (by simp[hm]) (by omega) (by omega) (Gl hnm h3) (by omega)
   rw[<- Jz,List.map_append]at h4
   refine Zu rfl ⟨Tf 30 0 hz,WJ _ _ _ (by rw[ZM];omega),a8w hm (by omega) _,?_⟩
   rw[ZM,ZM,next (by omega),show Ym (j+1) z 0=(⟨⟨(Zh 30 z 0).1⟩,(Zc (-1000000) 1000000 2 (Zh 30 z 0).2.1 (Zh 30 z 0).2.2).1⟩::(Ym j (Zc (-1000000) 1000000 2 (Zh 30 z 0).2.1 (Zh 30 z 0).2.2).2.1 (Zc (-1000000) 1000000 2 (Zh 30 z 0).2.1 (Zh 30 z 0).2.2).2.2).1,(Ym j (Zc (-1000000) 1000000 2 (Zh 30 z 0).2.1 (Zh 30 z 0).2.2).2.1 (Zc (-1000000) 1000000 2 (Zh 30 z 0).2.1 (Zh 30 z 0).2.2).2.2).2)from rfl]
   exact h4
  ·rw[Uw he]
   refine Zv (by simpa using he) ?_
   exact CJ ZG x z e k ts m hm (c0p (by omega) hnm)
theorem Jv(x:List UInt8)(err k n:Int): ∀ (j i:Nat) (z:List UInt8) (e:Int),i=0->j=n.toNat->(e=0->n<=12)->z.length<=9000000 ->
  At Vw 1 (ZC 1 XQ (GLn (WZ k x [] (Ym j z e)))) XV 0 102 [(0,.ptr 0 0),(2,.ptr 1 0),(3,.ptr 2 0),(4,.ptr 3 0),(5,.pv (.int .i64 n)),(6,.pv (.int .i64 (i:Int)))] [.obj (.box [.pv (.sl 1 false (x.map enc)),.pv (.int .i64 err)]),.obj (.box [.pv (.int .i64 0),.pv (.sl 0 true [])]),.obj (.box [.pv (.sl 1 false (z.map enc)),.pv (.int .i64 e)]),.obj (.box [.pv (.int .i64 k),.pv (.sl 0 true [])])]:=by
 intro j i z e hi hj hn hz
 subst hi
 cases j with
 | zero=>
  refine a1j x err z e k n (0:Nat) (Zv (by simp;omega) ?_)
  exact Dv x z e k
 | succ j=>
  refine a1j x err z e k n (0:Nat) (Zu (by simp;omega) ?_)
  by_cases he:e=0
  ·subst he
   have hn12:=hn rfl
   have h1:=Kw 30 z 0
   have h2:=ZX (-1000000) 1000000 2 (Zh 30 z 0).2.1 (Zh 30 z 0).2.2
   have h3:=DL z 0
   have h4:=a6z x err k n j 1 1 (Zc (-1000000) 1000000 2 (Zh 30 z 0).2.1 (Zh 30 z 0).2.2).2.1 (Zc (-1000000) 1000000 2 (Zh 30 z 0).2.1 (Zh 30 z 0).2.2).2.2 ([]++[⟨⟨(Zh 30 z 0).1⟩,(Zc (-1000000) 1000000 2 (Zh 30 z 0).2.1 (Zh 30 z 0).2.2).1⟩]) (by omega) (fun _=>hn12) rfl (by omega) (by omega) (Gl rfl h3) (by omega)
   rw[<- Jz]at h4
   refine Zu rfl ⟨Tf 30 0 hz,WJ _ _ _ (by rw[ZM];omega),?_⟩
   rw[ZM,ZM,next (by omega),show Ym (j+1) z 0=(⟨⟨(Zh 30 z 0).1⟩,(Zc (-1000000) 1000000 2 (Zh 30 z 0).2.1 (Zh 30 z 0).2.2).1⟩::(Ym j (Zc (-1000000) 1000000 2 (Zh 30 z 0).2.1 (Zh 30 z 0).2.2).2.1 (Zc (-1000000) 1000000 2 (Zh 30 z 0).2.1 (Zh 30 z 0).2.2).2.2).1,(Ym j (Zc (-1000000) 1000000 2 (Zh 30 z 0).2.1 (Zh 30 z 0).2.2).2.1 (Zc (-1000000) 1000000 2 (Zh 30 z 0).2.1 (Zh 30 z 0).2.2).2.2).2)from rfl]
   exact h4
  ·rw[Uw he]
   refine Zv (by simpa using he) ?_
   exact Dv x z e k
theorem a1e(x:List UInt8)(err k n:Int): ∀ (j i m:Nat) (z:List UInt8) (e:Int) (ts:List Coef),i+j=n.toNat->(e=0->n<=12)->ts.length=m->m<=12->m<=i->Bq ts=true->z.length<=9000000 ->
  At Vf 1 (ZC 1 X0 (GLn (WZ k x ts (Ym j z e)))) X4 0 74 [(0,.ptr 0 0),(2,.ptr 1 0),(3,.pv (.sl 1 false (x.map enc))),(4,.ptr 2 0),(5,.pv (.int .i64 n)),(6,.pv (.int .i64 (i:Int)))] [.obj (.box [.pv (.sl 1 false (z.map enc)),.pv (.int .i64 e)]),.obj (.box [.pv (.int .i64 0),.pv (.sl 0 true [])]),.obj (.box [.pv (.int .i64 k),.row 3 m 0 m]),.obj (.row false 80 2 (ts.map enc))]:=by
 intro j
 induction j with
 | zero=>
  intro i m z e ts hj hn hm hmi hi hnm hz
  refine MG x err z e k n i ts m (Zv (by simp;omega) ?_)
  exact CJ Yb x z e k ts m hm (c6k (by omega))
 | succ j ih=>
  intro i m z e ts hj hn hm hmi hi hnm hz
  refine MG x err z e k n i ts m (Zu (by simp;omega) ?_)
  by_cases he:e=0
  ·subst he
   have hn12:=hn rfl
   have h1:=Kw 30 z 0
   have h2:=ZX (-1000000) 1000000 2 (Zh 30 z 0).2.1 (Zh 30 z 0).2.2
   have h3:=DL z 0
   have h4:=ih (i+1) (m+1) (Zc (-1000000) 1000000 2 (Zh 30 z 0).2.1 (Zh 30 z 0).2.2).2.1 (Zc (-1000000) 1000000 2 (Zh 30 z 0).2.1 (Zh 30 z 0).2.2).2.2 (ts++[⟨⟨(Zh 30 z 0).1⟩,(Zc (-1000000) 1000000 2 (Zh 30 z 0).2.1 (Zh 30 z 0).2.2).1⟩]) (by omega) (fun _=>hn12) (by simp[hm]) (by omega) (by omega) (Gl hnm h3) (by omega)
   rw[<- Jz,List.map_append]at h4
   refine Zu rfl ⟨Tf 30 0 hz,WJ _ _ _ (by rw[ZM];omega),a8w hm (by omega) _,?_⟩
   rw[ZM,ZM,next (by omega),show Ym (j+1) z 0=(⟨⟨(Zh 30 z 0).1⟩,(Zc (-1000000) 1000000 2 (Zh 30 z 0).2.1 (Zh 30 z 0).2.2).1⟩::(Ym j (Zc (-1000000) 1000000 2 (Zh 30 z 0).2.1 (Zh 30 z 0).2.2).2.1 (Zc (-1000000) 1000000 2 (Zh 30 z 0).2.1 (Zh 30 z 0).2.2).2.2).1,(Ym j (Zc (-1000000) 1000000 2 (Zh 30 z 0).2.1 (Zh 30 z 0).2.2).2.1 (Zc (-1000000) 1000000 2 (Zh 30 z 0).2.1 (Zh 30 z 0).2.2).2.2).2)from rfl]
   exact h4
  ·rw[Uw he]
   refine Zv (by simpa using he) ?_
   exact CJ Yb x z e k ts m hm (c6k (by omega))
theorem a2t(x:List UInt8)(err k n:Int): ∀ (j i:Nat) (z:List UInt8) (e:Int),i=0->j=n.toNat->(e=0->n<=12)->z.length<=9000000 ->
  At Vf 1 (ZC 1 X0 (GLn (WZ k x [] (Ym j z e)))) X4 0 74 [(0,.ptr 0 0),(2,.ptr 1 0),(3,.pv (.sl 1 false (x.map enc))),(4,.ptr 2 0),(5,.pv (.int .i64 n)),(6,.pv (.int .i64 (i:Int)))] [.obj (.box [.pv (.sl 1 false (z.map enc)),.pv (.int .i64 e)]),.obj (.box [.pv (.int .i64 0),.pv (.sl 0 true [])]),.obj (.box [.pv (.int .i64 k),.pv (.sl 0 true [])])]:=by
 intro j i z e hi hj hn hz
 subst hi
 cases j with
 | zero=>
  refine N8 x err z e k n (0:Nat) (Zv (by simp;omega) ?_)
  exact Dv x z e k
 | succ j=>
  refine N8 x err z e k n (0:Nat) (Zu (by simp;omega) ?_)
  by_cases he:e=0
  ·subst he
   have hn12:=hn rfl
   have h1:=Kw 30 z 0
   have h2:=ZX (-1000000) 1000000 2 (Zh 30 z 0).2.1 (Zh 30 z 0).2.2
   have h3:=DL z 0
   have h4:=a1e x err k n j 1 1 (Zc (-1000000) 1000000 2 (Zh 30 z 0).2.1 (Zh 30 z 0).2.2).2.1 (Zc (-1000000) 1000000 2 (Zh 30 z 0).2.1 (Zh 30 z 0).2.2).2.2 ([]++[⟨⟨(Zh 30 z 0).1⟩,(Zc (-1000000) 1000000 2 (Zh 30 z 0).2.1 (Zh 30 z 0).2.2).1⟩]) (by omega) (fun _=>hn12) rfl (by omega) (by omega) (Gl rfl h3) (by omega)
   rw[<- Jz]at h4
   refine Zu rfl ⟨Tf 30 0 hz,WJ _ _ _ (by rw[ZM];omega),?_⟩
   rw[ZM,ZM,next (by omega),show Ym (j+1) z 0=(⟨⟨(Zh 30 z 0).1⟩,(Zc (-1000000) 1000000 2 (Zh 30 z 0).2.1 (Zh 30 z 0).2.2).1⟩::(Ym j (Zc (-1000000) 1000000 2 (Zh 30 z 0).2.1 (Zh 30 z 0).2.2).2.1 (Zc (-1000000) 1000000 2 (Zh 30 z 0).2.1 (Zh 30 z 0).2.2).2.2).1,(Ym j (Zc (-1000000) 1000000 2 (Zh 30 z 0).2.1 (Zh 30 z 0).2.2).2.1 (Zc (-1000000) 1000000 2 (Zh 30 z 0).2.1 (Zh 30 z 0).2.2).2.2).2)from rfl]
   exact h4
  ·rw[Uw he]
   refine Zv (by simpa using he) ?_
   exact Dv x z e k
theorem UF(x:List UInt8):Zp x 0=WZ (Zc (-1000000) 1000000 2 x 0).1 x [] (Ym (Zc 0 12 3 (Zc (-1000000) 1000000 2 x 0).2.1 (Zc (-1000000) 1000000 2 x 0).2.2).1.toNat (Zc 0 12 3 (Zc (-1000000) 1000000 2 x 0).2.1 (Zc (-1000000) 1000000 2 x 0).2.2).2.1 (Zc 0 12 3 (Zc (-1000000) 1000000 2 x 0).2.1 (Zc (-1000000) 1000000 2 x 0).2.2).2.2):=by
 unfold Zp WZ
 rw[if_neg (by simp)]
 simp only[List.nil_append]
theorem Um(x:List UInt8){err:Int}(h:err≠0):Zp x err=(⟨0,[]⟩,x,err):=by unfold Zp;rw[if_pos h]
theorem Rh(x:List UInt8)(err:Int):Js [.ptr 0 0] [.box [.pv (enc x),.pv (.int .i64 err)]]=d4r (Zp x err):=by
 show(AV.pv (enc (Zp (Za (enc x)) err).1),[sB (Zp (Za (enc x)) err).2.1 (Zp (Za (enc x)) err).2.2],[])=_
 rw[Zz];rfl
theorem b2f: ∀ args os,ZZ args os=true->Zf Vf os.length (ZC os.length X0 fun r=> ∃ p p',r.1 = .pv p∧Sub p p'∧Js args os=(.pv p',r.2)) X4 [] (ZN c1g args os):=by
 intro args os h
 unfold ZZ at h
 split at h
 ·rename_i p err
  obtain⟨x,rfl,hl⟩:=Yg h
  rw[Rh]
  show Zf Vf 1 (ZC 1 X0 (GLn (Zp x err))) X4 [] _
  refine d3f x err ?_
  by_cases he:err=0
  ·subst he
   have h1:=ZX (-1000000) 1000000 2 x 0
   rw[ZM,ZM,UF]
   have h2:=ZX 0 12 3 (Zc (-1000000) 1000000 2 x 0).2.1 (Zc (-1000000) 1000000 2 x 0).2.2
   have h3:=Q4 (lo:=0) (hi:=12) (e:=3) (x:=(Zc (-1000000) 1000000 2 x 0).2.1) (err:=(Zc (-1000000) 1000000 2 x 0).2.2) (by decide) (by decide) (by decide)
   exact Zv (by simp) ⟨WJ _ _ _ hl,c0z _ _ (by omega),a2t x 0 _ _ _ 0 _ _ rfl rfl (fun _=>h3.2) (by omega)⟩
  ·exact Zu (by simpa using he) (Gd (Um x he))
 ·exact c0q ⟨_,_,rfl,CF 0,rfl⟩
 ·cases h
theorem c3a: ∀ args os,ZZ args os=true->Zf Vw os.length (ZC os.length XQ fun r=> ∃ p p',r.1 = .pv p∧Sub p p'∧Js args os=(.pv p',r.2)) XV [] (ZN d3o args os):=by
 intro args os h
 unfold ZZ at h
 split at h
 ·rename_i p err
  obtain⟨x,rfl,hl⟩:=Yg h
  rw[Rh]
  show Zf Vw 1 (ZC 1 XQ (GLn (Zp x err))) XV [] _
  refine d6k x err ?_
  by_cases he:err=0
  ·subst he
   have h1:=ZX (-1000000) 1000000 2 x 0
   rw[ZM,ZM,UF]
   generalize Zc (-1000000) 1000000 2 x 0=a at h1 ⊢
   have h2:=ZX (-9223372036854775808) 9223372036854775807 2 a.2.1 a.2.2
   have hg:=KZ (lo:= -9223372036854775808) (hi:=9223372036854775807) (e:=2) (x:=a.2.1) (err:=a.2.2) (by decide)
   have hb:=Ch (lo:= -9223372036854775808) (hi:=9223372036854775807) (e:=2) (x:=a.2.1) (err:=a.2.2) (by decide)
   have key:(Zc (-9223372036854775808) 9223372036854775807 2 a.2.1 a.2.2).2.2≠0->Zc 0 12 3 a.2.1 a.2.2=Zc (-9223372036854775808) 9223372036854775807 2 a.2.1 a.2.2:=by
    intro hne
    unfold Zc at hne ⊢
    by_cases h0:a.2.2≠0
    ·rw[if_pos h0,if_pos h0]
    ·rw[if_neg h0]at hne
     rw[if_neg h0,if_neg h0]
     cases hw:Yh a.2.1 with
     | none=>rfl
     | some q=>
      obtain⟨n,r⟩:=q
      have hr:=Gm hw
      rw[hw]at hne
      simp only[if_neg (show ¬ (n < -9223372036854775808∨n>9223372036854775807) by omega)]at hne
      exact absurd rfl hne
   have key2:(Zc (-9223372036854775808) 9223372036854775807 2 a.2.1 a.2.2).2.2=0->Zc 0 12 3 a.2.1 a.2.2=if (Zc (-9223372036854775808) 9223372036854775807 2 a.2.1 a.2.2).1<0∨(Zc (-9223372036854775808) 9223372036854775807 2 a.2.1 a.2.2).1>12 then(0,a.2.1,3)else Zc (-9223372036854775808) 9223372036854775807 2 a.2.1 a.2.2:=by
    intro hz
    obtain⟨e0,_,_,hw⟩:=hg hz
    have e3:=a8b hz
    generalize Zc (-9223372036854775808) 9223372036854775807 2 a.2.1 a.2.2=b at hw e3 ⊢
    unfold Zc
    rw[if_neg (by rw[e0];simp),hw,e3]
   generalize Zc (-9223372036854775808) 9223372036854775807 2 a.2.1 a.2.2=b at h2 hb key key2 ⊢
   refine Zv (by simp) ⟨WJ _ _ _ hl,WJ _ _ _ (by omega),?_⟩
   by_cases hz:b.2.2=0
   ·have k2:=key2 hz
    refine Zu (by simpa using hz) ?_
    by_cases n1:b.1<0
    ·rw[if_pos (.inl n1)]at k2
     rw[k2]
     have:=Jv x 0 a.1 b.1 b.1.toNat 0 b.2.1 3 rfl rfl (fun e=>by cases e) (by omega)
     rw[Uw (by decide),Ur (show(3:Int)≠0 by decide)]at this
     refine Zu (decide_eq_true n1) ?_
     rw[show Ym (0:Int).toNat a.2.1 3=([],a.2.1,3)from rfl,Ur (show(3:Int)≠0 by decide)]
     exact this
    ·refine Zv (fun e=>n1 (of_decide_eq_true e)) ?_
     by_cases n2:b.1>12
     ·rw[if_pos (.inr n2)]at k2
      rw[k2]
      have:=Jv x 0 a.1 b.1 b.1.toNat 0 b.2.1 3 rfl rfl (fun e=>by cases e) (by omega)
      rw[Uw (by decide),Ur (show(3:Int)≠0 by decide)]at this
      refine Zu (decide_eq_true n2) ?_
      rw[show Ym (0:Int).toNat a.2.1 3=([],a.2.1,3)from rfl,Ur (show(3:Int)≠0 by decide)]
      exact this
     ·rw[if_neg (by omega)]at k2
      rw[k2]
      exact Zv (fun e=>n2 (of_decide_eq_true e)) (Jv x 0 a.1 b.1 b.1.toNat 0 b.2.1 b.2.2 rfl rfl (fun _=>by omega) (by omega))
   ·rw[key hz]
    exact Zv (by simpa using hz) (Jv x 0 a.1 b.1 b.1.toNat 0 b.2.1 b.2.2 rfl rfl (fun e=>absurd e hz) (by omega))
  ·exact Zu (by simpa using he) (Gd (Um x he))
 ·exact d3k ⟨_,_,rfl,CF 0,rfl⟩
 ·cases h
end Go.Pl
namespace Go.Pl
open Go.RowKit
theorem VI{lo hi e:Int}{x:List UInt8}{err:Int}(he:e≠0)(h:(Zc lo hi e x err).2.2=0):err=0∧x=encI (Zc lo hi e x err).1++(Zc lo hi e x err).2.1∧lo<=(Zc lo hi e x err).1∧(Zc lo hi e x err).1<=hi:=by
 obtain⟨h0,h1,h2,h3⟩:=KZ he h
 exact⟨h0,(Gm h3).1,h1,h2⟩
theorem a4e{x:List UInt8}{err:Int}(h:(Zh 30 x err).2.2=0):err=0∧x=encS (Zh 30 x err).1++(Zh 30 x err).2.1:=by
 have hb:=VI (lo:=0) (hi:=30) (e:=3) (x:=x) (err:=0) (by decide)
 unfold Zh at h ⊢
 by_cases h0:err≠0
 ·rw[if_pos h0]at h;exact absurd h h0
 ·rw[if_neg h0]at h
  rw[if_neg h0]
  refine⟨by omega,?_⟩
  unfold VJ at h ⊢
  generalize Zc 0 30 3 x 0=r at h hb ⊢
  obtain⟨n,y,e⟩:=r
  simp only at h hb ⊢
  by_cases he:e=0
  ·subst he
   obtain⟨_,hx,hn,_⟩:=hb rfl
   simp only[ne_eq,not_true_eq_false,if_false]at h ⊢
   by_cases hc:n>(y.length:Int)
   ·simp[hc]at h
   ·simp only[if_neg hc,ne_eq,not_true_eq_false,if_false]at h ⊢
    have hl:(y.take n.toNat).length=n.toNat:=by rw[List.length_take];omega
    unfold encS
    rw[hl,Int.toNat_of_nonneg hn,List.append_assoc,List.take_append_drop]
    exact hx
  ·simp[he]at h
theorem Sj: ∀ (n:Nat) {x:List UInt8} {e:Int},(Ym n x e).2.2=0->e=0∧x=(Ym n x e).1.flatMap UJ++(Ym n x e).2.1∧(Ym n x e).1.length=n
 | 0,x,e,h=>⟨h,rfl,rfl⟩
 | n+1,x,e,h=>by
  rw[Ym]at h ⊢
  by_cases h0:e≠0
  ·rw[if_pos h0]at h;exact absurd h h0
  ·rw[if_neg h0]at h
   rw[if_neg h0]
   simp only at h ⊢
   obtain⟨c0,hx,hl⟩:=Sj n h
   obtain⟨v0,hc,_,_⟩:=VI (by decide) c0
   obtain⟨_,hv⟩:=a4e v0
   refine⟨by omega,?_,by rw[List.length_cons,hl]⟩
   rw[List.flatMap_cons]
   have:UJ ⟨⟨(Zh 30 x 0).1⟩,(Zc (-1000000) 1000000 2 (Zh 30 x 0).2.1 (Zh 30 x 0).2.2).1⟩=encS (Zh 30 x 0).1++encI (Zc (-1000000) 1000000 2 (Zh 30 x 0).2.1 (Zh 30 x 0).2.2).1:=rfl
   rw[this,List.append_assoc,List.append_assoc,<- hx,<- hc,<- hv]
theorem RB: ∀ (n:Nat) (x:List UInt8) (e:Int),(Ym n x e).1.length<=n
 | 0,x,e=>Nat.le_refl _
 | n+1,x,e=>by
  rw[Ym]
  split
  ·exact Nat.zero_le _
  ·have:=RB n (Zc (-1000000) 1000000 2 (Zh 30 x 0).2.1 (Zh 30 x 0).2.2).2.1 (Zc (-1000000) 1000000 2 (Zh 30 x 0).2.1 (Zh 30 x 0).2.2).2.2
   simp only[List.length_cons]
   omega
theorem b3d(k:Int)(x:List UInt8)(ts:List Coef)(c:List Coef×List UInt8×Int):(WZ k x ts c).1.t.length<=(ts++c.1).length:=by
 unfold WZ
 generalize (if c.2.2=0∧Zm ⟨k,ts++c.1⟩=false then(4:Int)else c.2.2)=e
 split
 ·exact Nat.le_refl _
 ·exact Nat.zero_le _
theorem a6x(x:List UInt8)(err:Int):(Zp x err).1.t.length<=12:=by
 by_cases h:err=0
 ·subst h
  rw[UF]
  have h:=RB (Zc 0 12 3 (Zc (-1000000) 1000000 2 x 0).2.1 (Zc (-1000000) 1000000 2 x 0).2.2).1.toNat (Zc 0 12 3 (Zc (-1000000) 1000000 2 x 0).2.1 (Zc (-1000000) 1000000 2 x 0).2.2).2.1 (Zc 0 12 3 (Zc (-1000000) 1000000 2 x 0).2.1 (Zc (-1000000) 1000000 2 x 0).2.2).2.2
  have h2:=Q4 (lo:=0) (hi:=12) (e:=3) (x:=(Zc (-1000000) 1000000 2 x 0).2.1) (err:=(Zc (-1000000) 1000000 2 x 0).2.2) (by decide) (by decide) (by decide)
  refine Nat.le_trans (b3d _ _ _ _) ?_
  rw[List.nil_append]
  omega
 ·rw[Um x h];exact Nat.zero_le _
theorem ER{x:List UInt8}(h:(Zp x 0).2.2=0):ZV (Zp x 0).1++(Zp x 0).2.1=x:=by
 rw[UF]at h ⊢
 generalize ha:Zc (-1000000) 1000000 2 x 0=a at h ⊢
 generalize hb:Zc 0 12 3 a.2.1 a.2.2=b at h ⊢
 generalize hc:Ym b.1.toNat b.2.1 b.2.2=c at h ⊢
 by_cases hz:c.2.2=0
 ·cases hv:Zm ⟨a.1,[]++c.1⟩
  ·rw[Bh hz hv]at h;exact absurd h (show(4:Int)≠0 by decide)
  ·rw[G9 hz hv]
   rw[<- hc]at hz
   obtain⟨b0,hx,hl⟩:=Sj _ hz
   rw[<- hb]at b0
   obtain⟨a0,hy,n0,n1⟩:=VI (by decide) b0
   rw[<- ha]at a0
   obtain⟨_,hw,_,_⟩:=VI (by decide) a0
   rw[ha]at hw
   rw[hb]at hy n0
   rw[hc]at hx hl
   show ZV ⟨a.1,c.1⟩++c.2.1=x
   unfold ZV
   simp only[List.append_assoc]
   rw[hw,<- hx]
   rw[show((c.1.length:Nat):Int)=b.1 by omega,<- hy,<- hw]
 ·rw[Ur hz]at h
  exact absurd h hz
end Go.Pl
namespace Go.Pl
open Go.RowKit
open Enc (enc dec is)
open EncL (encL decL isL)
set_option maxRecDepth 100000
theorem c9g{G:AV×List AObj×List AObj->Prop}(x:List UInt8)(n:Int)(h:(VQ [(.pv (.sl 1 false (List.map enc x)))] [])=true∧((Vl 5 [(.row 0 (List.length (Za (enc x))) 0 (List.length (Za (enc x)))),(.pv (.int .i64 n))] [(.row false 5 1 (List.map enc (Za (enc x))))])=true∧(G (((.row 0 (List.length (Za (enc x))+List.length (encI n)) 0 (List.length (Za (enc x))+List.length (encI n))),([],[(.row false 5 1 (List.map enc (Za (enc x))++List.map enc (encI n)))])))))):Zf Bw 0 (Zj 0 Hm G) Gb [] (ZN 9 [.pv (enc x),.pv (.int .i64 n)] []):=Zf.to (.req (.keep (.req (.keep (.nil))))) h (by kernel_rfl)
end Go.Pl
namespace Go.Pl
open Go.RowKit
open Enc (enc dec is)
open EncL (encL decL isL)
theorem b3y: ∀ args os,Wy args os=true->Zf Bw os.length (Zj os.length Hm fun r=>r=WC 5 args os) Gb [] (ZN a9m args os):=by
 intro args os h
 unfold Wy at h
 split at h
 ·rename_i p n
  simp only[Bool.and_eq_true,decide_eq_true_eq]at h
  obtain⟨hc,hl⟩:=h
  obtain⟨x,rfl⟩:=XX hc
  rw[Zz]at hl
  have hv:WC 5 [AV.pv (enc x),AV.pv (PV.int IntKind.i64 n)] []=(.row 0 (x++encI n).length 0 (x++encI n).length,[],[.row false 5 1 ((x++encI n).map enc)]):=by
   show(AV.row 0 (Za (enc x)++encI n).length 0 _,_,_)=_
   rw[Zz]
  rw[hv]
  refine c9g x n ⟨F5 x hl,?_⟩
  rw[Zz]
  exact⟨Re x n rfl hl,DR (by rw[List.length_append]) (by rw[List.map_append])⟩
 ·cases h
def a1p(tb:Nat):List AV->List AObj->Bool
 | [.row 0 q 0 q',.pv (.int .i64 n)],[.row fz ty 1 xs]=>ty==tb&&Aq xs&&xs.length==q&&q'==q&&decide (q<=9000000)
 | _,_=>false
theorem a9x{pre:List AV->List AObj->Bool}{val:List AV->List AObj->AV×List AObj×List AObj}{a b:PV}{o o':AObj}{n:Nat}(h1:pre [.pv a,.pv b] []=true)(h2:val [.pv a,.pv b] []=(.row 0 n 0 n,[],[o']))(h3:o'.ren (Pd [] 1)=some o'):
  (Jc 1 pre val [.pv a,.pv b]).run [.obj o,.fresh]=some (.row 1 n 0 n,[.obj o,.obj o']):=by
 have H : ∀ (t:Bool) (v:AV×List AObj×List AObj),t=true->v=(.row 0 n 0 n,[],[o'])->(HM.req t (match v with
   | (x,os,ext)=>match x.ren (Pd [] 1),VR (Pd [] 1) os,VR (Pd [] 1) ext with
    | some x',some os',some ext'=>if os'.length=([]:List Nat).length then Dm (([]:List Nat).zip os') (GG 1 ext' (.ret x'))else .fail
    | _,_,_=>.fail)).run [.obj o,.fresh]=some (.row 1 n 0 n,[.obj o,.obj o']):=by
  rintro _ _ rfl rfl
  simp only[VR,h3]
  rfl
 exact H _ _ h1 h2
theorem b7z{pre:List AV->List AObj->Bool}{val:List AV->List AObj->AV×List AObj×List AObj}{a b:PV}{o':AObj}{n:Nat}(h1:pre [.pv a,.pv b] []=true)(h2:val [.pv a,.pv b] []=(.row 0 n 0 n,[],[o']))(h3:o'.ren (Pd [] 0)=some o'):
  (Jc 0 pre val [.pv a,.pv b]).run [.fresh]=some (.row 0 n 0 n,[.obj o']):=by
 have H : ∀ (t:Bool) (v:AV×List AObj×List AObj),t=true->v=(.row 0 n 0 n,[],[o'])->(HM.req t (match v with
   | (x,os,ext)=>match x.ren (Pd [] 0),VR (Pd [] 0) os,VR (Pd [] 0) ext with
    | some x',some os',some ext'=>if os'.length=([]:List Nat).length then Dm (([]:List Nat).zip os') (GG 0 ext' (.ret x'))else .fail
    | _,_,_=>.fail)).run [.fresh]=some (.row 0 n 0 n,[.obj o']):=by
  rintro _ _ rfl rfl
  simp only[VR,h3]
  rfl
 exact H _ _ h1 h2
theorem c0s{P:Program}{f tb:Nat}(h:ZA P f Wy (WC tb)):ZA P f (a1p tb) (JM tb):=by
 refine ZA.thaw h fun args os hp=> ?_
 unfold a1p at hp
 split at hp
 ·rename_i q q' n fz ty xs
  simp only[Bool.and_eq_true,decide_eq_true_eq,beq_iff_eq]at hp
  obtain⟨⟨⟨⟨rfl,hc⟩,rfl⟩,rfl⟩,hq⟩:=hp
  obtain⟨y,rfl⟩:=CO hc
  have e2:(PV.sl 1 false (List.drop 0 (List.take (List.map (enc:UInt8->PV) y).length (List.map enc y))))=enc y:=by rw[List.take_of_length_le (Nat.le_refl _),List.drop_zero];rfl
  have hv:JM ty [.row 0 (List.map (enc:UInt8->PV) y).length 0 (List.map (enc:UInt8->PV) y).length,.pv (.int .i64 n)] [.row fz ty 1 (List.map enc y)]=(.row 1 (y++encI n).length 0 (y++encI n).length,[.row true ty 1 (y.map enc)],[.row false ty 1 ((y++encI n).map enc)]):=by
   show(AV.row 1 (Za (PV.sl 1 false (List.map enc y))++encI n).length 0 _,_,_)=_
   rw[show Za (PV.sl 1 false (List.map enc y))=y from Zz y]
  have hv2:WC ty [.pv (enc y),.pv (.int .i64 n)] []=(.row 0 (y++encI n).length 0 (y++encI n).length,[],[.row false ty 1 ((y++encI n).map enc)]):=by
   show(AV.row 0 (Za (enc y)++encI n).length 0 _,_,_)=_
   rw[Zz]
  rw[hv]
  refine⟨1,[enc y,.int .i64 n],[enc y,.int .i64 n],[.obj (.row true ty 1 (y.map enc)),.fresh],.row 1 (y++encI n).length 0 (y++encI n).length,[.obj (.row true ty 1 (y.map enc)),.obj (.row false ty 1 ((y++encI n).map enc))],.row 1 (y++encI n).length 0 (y++encI n).length,[.row true ty 1 (y.map enc),.row false ty 1 ((y++encI n).map enc)],UE.rfl _,?_,?_,?_,rfl⟩
  ·rw[<- e2]
   simp[Uf,frz,HM.bind,HM.run,Yr,HM.req]
  ·refine a9x ?_ hv2 rfl
   show(QV (List UInt8) (enc y)&&decide ((Za (enc y)).length<=9000000))=true
   rw[YD,Zz]
   rw[List.length_map]at hq
   exact decide_eq_true hq
  ·rfl
 ·cases hp
theorem c0w{P:Program}{f tb:Nat}(h:ZA P f Wy (WC tb)):ZA P f (QF tb) (JM tb):=by
 have h2:=c0s h
 intro args os x os' ext hp hval
 unfold QF at hp
 split at hp
 ·exact h _ _ x os' ext hp hval
 ·exact h2 _ _ x os' ext hp hval
 ·cases hp
theorem a8l{tb:Nat}{x:List UInt8}(n:Int)(h:x.length<=9000000):QF tb [.pv (.sl 1 false (List.map enc x)),.pv (.int .i64 n)] []=true:=by
 show(QV (List UInt8) (enc x)&&decide ((Za (enc x)).length<=9000000))=true
 rw[YD,Zz];exact decide_eq_true h
end Go.Pl
namespace Go.Pl
open Go.RowKit
open Enc (enc dec is)
open EncL (encL decL isL)
set_option maxRecDepth 100000
end Go.Pl
namespace Go.Pl
open Go.RowKit
open Enc (enc dec is)
open EncL (encL decL isL)
theorem FY(x y:List UInt8):preT (fun(x:List UInt8×List UInt8×Unit)=>true) [(.sl 1 false (List.map enc x)),(.sl 1 false (List.map enc y))]=true:=Zo (α:=List UInt8×List UInt8×Unit) (x,y,()) rfl rfl
theorem c2r(x:List UInt8):List.drop 0 (List.take x.length (List.map (enc:UInt8->PV) x))=x.map enc:=by rw[List.take_of_length_le (by simp),List.drop_zero]
end Go.Pl
