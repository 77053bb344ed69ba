/-
  Texts of mine that belong together (packed by pack.py), for every input: QL7, GL9, QL9, GRa, QGc, GLb, GLa, QLa, QLb, GLc, QLc, QLm, TyR, GLr, QRp, QRq, TyE, GLh, QLf, GLi, QLi, QLj, GLx, QLx, GL4, GLz, QLz, QL8, GL0, QL0, QRb, QRc, TyQ, GLu, GLt, QRs, GL5, QL5, QRt, GLk, QLk, QRu, QRv, TyP, GLv, GLm, GLn, QLo, QRw, QLi4, QLs4, TyZ0, TyCm, TyTa, GUb, GQc, GQa, QQa, GQb, QQb, QQc, QUb, GQd, TyMq, QQd, TyMb, GQe, QQe, TyYa, TyYb, GYa, QYa, TyYc, TyYd, GYb, QYb, TyTb, PlOt, GUe, QUe, GUf, QUf, TyTc, TyTs, TyYe, TyYf, TyTz, GYc, TyGp, QYt, QYc, QYd, QYe, TyYl, GYl, QYl, TyYm, GYd, TyYo, TyYn, TyYp, QYm, QYn, GYe, TyYq, QYp, GYv, QYv, QYw, TyJi.
-/
import Derived.Test.YtapeiomhajfpgaaGreatDoorChecked
import Derived.Test.YtapeiomhajfpgaaGreatDoorKZ2
import Derived.Test.YtapeiomhajfpgaaGreatDoorKZ3
import Derived.KernelRfl
import Derived.Lib.ItoaLen
import Derived.Lib.Strings
set_option linter.unusedVariables false
set_option linter.unusedSimpArgs false
namespace Go.Pl
open Go.RowKit
open Enc (enc dec is)
open EncL (encL decL isL)
theorem M4{s:List UInt8}{i:Nat}(h:i<s.length):List.getD (Zt s) (Int.toNat (i:Int)) default = .int .u8 (s[i].toNat:Int):=by
 simp[Zt,List.getD,h]
theorem Ul(s:List UInt8):(Zt s).length=s.length:=by simp[Zt]
def F7(c:UInt8):Bool:=lowB c||digB c
theorem NJ{c:UInt8}:lowB c=true ↔ 97<=c.toNat∧c.toNat<=122:=by
 simp only[lowB,Bool.and_eq_true,decide_eq_true_eq,UInt8.le_iff_toNat_le]
 have b:(97:UInt8).toNat=97:=rfl
 have a:(122:UInt8).toNat=122:=rfl
 rw[b,a]
theorem K3{c:UInt8}(h : ¬ (97<=c.toNat∧c.toNat<=122)):lowB c=false:=by
 cases e:lowB c
 ·rfl
 ·exact absurd (NJ.1 e) h
theorem Je{c:UInt8}(h : ¬ (48<=c.toNat∧c.toNat<=57)):digB c=false:=by
 cases e:digB c
 ·rfl
 ·exact absurd (XZ.1 e) h
def Xv(s:List UInt8)(i:Nat):Bool:=(match i with|0=>(match s with|[]=>true|c::r=>lowB c&&r.all F7)|i+1=>(s.drop (i+1)).all F7)&&(!(s==[]))&&decide (s.length<=30)
theorem TU{s:List UInt8}{i:Nat}(h:i<s.length)(hb:lowB s[i]=true∨(i≠0∧digB s[i]=true)):Xv s i=Xv s (i+1):=by
 cases i with
 | zero=>
  cases s with
  | nil=>simp at h
  | cons c r=>
   rcases hb with hb|hb
   ·have hb:lowB c=true:=hb
    simp[Xv,hb]
   ·exact absurd rfl hb.1
 | succ i=>
  unfold Xv
  simp only
  rw[List.drop_eq_getElem_cons h,List.all_cons]
  have:F7 s[i+1]=true:=by
   rcases hb with hb|hb
   ·simp[F7,hb]
   ·simp[F7,hb.2]
  rw[this,Bool.true_and]
theorem SK{s:List UInt8}{i:Nat}(h:i<s.length)(hb:lowB s[i]=false∧(i=0∨digB s[i]=false)):Xv s i=false:=by
 cases i with
 | zero=>
  cases s with
  | nil=>simp at h
  | cons c r=>
   have hb:lowB c=false:=hb.1
   simp[Xv,hb]
 | succ i=>
  unfold Xv
  simp only
  rw[List.drop_eq_getElem_cons h,List.all_cons]
  have:F7 s[i+1]=false:=by
   rcases hb.2 with h0|h0
   ·cases h0
   ·simp[F7,hb.1,h0]
  rw[this];simp
theorem Ov(s:List UInt8)(hs:s.length<=1000000): ∀ (m i:Nat),m+i=s.length->At WV 0 (Za X7 (Zk (Xv s i))) XH 0 67 [(0,.pv (.str s)),(34,.pv (.sl 1 false (Zt s))),(35,.pv (.int .i64 (Zt s).length)),(36,.pv (.int .i64 i))] []:=by
 intro m
 induction m with
 | zero=>
  intro i hi
  have e:Xv s i=(!(s==[])&&decide (s.length<=30)):=by
   unfold Xv
   cases i with
   | zero=>cases s with
    | nil=>rfl
    | cons c r=>simp at hi
   | succ i=>simp only;rw[List.drop_of_length_le (show s.length<=i+1 by omega)];simp
  rw[e]
  refine FJ s i (Y1 (XQ (by rw[Ul];omega)) (ZW (fun h=>ZG ?_) fun h=>ZG ?_))
  ·rw[h,Bool.true_and];exact decide_eq_decide.2 (by omega)
  ·rw[h,Bool.false_and]
 | succ m ih=>
  intro i hi
  have b:i<s.length:=by omega
  have h:=ih (i+1) (by omega)
  refine FJ s i ?_
  rw[M4 b,next (by omega)]
  have a:(lowB s[i]=false∧(i=0∨digB s[i]=false))->Zk (Xv s i) (.bool false):=fun hb=>ZG (SK b hb).symm
  have go:(lowB s[i]=true∨(i≠0∧digB s[i]=true))->At WV 0 (Za X7 (Zk (Xv s i))) XH 0 67 [(0,.pv (.str s)),(34,.pv (.sl 1 false (Zt s))),(35,.pv (.int .i64 (Zt s).length)),(36,.pv (.int .i64 ((i+1:Nat):Int)))] []:=fun hb=>by rw[TU b hb];exact h
  have g:lowB s[i]=false->(if ((i:Int)==0)=true then Zk (Xv s i) (.bool false)else if decide ((s[i].toNat:Int)<48)=true then Zk (Xv s i) (.bool false)else if decide ((s[i].toNat:Int)>57)=true then Zk (Xv s i) (.bool false)else At WV 0 (Za X7 (Zk (Xv s i))) XH 0 67 [(0,.pv (.str s)),(34,.pv (.sl 1 false (Zt s))),(35,.pv (.int .i64 (Zt s).length)),(36,.pv (.int .i64 ((i+1:Nat):Int)))] []):=by
   intro j
   refine Z7 (fun k=>a ⟨j,.inl (by omega)⟩) fun k=>Y4 (fun h1=>a ⟨j,.inr (Je (by omega))⟩) fun h1=>Y4 (fun h2=>a ⟨j,.inr (Je (by omega))⟩) fun h2=>go (.inr ⟨by omega,XZ.2 (by omega)⟩)
  refine YP (Xp (by rw[Ul];exact b)) ⟨by rw[Ul];simp[b],by rfl,?_⟩
  refine Y4 (fun h1=>g (K3 ?_)) fun h1=>Y4 (fun h2=>g (K3 ?_)) fun h2=>go (.inl (NJ.2 ?_))
  ·have h1:(s[i].toNat:Int)<97:=h1
   omega
  ·have h2:(s[i].toNat:Int)>122:=h2
   omega
  ·have h1 : ¬ (s[i].toNat:Int)<97:=h1
   have h2 : ¬ (s[i].toNat:Int)>122:=h2
   omega
theorem Tk{s:List UInt8}(h:[95].isPrefixOf s=false):Yo ⟨s⟩=Xv s 0:=by
 cases s with
 | nil=>rfl
 | cons c r=>
  have hc : ¬ c=95:=by intro e;subst e;simp at h
  have e:decide ((c::r).length<=30)=decide (r.length<=29):=decide_eq_decide.2 (by simp)
  unfold Xv
  rw[e]
  simp only[Yo,if_neg hc]
  show _=(lowB c&&r.all F7&& !((c::r)==[])&&_)
  have a:((c::r)==[])=false:=rfl
  rw[a]
  simp only[Bool.not_false,Bool.and_true]
  rfl
theorem BS(s:Str): -9223372036854775808<=(Yg s).1∧((Yg s).1<=9223372036854775807):=by
 unfold Yg
 split
 ·rename_i v a;exact Lib.atoiAll_bounds a
 ·have:=Lib.atoiSat_bounds s.s
  exact⟨by show _<=Lib.atoiSat s.s;omega,by show Lib.atoiSat s.s<=_;omega⟩
 ·exact⟨by show(-9223372036854775808:Int)<=0;omega,by show(0:Int)<=_;omega⟩
theorem b0d: ∀ a:Str×Unit,decide (a.1.s.length<=1000000)=true->Zb WV 0 (Za X7 (Zk (Yo a.1))) XH [] (Yh c1w (encL a)):=by
 rintro⟨⟨s⟩,⟨⟩⟩ b
 have b:s.length<=1000000:=by simpa using b
 refine c7d s (Zc (⟨s⟩,⟨[95]⟩,()) rfl (ZW (fun h=> ?_) fun h=> ?_))
 ·have h:[95].isPrefixOf s=true:=h
  obtain⟨r,rfl⟩ : ∃ r,s=95::r:=by
   cases s with
   | nil=>simp at h
   | cons c r=>
    have:95=c:=by simpa using h
    exact⟨r,by rw[this]⟩
  have e:List.drop (Int.toNat 1) (List.take (List.length (95::r)) (95::r))=r:=by rw[List.take_of_length_le (Nat.le_refl _)];rfl
  simp only[e]
  refine⟨by simp,Zf (⟨r⟩,()) rfl (by simp at b ⊢;omega),Zc (⟨r⟩,()) rfl ⟨by show(Jh (enc (Yg ⟨r⟩).2)&&true)=true;rw[d1x];rfl,?_⟩⟩
  show if XP (enc (Yg ⟨r⟩).2)=true then(if decide ((Yg ⟨r⟩).1>0)=true then(if _ then _ else Zk (Yo ⟨95::r⟩) _)else Zk (Yo ⟨95::r⟩) _)else Zk (Yo ⟨95::r⟩) _
  rw[Mj]
  by_cases h9:r.length<=9
  ·rw[<- a5y r h9,decide_eq_true h9,Bool.and_true]
   refine ZW (fun h1=>ZW (fun h2=>YP (by simp;omega) ⟨Zf ((Yg ⟨r⟩).1,()) rfl (by have:=BS ⟨r⟩;simp;omega),Zc ((Yg ⟨r⟩).1,()) rfl ⟨by simp,ZG ?_⟩⟩) fun h2=>ZG ?_) fun h1=>ZG ?_
   ·rw[h1,h2];simp only[Bool.true_and,Bool.and_true];rfl
   ·rw[h2];simp
   ·rw[h1];simp
  ·rw[decide_eq_false h9,Bool.and_false]
   refine ZW (fun h1=>ZW (fun h2=>Y1 (by simp;omega) (ZG rfl)) fun h2=>ZG rfl) fun h1=>ZG rfl
 ·have h:[95].isPrefixOf s=false:=h
  show At WV 0 (Za X7 (Zk (Yo ⟨s⟩))) XH 0 67 _ _
  rw[Tk h]
  exact Ov s b s.length 0 (by omega)
theorem FX(l:Lin)(hl:l.t.length<=9223372036854775807)(hs:l.t.all (fun t=>decide (t.v.s.length<=1000000))=true): ∀ (j i:Nat),j+i=l.t.length->At VH 0 (Za WM (Zk (Dr (FM l.t i) (l.t.drop i)&&(ZT l.k&&decide (l.t.length<=12))))) WR 0 54 [(1,.ptr 0 0),(6,.pv (enc l.t)),(7,.pv (.int .i64 l.t.length)),(8,.pv (.int .i64 i))] [.obj (.box [.pv (.int .i64 l.k),.pv (enc l.t)])]:=by
 intro j
 induction j with
 | zero=>
  intro i hi
  refine TG l i (Y1 (XQ (by omega)) (Zc (l.k,()) rfl ?_))
  rw[List.drop_of_length_le (show l.t.length<=i by omega)]
  refine ZW (fun h=>ZG ?_) fun h=>ZG ?_
  ·have h:ZT l.k=true:=h
   rw[h]
   show _=(true&&(true&&_))
   rw[Bool.true_and,Bool.true_and]
   exact decide_eq_decide.2 (by simp;omega)
  ·have h:ZT l.k=false:=h
   rw[h];simp
 | succ j ih=>
  intro i hi
  have a:i<l.t.length:=by omega
  have h:=ih (i+1) (by omega)
  have e:l.t[i].v.s.length<=1000000:=by rw[List.all_eq_true]at hs;simpa using hs _ (List.getElem_mem a)
  refine TG l i ?_
  refine YP (Xp a) ⟨Xg a rfl,Wn a ⟨Zf (l.t[i].v,()) rfl (by simpa using e),Zc (l.t[i].v,()) rfl (YN (fun hn=> ?_) fun hn=>Z7 (fun hc=> ?_) fun hc=>Zc (l.t[i].c,()) rfl (YN (fun b=> ?_) fun b=> ?_))⟩⟩
  all_goals rw[List.drop_eq_getElem_cons a,Kr]
  ·have hn:Yo l.t[i].v=false:=hn
   exact ZG (by simp[hn])
  ·have hc:l.t[i].c=0:=hc
   exact ZG (by simp[hc])
  ·have b:ZT l.t[i].c=false:=b
   exact ZG (by simp[b])
  have hn:Yo l.t[i].v=true:=hn
  have b:ZT l.t[i].c=true:=b
  have hc:l.t[i].c≠0:=hc
  rw[next (by omega),hn,b,decide_eq_true hc]
  have r:FM l.t (i+1)=some l.t[i].v.s:=by simp[FM,a]
  rw[r]at h
  cases i with
  | zero=>exact Y1 (by simp) h
  | succ i=>
   refine YP (by simp) ?_
   rw[NK (by omega)]
   refine⟨Xg (by omega) rfl,Wn (by omega) ?_⟩
   have q:FM l.t (i+1)=some l.t[i].v.s:=by simp[FM,show i<l.t.length by omega]
   rw[q]
   refine YN (fun hb=> ?_) fun hb=> ?_
   all_goals
    have g:=(YH l.t[i].v.s l.t[i+1].v.s).symm.trans hb
    simp only[g,Bool.and_true,Bool.true_and,Bool.and_false,Bool.false_and]
   ·exact ZG rfl
   ·exact h
theorem a0m: ∀ a:Lin×Unit,Zp a.1=true->Zb VH 0 (Za WM (Zk (Zd a.1))) WR [] (Yh b0y (encL a)):=by
 rintro⟨l,⟨⟩⟩ hl
 simp only[Zp,Yn,Bool.and_eq_true,decide_eq_true_eq]at hl
 refine c3l l ?_
 show At VH 0 (Za WM (Zk (Zd l))) WR 0 54 _ _
 have e:Zd l=(Dr (FM l.t 0) (l.t.drop 0)&&(ZT l.k&&decide (l.t.length<=12))):=by rw[AU,Bool.and_comm];rfl
 rw[e,List.length_map]
 exact FX l hl.1 hl.2 l.t.length 0 (by omega)
theorem c4t: ∀ a:Int×Unit,true=true->Zb d2i 0 (Za b7b (Zk (⟨a.1,[]⟩:Lin))) b8b [] (Yh d5p (encL a)):=by
 rintro⟨n,⟨⟩⟩ -
 exact e5i n ⟨by simp,by simp⟩
set_option maxRecDepth 100000
abbrev e5k(ps:List PV)(k:Int×Er->Prop):Prop:=Um (fun(x:Str×Unit)=>decide (List.length (Str.s (Prod.fst x))<=281474976710656)) (fun(x:Str×Unit)=>Yg (Prod.fst x)) ps k
abbrev e5m(ps:List PV)(k:Str->Prop):Prop:=Um (fun(x:Int×Unit)=>decide ((-9223372036854775808:Int)<=Prod.fst x)&&decide (Prod.fst x<=9223372036854775807)) (fun(x:Int×Unit)=>DR (Prod.fst x)) ps k
-- IMPOSSIBLE
noncomputable def Xw:IC:=XH
def Xo:List IRes:=[(.tmp 2)]
abbrev a9y:Nat:=67
def X8:ZC:=YG [(108,.pure (preT (fun _:Str×Str×Unit=>true)) (Zm (fun x:Str×Str×Unit=>x.2.1.s.isPrefixOf x.1.s))),(109,.pure (preT (fun x:Str×Unit=>decide (x.1.s.length<=281474976710656))) (Zm (fun x:Str×Unit=>Yg x.1))),(110,.pure (preT (fun x:Int×Unit=>decide (-9223372036854775808<=x.1)&&decide (x.1<=9223372036854775807))) (Zm (fun x:Int×Unit=>DR x.1)))]
theorem c2a{G:PV->Prop}(s:List UInt8)(h : ∃ b:Bool,AV.pv (Zm (fun(x:Str×Str×Unit)=>List.isPrefixOf (Str.s x.2.1) (Str.s x.1)) [(.str s),(.str [(95:UInt8)])])=AV.pv (enc b)∧(if (b)=true then(decide (0<=1)&&true&&decide (Int.toNat 1<=List.length s)&&decide (List.length s<=List.length s))=true∧((e5k [(.str (List.drop (Int.toNat 1) (List.take (List.length s) s)))] fun a=>((Jh (enc a.2)&&Prod.fst (true,PV.bool (XP (enc a.2))))=true∧(if (XP (enc a.2))=true then if (decide (a.1>0))=true then if (decide ((↑(List.length s):Int)<=10))=true then(e5m [(.int .i64 a.1)] fun e=>((decide (0<=1)&&true&&decide (Int.toNat 1<=List.length s)&&decide (List.length s<=List.length s))=true∧(G ((.bool (Str.s e==List.drop (Int.toNat 1) (List.take (List.length s) s)))))))else(G ((.bool false)))else(G ((.bool false)))else(G ((.bool false)))))))else(At X8 0 (Za Xo G) Xw 0 67 [(0,(.pv (.str s))),(34,(.pv (.sl 1 false (Zt s)))),(35,(.pv (.int .i64 (↑(List.length (Zt s)):Int)))),(36,(.pv (.int .i64 0)))] []))):Zb X8 0 (Za Xo G) Xw [] (Yh 67 [.str s]):=Zb.tp (dm [dv Bool,dv (Int×Er),dv Str] 70 0x2222222222220222222222022222022212271200a4222201842220294161103e452) h
theorem SY{G:PV->Prop}(s:List UInt8)(i:Int)(h:if (decide (i<(↑(List.length (Zt s)):Int)))=true then(decide (0<=i)&&decide (Int.toNat i<List.length (Zt s))&&1==1)=true∧((decide (0+List.length [Sh.int IntKind.u8]<=List.length (PV.cells (List.getD (Zt s) (Int.toNat i) default)))&&X6 (PV.cells (List.getD (Zt s) (Int.toNat i) default)) 0 [Sh.int IntKind.u8])=true∧(if (decide (PV.asInt (List.getD (PV.cells (List.getD (Zt s) (Int.toNat i) default)) 0 default)<97))=true then if (i==0)=true then G ((.bool false))else(if (decide (PV.asInt (List.getD (PV.cells (List.getD (Zt s) (Int.toNat i) default)) 0 default)<48))=true then G ((.bool false))else(if (decide (PV.asInt (List.getD (PV.cells (List.getD (Zt s) (Int.toNat i) default)) 0 default)>57))=true then G ((.bool false))else(At X8 0 (Za Xo G) Xw 0 67 [(0,(.pv (.str s))),(34,(.pv (.sl 1 false (Zt s)))),(35,(.pv (.int .i64 (↑(List.length (Zt s)):Int)))),(36,(.pv (.int .i64 (IntKind.wrap IntKind.i64 (i+1)))))] [])))else(if (decide (PV.asInt (List.getD (PV.cells (List.getD (Zt s) (Int.toNat i) default)) 0 default)>122))=true then if (i==0)=true then G ((.bool false))else(if (decide (PV.asInt (List.getD (PV.cells (List.getD (Zt s) (Int.toNat i) default)) 0 default)<48))=true then G ((.bool false))else(if (decide (PV.asInt (List.getD (PV.cells (List.getD (Zt s) (Int.toNat i) default)) 0 default)>57))=true then G ((.bool false))else(At X8 0 (Za Xo G) Xw 0 67 [(0,(.pv (.str s))),(34,(.pv (.sl 1 false (Zt s)))),(35,(.pv (.int .i64 (↑(List.length (Zt s)):Int)))),(36,(.pv (.int .i64 (IntKind.wrap IntKind.i64 (i+1)))))] [])))else(At X8 0 (Za Xo G) Xw 0 67 [(0,(.pv (.str s))),(34,(.pv (.sl 1 false (Zt s)))),(35,(.pv (.int .i64 (↑(List.length (Zt s)):Int)))),(36,(.pv (.int .i64 (IntKind.wrap IntKind.i64 (i+1)))))] []))))else(if (!s==[])=true then G ((.bool (decide ((↑(List.length s):Int)<=30))))else(G ((.bool false))))):At X8 0 (Za Xo G) Xw 0 67 [(0,.pv (.str s)),(34,.pv (.sl 1 false (Zt s))),(35,.pv (.int .i64 (Zt s).length)),(36,.pv (.int .i64 i))] []:=At.tp (dm [] 137 0x22202222005420222222220200014222220222220064222220222222222200b422202d42220200014222220222220064222220222222222200b42222220304213107542) h
theorem Mt(s:List UInt8)(hs:s.length<=281474976710656): ∀ (m i:Nat),m+i=s.length->At X8 0 (Za Xo (Zk (Xv s i))) Xw 0 67 [(0,.pv (.str s)),(34,.pv (.sl 1 false (Zt s))),(35,.pv (.int .i64 (Zt s).length)),(36,.pv (.int .i64 i))] []:=by
 intro m
 induction m with
 | zero=>
  intro i hi
  have e:Xv s i=(!(s==[])&&decide (s.length<=30)):=by
   unfold Xv
   cases i with
   | zero=>cases s with
    | nil=>rfl
    | cons c r=>simp at hi
   | succ i=>simp only;rw[List.drop_of_length_le (show s.length<=i+1 by omega)];simp
  rw[e]
  refine SY s i (Y1 (XQ (by rw[Ul];omega)) (ZW (fun h=>ZG ?_) fun h=>ZG ?_))
  ·rw[h,Bool.true_and];exact decide_eq_decide.2 (by omega)
  ·rw[h,Bool.false_and]
 | succ m ih=>
  intro i hi
  have b:i<s.length:=by omega
  have h:=ih (i+1) (by omega)
  refine SY s i ?_
  rw[M4 b,next (by omega)]
  have a:(lowB s[i]=false∧(i=0∨digB s[i]=false))->Zk (Xv s i) (.bool false):=fun hb=>ZG (SK b hb).symm
  have go:(lowB s[i]=true∨(i≠0∧digB s[i]=true))->At X8 0 (Za Xo (Zk (Xv s i))) Xw 0 67 [(0,.pv (.str s)),(34,.pv (.sl 1 false (Zt s))),(35,.pv (.int .i64 (Zt s).length)),(36,.pv (.int .i64 ((i+1:Nat):Int)))] []:=fun hb=>by rw[TU b hb];exact h
  have g:lowB s[i]=false->(if ((i:Int)==0)=true then Zk (Xv s i) (.bool false)else if decide ((s[i].toNat:Int)<48)=true then Zk (Xv s i) (.bool false)else if decide ((s[i].toNat:Int)>57)=true then Zk (Xv s i) (.bool false)else At X8 0 (Za Xo (Zk (Xv s i))) Xw 0 67 [(0,.pv (.str s)),(34,.pv (.sl 1 false (Zt s))),(35,.pv (.int .i64 (Zt s).length)),(36,.pv (.int .i64 ((i+1:Nat):Int)))] []):=by
   intro j
   refine Z7 (fun k=>a ⟨j,.inl (by omega)⟩) fun k=>Y4 (fun h1=>a ⟨j,.inr (Je (by omega))⟩) fun h1=>Y4 (fun h2=>a ⟨j,.inr (Je (by omega))⟩) fun h2=>go (.inr ⟨by omega,XZ.2 (by omega)⟩)
  refine YP (Xp (by rw[Ul];exact b)) ⟨by rw[Ul];simp[b],by rfl,?_⟩
  refine Y4 (fun h1=>g (K3 ?_)) fun h1=>Y4 (fun h2=>g (K3 ?_)) fun h2=>go (.inl (NJ.2 ?_))
  ·have h1:(s[i].toNat:Int)<97:=h1
   omega
  ·have h2:(s[i].toNat:Int)>122:=h2
   omega
  ·have h1 : ¬ (s[i].toNat:Int)<97:=h1
   have h2 : ¬ (s[i].toNat:Int)>122:=h2
   omega
theorem a0h: ∀ a:Str×Unit,decide (a.1.s.length<=281474976710656)=true->Zb X8 0 (Za Xo (Zk (Yo a.1))) Xw [] (Yh a9y (encL a)):=by
 rintro⟨⟨s⟩,⟨⟩⟩ b
 have b:s.length<=281474976710656:=by simpa using b
 refine c2a s (Zc (⟨s⟩,⟨[95]⟩,()) rfl (ZW (fun h=> ?_) fun h=> ?_))
 ·have h:[95].isPrefixOf s=true:=h
  obtain⟨r,rfl⟩ : ∃ r,s=95::r:=by
   cases s with
   | nil=>simp at h
   | cons c r=>
    have:95=c:=by simpa using h
    exact⟨r,by rw[this]⟩
  have e:List.drop (Int.toNat 1) (List.take (List.length (95::r)) (95::r))=r:=by rw[List.take_of_length_le (Nat.le_refl _)];rfl
  simp only[e]
  refine⟨by simp,Zf (⟨r⟩,()) rfl (by simp at b ⊢;omega),Zc (⟨r⟩,()) rfl ⟨by show(Jh (enc (Yg ⟨r⟩).2)&&true)=true;rw[d1x];rfl,?_⟩⟩
  show if XP (enc (Yg ⟨r⟩).2)=true then(if decide ((Yg ⟨r⟩).1>0)=true then(if _ then _ else Zk (Yo ⟨95::r⟩) _)else Zk (Yo ⟨95::r⟩) _)else Zk (Yo ⟨95::r⟩) _
  rw[Mj]
  by_cases h9:r.length<=9
  ·rw[<- a5y r h9,decide_eq_true h9,Bool.and_true]
   refine ZW (fun h1=>ZW (fun h2=>YP (by simp;omega) ⟨Zf ((Yg ⟨r⟩).1,()) rfl (by have:=BS ⟨r⟩;simp;omega),Zc ((Yg ⟨r⟩).1,()) rfl ⟨by simp,ZG ?_⟩⟩) fun h2=>ZG ?_) fun h1=>ZG ?_
   ·rw[h1,h2];simp only[Bool.true_and,Bool.and_true];rfl
   ·rw[h2];simp
   ·rw[h1];simp
  ·rw[decide_eq_false h9,Bool.and_false]
   refine ZW (fun h1=>ZW (fun h2=>Y1 (by simp;omega) (ZG rfl)) fun h2=>ZG rfl) fun h1=>ZG rfl
 ·have h:[95].isPrefixOf s=false:=h
  show At X8 0 (Za Xo (Zk (Yo ⟨s⟩))) Xw 0 67 _ _
  rw[Tk h]
  exact Mt s b s.length 0 (by omega)
noncomputable def UQ:IC:=XG Proofs.Tryz.f151
def UM:List IRes:=[]
abbrev c6p:Nat:=39
def Kn:ZC:=YG []
theorem d8r{G:AV×List AObj×List AObj->Prop}(n:Int)(m:List (Str×Int))(l:Lin)(k:Int)(h:At Kn 2 (Zv 2 UM G) UQ 0 39 [(0,(.ptr 0 0)),(2,(.pv (.int .i64 k))),(20,(.pv (.sl 2 false (List.map enc l.t)))),(21,(.pv (.int .i64 (↑(List.length (List.map enc l.t)):Int)))),(22,(.pv (.int .i64 0)))] [(.obj (.box [(.pv (.int .i64 (IntKind.wrap IntKind.i64 (n+IntKind.wrap IntKind.i64 (k*l.k))))),(.map 1)])),(.obj (.map (ZN m)))]):Zb Kn 2 (Zv 2 UM G) UQ [] (Ya 39 [.ptr 0 0,.pv (enc l),.pv (.int .i64 k)] [.box [.pv (.int .i64 n),.map 1],.map (ZN m)]):=Zb.to (.lit (.lit (.nil))) h
theorem a5m{G:AV×List AObj×List AObj->Prop}(n:Int)(m:List (Str×Int))(l:Lin)(k:Int)(i:Int)(h:if (decide (i<(↑(List.length l.t):Int)))=true then(decide (0<=i)&&decide (Int.toNat i<List.length (List.map enc l.t))&&Enc.sz Coef==2)=true∧(∃ a:Coef,AV.pv (PV.rptr (PV.cells (List.getD (List.map enc l.t) (Int.toNat i) default)))=AV.pv (PV.rptr (PV.cells ((enc) a)))∧((JD (Sh.co Sh.str (List.getD (PV.cells (enc a)) 0 default)) (ZN m)&&Sh.fit (Sh.int .i64) (XI (Sh.co Sh.str (List.getD (PV.cells (enc a)) 0 default)) (PV.int .i64 0) (ZN m)))=true∧((d1s (Sh.co Sh.str (List.getD (PV.cells (enc a)) 0 default)) (PV.int .i64 (IntKind.wrap IntKind.i64 (PV.asInt (XI (Sh.co Sh.str (List.getD (PV.cells (enc a)) 0 default)) (PV.int .i64 0) (ZN m))+IntKind.wrap IntKind.i64 (k*PV.asInt (List.getD (PV.cells (enc a)) (0+1) default))))) (ZN m))=true∧(At Kn 2 (Zv 2 UM G) UQ 0 39 [(0,(.ptr 0 0)),(2,(.pv (.int .i64 k))),(20,(.pv (.sl 2 false (List.map enc l.t)))),(21,(.pv (.int .i64 (↑(List.length l.t):Int)))),(22,(.pv (.int .i64 (IntKind.wrap IntKind.i64 (i+1)))))] [(.obj (.box [(.pv (.int .i64 n)),(.map 1)])),(.obj (.map (a8b (Sh.co Sh.str (List.getD (PV.cells (enc a)) 0 default)) (PV.int .i64 (IntKind.wrap IntKind.i64 (PV.asInt (XI (Sh.co Sh.str (List.getD (PV.cells (enc a)) 0 default)) (PV.int .i64 0) (ZN m))+IntKind.wrap IntKind.i64 (k*PV.asInt (List.getD (PV.cells (enc a)) (0+1) default))))) (ZN m))))]))))else(G (((.tup []),([(.box [(.pv (.int .i64 n)),(.map 1)]),(.map (ZN m))],[]))))):At Kn 2 (Zv 2 UM G) UQ 0 39 [(0,.ptr 0 0),(2,.pv (.int .i64 k)),(20,.pv (enc l.t)),(21,.pv (.int .i64 l.t.length)),(22,.pv (.int .i64 i))] [.obj (.box [.pv (.int .i64 n),.map 1]),.obj (.map (ZN m))]:=At.to (dm [dr Coef] 17 0x21223125100a42) h
def VQ:IC:=(Kb [YJ 25 (Ka 7) 0,YJ 26 (Fe .neq (.t 25) (UW 0)) 0] (.cond (.t 26) (.reg [YJ 27 (Ka 5) 0,YJ 28 (Ka 6) 0,YJ 29 (.bslice 9 1 1 (.str []) [(0,(.t 28))]) 0,YJ 30 (.append 9 1 16 (.t 27) (.t 29)) 1,YJ 5 (Ka 30) 2] none) .skip))
def UD:List IRes:=[]
def KX:ZC:=YG [(182,.own Vq Uj),(43,.pure (preT (fun x:Lin×Unit=>Zp x.1)) (Zm (fun x:Lin×Unit=>Zd x.1)))]
theorem b8e{G:AV×List AObj×List AObj->Prop}(E:XU)(n:Int)(s:List UInt8)(c:Int)(h:if (c != 0)=true then E 99 ⟨Xa 58 0 [(0,(.ptr 0 0)),(2,(.ptr 2 0)),(4,(.ptr 3 0)),(5,(.row 5 1 0 1)),(18,(.map 1)),(19,(.ptr 4 0))],[(.obj (.box [(.pv (.int .i64 n)),(.map 1)])),.dead,(.obj (.box [(.pv (.int .i64 0)),(.pv (.sl 0 true []))])),(.obj (.box [(.pv (.int .i64 n)),(.pv (.sl 0 true []))])),.dead,(.obj (.row false 9 1 [(.str s)]))]⟩ (fun x a=>AfX KX E 5 (Zv 5 UD G) VQ 99 x a)else(E 99 ⟨Xa 58 0 [(0,(.ptr 0 0)),(2,(.ptr 2 0)),(4,(.ptr 3 0)),(5,(.pv (.sl 0 true []))),(18,(.map 1)),(19,(.ptr 4 0))],[(.obj (.box [(.pv (.int .i64 n)),(.map 1)])),.dead,(.obj (.box [(.pv (.int .i64 0)),(.pv (.sl 0 true []))])),(.obj (.box [(.pv (.int .i64 n)),(.pv (.sl 0 true []))])),.dead]⟩ (fun x a=>AfX KX E 5 (Zv 5 UD G) VQ 99 x a))):Yu KX E 5 (Zv 5 UD G) (.inl VQ) [.blk 1,.seq (.ext 99 [0,2,4,5,18,19])] ⟨Xa 58 0 [(0,.ptr 0 0),(2,.ptr 2 0),(4,.ptr 3 0),(5,.pv (.sl 0 true [])),(6,.pv (.str s)),(7,.pv (.int .i64 c)),(18,.map 1),(19,.ptr 4 0),(22,.pv (.tup [.str s,.int .i64 c])),(23,.pv (.str s)),(24,.pv (.int .i64 c))],[.obj (.box [.pv (.int .i64 n),.map 1]),.dead,.obj (.box [.pv (.int .i64 0),.pv (.sl 0 true [])]),.obj (.box [.pv (.int .i64 n),.pv (.sl 0 true [])]),.dead]⟩:=Yu.mo (dm [] 13 0x2222200642) h
theorem b6n{G:AV×List AObj×List AObj->Prop}(E:XU)(n:Int)(s:List UInt8)(c:Int)(l:Nat)(xs:List (List UInt8))(h:if (c != 0)=true then(List.length (List.map PV.str xs)==l&&l==l&&decide ((l+List.length (List.drop 0 (List.take 1 [PV.str s])))*16<=1099511627776)&&decide (l+List.length (List.drop 0 (List.take 1 [PV.str s]))<=1099511627776))=true∧(E 99 ⟨Xa 58 0 [(0,(.ptr 0 0)),(2,(.ptr 2 0)),(4,(.ptr 3 0)),(5,(.row 5 (l+List.length (List.drop 0 (List.take 1 [PV.str s]))) 0 (l+List.length (List.drop 0 (List.take 1 [PV.str s]))))),(18,(.map 1)),(19,(.ptr 4 0))],[(.obj (.box [(.pv (.int .i64 n)),(.map 1)])),.dead,(.obj (.box [(.pv (.int .i64 0)),(.pv (.sl 0 true []))])),(.obj (.box [(.pv (.int .i64 n)),(.pv (.sl 0 true []))])),.dead,(.obj (.row false 9 1 (List.map PV.str xs++List.drop 0 (List.take 1 [PV.str s]))))]⟩ (fun x a=>AfX KX E 6 (Zv 6 UD G) VQ 99 x a))else(E 99 ⟨Xa 58 0 [(0,(.ptr 0 0)),(2,(.ptr 2 0)),(4,(.ptr 3 0)),(5,(.row 5 l 0 l)),(18,(.map 1)),(19,(.ptr 4 0))],[(.obj (.box [(.pv (.int .i64 n)),(.map 1)])),.dead,(.obj (.box [(.pv (.int .i64 0)),(.pv (.sl 0 true []))])),(.obj (.box [(.pv (.int .i64 n)),(.pv (.sl 0 true []))])),.dead,(.obj (.row false 9 1 (List.map PV.str xs)))]⟩ (fun x a=>AfX KX E 6 (Zv 6 UD G) VQ 99 x a))):Yu KX E 6 (Zv 6 UD G) (.inl VQ) [.blk 1,.seq (.ext 99 [0,2,4,5,18,19])] ⟨Xa 58 0 [(0,.ptr 0 0),(2,.ptr 2 0),(4,.ptr 3 0),(5,.row 5 l 0 l),(6,.pv (.str s)),(7,.pv (.int .i64 c)),(18,.map 1),(19,.ptr 4 0),(22,.pv (.tup [.str s,.int .i64 c])),(23,.pv (.str s)),(24,.pv (.int .i64 c))],[.obj (.box [.pv (.int .i64 n),.map 1]),.dead,.obj (.box [.pv (.int .i64 0),.pv (.sl 0 true [])]),.obj (.box [.pv (.int .i64 n),.pv (.sl 0 true [])]),.dead,.obj (.row false 9 1 (xs.map .str))]⟩:=Yu.mo (dm [] 11 0x12200442) h
noncomputable def Xl:IC:=icx b1r Proofs.Tryz.f152
def Xm:List IRes:=[(.cell true 2 2),(.tmp 3)]
abbrev c8d:Nat:=58
def Xy:ZC:=YG [(182,.own Vq Uj),(43,.pure (preT (fun x:Lin×Unit=>Zp x.1)) (Zm (fun x:Lin×Unit=>Zd x.1)))]
theorem d4t{G:AV×List AObj×List AObj->Prop}(E:XU)(n:Int)(m:List (Str×Int))(h:E 0 ⟨Xa 58 0 [(0,(.ptr 0 0)),(2,(.ptr 2 0)),(4,(.ptr 3 0)),(5,(.pv (.sl 0 true []))),(6,.undef),(7,.undef),(15,.undef),(16,.undef),(17,.undef),(18,.undef),(19,.undef),(20,.undef),(21,.undef),(22,.undef),(23,.undef),(24,.undef),(25,.undef),(26,.undef),(27,.undef),(28,.undef),(29,.undef),(30,.undef)],[(.obj (.box [(.pv (.int .i64 n)),(.map 1)])),(.obj (.map (ZN m))),(.obj (.box [(.pv (.int .i64 0)),(.pv (.sl 0 true []))])),(.obj (.box [(.pv (.int .i64 n)),(.pv (.sl 0 true []))]))]⟩ (fun x a=>AfX Xy E 2 (Zv 2 Xm G) Xl 0 x a)):Yu Xy E 2 (Zv 2 Xm G) (.inl Xl) [] (Ya 58 [.ptr 0 0] [.box [.pv (.int .i64 n),.map 1],.map (ZN m)]):=Yu.mo (.nil) h
-- IMPOSSIBLE
theorem b4t{G:AV×List AObj×List AObj->Prop}(E:XU)(n:Int)(m:List (Str×Int))(i:Int)(h:if (decide (i<0))=true then(decide (0<=i)&&decide (Int.toNat i<List.length ([]:List PV))&&0==1)=true∧(False)else(∃ a:Bool,AV.pv (Zm (fun(x:Lin×Unit)=>Zd x.1) [(.agg [(.int .i64 n),(.sl 0 true [])])])=AV.pv (enc a)∧(if (!a)=true then G (((.tup [(.pv (.agg [(.int .i64 0),(.sl 0 true [])])),(.pv (.int .i64 3))]),([(.box [(.pv (.int .i64 n)),(.map 1)]),(.map (ZN m))],[])))else(G (((.tup [(.pv (.agg [(.int .i64 n),(.sl 0 true [])])),(.pv (.int .i64 0))]),([(.box [(.pv (.int .i64 n)),(.map 1)]),(.map (ZN m))],[]))))))):AtM Xy E 2 (Zv 2 Xm G) Xl 0 58 [(0,.ptr 0 0),(2,.ptr 2 0),(4,.ptr 3 0),(33,.pv (.sl 0 true [])),(34,.pv (.int .i64 0)),(35,.pv (.int .i64 i))] [.obj (.box [.pv (.int .i64 n),.map 1]),.obj (.map (ZN m)),.obj (.box [.pv (.int .i64 0),.pv (.sl 0 true [])]),.obj (.box [.pv (.int .i64 n),.pv (.sl 0 true [])])]:=Yu.mo (dm [dv Bool] 18 0x1452023100442) h
theorem b3a{G:AV×List AObj×List AObj->Prop}(E:XU)(n:Int)(m:List (Str×Int))(l:Nat)(xs:List (List UInt8))(i:Int)(h:if (decide (i<(↑l:Int)))=true then(decide (0<=i)&&decide (0+Int.toNat i<l)&&List.length (List.map PV.str xs)==l)=true∧((List.length (List.map PV.str xs)==l&&decide (0+Int.toNat i<List.length (List.map PV.str xs)))=true∧((decide (0+List.length [Sh.str]<=List.length (PV.cells (List.getD (List.map PV.str xs) (0+Int.toNat i) default)))&&X6 (PV.cells (List.getD (List.map PV.str xs) (0+Int.toNat i) default)) 0 [Sh.str])=true∧((JD (Sh.co Sh.str (List.getD (PV.cells (List.getD (List.map PV.str xs) (0+Int.toNat i) default)) 0 default)) (ZN m)&&Sh.fit (Sh.int .i64) (XI (Sh.co Sh.str (List.getD (PV.cells (List.getD (List.map PV.str xs) (0+Int.toNat i) default)) 0 default)) (PV.int .i64 0) (ZN m)))=true∧(AtM Xy E 2 (Zv 2 Xm G) Xl 0 58 [(0,(.ptr 0 0)),(2,(.ptr 2 0)),(4,(.ptr 3 0)),(33,(.row 4 l 0 l)),(34,(.pv (.int .i64 (↑l:Int)))),(35,(.pv (.int .i64 (IntKind.wrap IntKind.i64 (i+1)))))] [(.obj (.box [(.pv (.int .i64 n)),(.map 1)])),(.obj (.map (ZN m))),(.obj (.box [(.pv (.int .i64 0)),(.pv (.sl 0 true []))])),(.obj (.box [(.pv (.int .i64 n)),(.row 5 1 0 1)])),(.obj (.row false 9 1 (List.map PV.str xs))),(.obj (.row false 116 2 [(.agg [(.str (PV.asStr (List.getD (PV.cells (List.getD (List.map PV.str xs) (0+Int.toNat i) default)) 0 default))),(.int .i64 (PV.asInt (XI (Sh.co Sh.str (List.getD (PV.cells (List.getD (List.map PV.str xs) (0+Int.toNat i) default)) 0 default)) (PV.int .i64 0) (ZN m))))])]))]))))else(∃ a:Bool,AV.pv (Zm (fun(x:Lin×Unit)=>Zd x.1) [(.agg [(.int .i64 n),(.sl 0 true [])])])=AV.pv (enc a)∧(if (!a)=true then G (((.tup [(.pv (.agg [(.int .i64 0),(.sl 0 true [])])),(.pv (.int .i64 3))]),([(.box [(.pv (.int .i64 n)),(.map 1)]),(.map (ZN m))],[])))else(G (((.tup [(.pv (.agg [(.int .i64 n),(.sl 0 true [])])),(.pv (.int .i64 0))]),([(.box [(.pv (.int .i64 n)),(.map 1)]),(.map (ZN m))],[]))))))):AtM Xy E 2 (Zv 2 Xm G) Xl 0 58 [(0,.ptr 0 0),(2,.ptr 2 0),(4,.ptr 3 0),(33,.row 4 l 0 l),(34,.pv (.int .i64 l)),(35,.pv (.int .i64 i))] [.obj (.box [.pv (.int .i64 n),.map 1]),.obj (.map (ZN m)),.obj (.box [.pv (.int .i64 0),.pv (.sl 0 true [])]),.obj (.box [.pv (.int .i64 n),.pv (.sl 0 true [])]),.obj (.row false 9 1 (xs.map .str))]:=Yu.mo (dm [dv Bool] 27 0x1452022222231113100d42) h
theorem Lj{G:AV×List AObj×List AObj->Prop}(E:XU)(n:Int)(m:List (Str×Int))(l:Nat)(xs:List (List UInt8))(i:Int)(q:Nat)(ts:List Coef)(h:if (decide (i<(↑l:Int)))=true then(decide (0<=i)&&decide (0+Int.toNat i<l)&&List.length (List.map PV.str xs)==l)=true∧((List.length (List.map PV.str xs)==l&&decide (0+Int.toNat i<List.length (List.map PV.str xs)))=true∧((decide (0+List.length [Sh.str]<=List.length (PV.cells (List.getD (List.map PV.str xs) (0+Int.toNat i) default)))&&X6 (PV.cells (List.getD (List.map PV.str xs) (0+Int.toNat i) default)) 0 [Sh.str])=true∧((JD (Sh.co Sh.str (List.getD (PV.cells (List.getD (List.map PV.str xs) (0+Int.toNat i) default)) 0 default)) (ZN m)&&Sh.fit (Sh.int .i64) (XI (Sh.co Sh.str (List.getD (PV.cells (List.getD (List.map PV.str xs) (0+Int.toNat i) default)) 0 default)) (PV.int .i64 0) (ZN m)))=true∧((List.length (List.map enc ts)==q&&q==q&&decide ((q+List.length (List.drop 0 (List.take 1 [PV.agg [Sh.co Sh.str (List.getD (PV.cells (List.getD (List.map PV.str xs) (0+Int.toNat i) default)) 0 default),if false=true then PV.tup [Sh.co (Sh.int .i64) (XI (Sh.co Sh.str (List.getD (PV.cells (List.getD (List.map PV.str xs) (0+Int.toNat i) default)) 0 default)) (PV.int .i64 0) (ZN m)),PV.bool (Vs (Sh.co Sh.str (List.getD (PV.cells (List.getD (List.map PV.str xs) (0+Int.toNat i) default)) 0 default)) (ZN m))]else Sh.co (Sh.int .i64) (XI (Sh.co Sh.str (List.getD (PV.cells (List.getD (List.map PV.str xs) (0+Int.toNat i) default)) 0 default)) (PV.int .i64 0) (ZN m))]])))*24<=1099511627776)&&decide (q+List.length (List.drop 0 (List.take 1 [PV.agg [Sh.co Sh.str (List.getD (PV.cells (List.getD (List.map PV.str xs) (0+Int.toNat i) default)) 0 default),if false=true then PV.tup [Sh.co (Sh.int .i64) (XI (Sh.co Sh.str (List.getD (PV.cells (List.getD (List.map PV.str xs) (0+Int.toNat i) default)) 0 default)) (PV.int .i64 0) (ZN m)),PV.bool (Vs (Sh.co Sh.str (List.getD (PV.cells (List.getD (List.map PV.str xs) (0+Int.toNat i) default)) 0 default)) (ZN m))]else Sh.co (Sh.int .i64) (XI (Sh.co Sh.str (List.getD (PV.cells (List.getD (List.map PV.str xs) (0+Int.toNat i) default)) 0 default)) (PV.int .i64 0) (ZN m))]]))<=1099511627776))=true∧(AtM Xy E 2 (Zv 2 Xm G) Xl 0 58 [(0,(.ptr 0 0)),(2,(.ptr 2 0)),(4,(.ptr 3 0)),(33,(.row 4 l 0 l)),(34,(.pv (.int .i64 (↑l:Int)))),(35,(.pv (.int .i64 (IntKind.wrap IntKind.i64 (i+1)))))] [(.obj (.box [(.pv (.int .i64 n)),(.map 1)])),(.obj (.map (ZN m))),(.obj (.box [(.pv (.int .i64 0)),(.pv (.sl 0 true []))])),(.obj (.box [(.pv (.int .i64 n)),(.row 5 (q+List.length (List.drop 0 (List.take 1 [PV.agg [Sh.co Sh.str (List.getD (PV.cells (List.getD (List.map PV.str xs) (0+Int.toNat i) default)) 0 default),if false=true then PV.tup [Sh.co (Sh.int .i64) (XI (Sh.co Sh.str (List.getD (PV.cells (List.getD (List.map PV.str xs) (0+Int.toNat i) default)) 0 default)) (PV.int .i64 0) (ZN m)),PV.bool (Vs (Sh.co Sh.str (List.getD (PV.cells (List.getD (List.map PV.str xs) (0+Int.toNat i) default)) 0 default)) (ZN m))]else Sh.co (Sh.int .i64) (XI (Sh.co Sh.str (List.getD (PV.cells (List.getD (List.map PV.str xs) (0+Int.toNat i) default)) 0 default)) (PV.int .i64 0) (ZN m))]]))) 0 (q+List.length (List.drop 0 (List.take 1 [PV.agg [Sh.co Sh.str (List.getD (PV.cells (List.getD (List.map PV.str xs) (0+Int.toNat i) default)) 0 default),if false=true then PV.tup [Sh.co (Sh.int .i64) (XI (Sh.co Sh.str (List.getD (PV.cells (List.getD (List.map PV.str xs) (0+Int.toNat i) default)) 0 default)) (PV.int .i64 0) (ZN m)),PV.bool (Vs (Sh.co Sh.str (List.getD (PV.cells (List.getD (List.map PV.str xs) (0+Int.toNat i) default)) 0 default)) (ZN m))]else Sh.co (Sh.int .i64) (XI (Sh.co Sh.str (List.getD (PV.cells (List.getD (List.map PV.str xs) (0+Int.toNat i) default)) 0 default)) (PV.int .i64 0) (ZN m))]]))))])),(.obj (.row false 9 1 (List.map PV.str xs))),(.obj (.row false 116 2 (List.map enc ts++List.drop 0 (List.take 1 [PV.agg [Sh.co Sh.str (List.getD (PV.cells (List.getD (List.map PV.str xs) (0+Int.toNat i) default)) 0 default),if false=true then PV.tup [Sh.co (Sh.int .i64) (XI (Sh.co Sh.str (List.getD (PV.cells (List.getD (List.map PV.str xs) (0+Int.toNat i) default)) 0 default)) (PV.int .i64 0) (ZN m)),PV.bool (Vs (Sh.co Sh.str (List.getD (PV.cells (List.getD (List.map PV.str xs) (0+Int.toNat i) default)) 0 default)) (ZN m))]else Sh.co (Sh.int .i64) (XI (Sh.co Sh.str (List.getD (PV.cells (List.getD (List.map PV.str xs) (0+Int.toNat i) default)) 0 default)) (PV.int .i64 0) (ZN m))]]))))])))))else((List.length (List.map enc ts)==q)=true∧((Go.Pl.preT (fun(x:Lin×Unit)=>Zp x.1) [(.agg [(.int .i64 n),(.sl 2 false (List.drop 0 (List.take q (List.map enc ts))))])])=true∧(∃ a:Bool,AV.pv (Zm (fun(x:Lin×Unit)=>Zd x.1) [(.agg [(.int .i64 n),(.sl 2 false (List.drop 0 (List.take q (List.map enc ts))))])])=AV.pv (enc a)∧(if (!a)=true then G (((.tup [(.pv (.agg [(.int .i64 0),(.sl 0 true [])])),(.pv (.int .i64 3))]),([(.box [(.pv (.int .i64 n)),(.map 1)]),(.map (ZN m))],[])))else(G (((.tup [(.agg [(.pv (.int .i64 n)),(.row 2 q 0 q)]),(.pv (.int .i64 0))]),([(.box [(.pv (.int .i64 n)),(.map 1)]),(.map (ZN m))],[(.row true 116 2 (List.map enc ts))]))))))))):AtM Xy E 2 (Zv 2 Xm G) Xl 0 58 [(0,.ptr 0 0),(2,.ptr 2 0),(4,.ptr 3 0),(33,.row 4 l 0 l),(34,.pv (.int .i64 l)),(35,.pv (.int .i64 i))] [.obj (.box [.pv (.int .i64 n),.map 1]),.obj (.map (ZN m)),.obj (.box [.pv (.int .i64 0),.pv (.sl 0 true [])]),.obj (.box [.pv (.int .i64 n),.row 5 q 0 q]),.obj (.row false 9 1 (xs.map .str)),.obj (.row false 116 2 (ts.map enc))]:=Yu.mo (dm [dv Bool] 26 0x145110212231113100b42) h
theorem c2y{G:AV×List AObj×List AObj->Prop}(E:XU)(n:Int)(m:List (Str×Int))(h:AtM Xy E 2 (Zv 2 Xm G) Xl 0 58 [(0,(.ptr 0 0)),(2,(.ptr 2 0)),(4,(.ptr 3 0)),(33,(.pv (.sl 0 true []))),(34,(.pv (.int .i64 0))),(35,(.pv (.int .i64 0)))] [(.obj (.box [(.pv (.int .i64 n)),(.map 1)])),(.obj (.map (ZN m))),(.obj (.box [(.pv (.int .i64 0)),(.pv (.sl 0 true []))])),(.obj (.box [(.pv (.int .i64 n)),(.pv (.sl 0 true []))]))]):AfX Xy E 2 (Zv 2 Xm G) Xl 0 .normal ⟨Xa 58 0 [(0,.ptr 0 0),(2,.ptr 2 0),(4,.ptr 3 0),(5,.pv (.sl 0 true [])),(18,.map 1),(19,.ptr 4 0)],[.obj (.box [.pv (.int .i64 n),.map 1]),.obj (.map (ZN m)),.obj (.box [.pv (.int .i64 0),.pv (.sl 0 true [])]),.obj (.box [.pv (.int .i64 n),.pv (.sl 0 true [])]),.dead]⟩:=Yu.mo (.lit (.keep (.nil))) h
theorem b5o{G:AV×List AObj×List AObj->Prop}(E:XU)(n:Int)(m:List (Str×Int))(l:Nat)(xs:List (List UInt8))(h:(Vq [(.row 0 l 0 l)] [(.row false 9 1 (List.map PV.str xs))])=true∧(AtM Xy E 2 (Zv 2 Xm G) Xl 0 58 [(0,(.ptr 0 0)),(2,(.ptr 2 0)),(4,(.ptr 3 0)),(33,(.row 4 l 0 l)),(34,(.pv (.int .i64 (↑(l - 0):Int)))),(35,(.pv (.int .i64 0)))] [(.obj (.box [(.pv (.int .i64 n)),(.map 1)])),(.obj (.map (ZN m))),(.obj (.box [(.pv (.int .i64 0)),(.pv (.sl 0 true []))])),(.obj (.box [(.pv (.int .i64 n)),(.pv (.sl 0 true []))])),(.obj (.row false 9 1 (List.map PV.str (WX (List.map Rp (List.map PV.str xs))))))])):AfX Xy E 2 (Zv 2 Xm G) Xl 0 .normal ⟨Xa 58 0 [(0,.ptr 0 0),(2,.ptr 2 0),(4,.ptr 3 0),(5,.row 5 l 0 l),(18,.map 1),(19,.ptr 4 0)],[.obj (.box [.pv (.int .i64 n),.map 1]),.obj (.map (ZN m)),.obj (.box [.pv (.int .i64 0),.pv (.sl 0 true [])]),.obj (.box [.pv (.int .i64 n),.pv (.sl 0 true [])]),.dead,.obj (.row false 9 1 (xs.map .str))]⟩:=Yu.mo (.req (.keep (.nil))) h
def YD(m:List (Str×Int))(xs:List (List UInt8)):List Coef:=xs.map fun s=>⟨⟨s⟩,U0 m s⟩
def UK(n:Int)(m:List (Str×Int))(l:List Coef):AV×List AObj×List AObj:=
 if Zd ⟨n,l⟩then
  if l.isEmpty then(.tup [.pv (.agg [.int .i64 n,.sl 0 true []]),.pv (.int .i64 0)],[.box [.pv (.int .i64 n),.map 1],.map (ZN m)],[])
  else(.tup [.agg [.pv (.int .i64 n),.row 2 l.length 0 l.length],.pv (.int .i64 0)],[.box [.pv (.int .i64 n),.map 1],.map (ZN m)],[.row true 116 2 (l.map enc)])
 else(.tup [.pv (.agg [.int .i64 0,.sl 0 true []]),.pv (.int .i64 3)],[.box [.pv (.int .i64 n),.map 1],.map (ZN m)],[])
theorem b8y(n:Int)(m:List (Str×Int)){xs:List (List UInt8)}(hx:xs.length<=1000000)(b : ∀ x∈xs,x.length<=1000000):Zp ⟨n,YD m xs⟩=true:=by
 simp only[Zp,Yn,YD,List.length_map,Bool.and_eq_true,decide_eq_true_eq,List.all_eq_true,List.mem_map]
 refine⟨by omega,?_⟩
 rintro t ⟨x,a,rfl⟩
 exact b x a
theorem b8r{E:XU}(n:Int)(m:List (Str×Int))(xs:List (List UInt8))(u:xs.length<=1000000)(e : ∀ x∈xs,x.length<=1000000): ∀ (j k:Nat),j+k=xs.length->0<k ->
  AtM Xy E 2 (Zv 2 Xm fun r=>r=UK n m (YD m xs)) Xl 0 58 [(0,.ptr 0 0),(2,.ptr 2 0),(4,.ptr 3 0),(33,.row 4 xs.length 0 xs.length),(34,.pv (.int .i64 xs.length)),(35,.pv (.int .i64 k))]
   [.obj (.box [.pv (.int .i64 n),.map 1]),.obj (.map (ZN m)),.obj (.box [.pv (.int .i64 0),.pv (.sl 0 true [])]),.obj (.box [.pv (.int .i64 n),.row 5 k 0 k]),.obj (.row false 9 1 (xs.map .str)),.obj (.row false 116 2 ((YD m (xs.take k)).map enc))]:=by
 intro j
 induction j with
 | zero=>
  intro k y g
  obtain rfl:k=xs.length:=by omega
  refine Lj E n m xs.length xs xs.length xs.length (YD m (xs.take xs.length)) ?_
  rw[if_neg (by simp)]
  have z:YD m (xs.take xs.length)=YD m xs:=by rw[List.take_length]
  rw[z]
  have s:List.drop 0 (List.take xs.length (List.map (enc:Coef->PV) (YD m xs)))=(YD m xs).map enc:=by rw[List.drop_zero,List.take_of_length_le (by simp[YD])]
  rw[s]
  refine⟨by simp[YD],Zf (⟨n,YD m xs⟩,()) rfl (b8y n m u e),Zc (⟨n,YD m xs⟩,()) rfl ?_⟩
  have b:(YD m xs).isEmpty=false:=by cases xs <;> simp[YD]at g ⊢
  by_cases hv:Zd ⟨n,YD m xs⟩=true
  ·rw[if_neg (by simp[hv])]
   unfold UK
   rw[if_pos hv,b]
   simp[YD]
  ·rw[if_pos (by simpa using hv)]
   simp[UK,hv]
 | succ j ih=>
  intro k y g
  have a:k<xs.length:=by omega
  refine Lj E n m xs.length xs k k (YD m (xs.take k)) ?_
  rw[if_pos (by simp;omega)]
  have l:List.getD (List.map PV.str xs) (0+Int.toNat (k:Int)) default = .str xs[k]:=by simp[List.getD,a]
  rw[l]
  have q:Sh.co Sh.str (List.getD (PV.cells (.str xs[k])) 0 default) = .str xs[k]:=rfl
  rw[q,Dh]
  refine⟨by simp;omega,by simp;omega,rfl,by rw[JS];rfl,?_,?_⟩
  ·simp[YD];omega
  ·have h:=ih (k+1) (by omega) (by omega)
   have et:xs.take (k+1)=xs.take k++[xs[k]]:=by rw[List.take_add_one,List.getElem?_eq_getElem a];rfl
   rw[et]at h
   rw[next (by omega)]
   simp only[YD,List.map_append,List.map_cons,List.map_nil]at h ⊢
   exact h
def c3s:MapParts:=⟨[⟨(some 15),(.mv (.t 0)),0,none⟩,⟨(some 16),(.nilchk (.t 15)),0,none⟩,⟨(some 17),(.faddr 1 (.t 16)),0,none⟩,⟨(some 18),(.load false [.any] (.t 17)),0,none⟩],.t 18,19,20,21,22,1,[⟨(some 23),(.extract (.t 22) 0),0,none⟩,⟨(some 24),(.extract (.t 22) 1),0,none⟩,⟨(some 6),(.mv (.t 23)),0,none⟩,⟨(some 7),(.mv (.t 24)),0,none⟩],VQ⟩
def PZ:XU:=fun a st q=>a=0∧e0q Xy 2 c3s st q
def kz(a:List (PV×PV)):List (List UInt8):=a.filterMap fun p=>match p with|(.str s,.int _ c)=>if c=0 then none else some s|_=>none
def Qw(m:List (Str×Int)):List (List UInt8):=WX (kz (ZN m))
def d7n(n:Int):Zw:=[.obj (.box [.pv (.int .i64 n),.map 1]),.dead,.obj (.box [.pv (.int .i64 0),.pv (.sl 0 true [])]),.obj (.box [.pv (.int .i64 n),.pv (.sl 0 true [])]),.dead]
def Nt(x:AV):List AV:=Xa 58 0 [(0,.ptr 0 0),(2,.ptr 2 0),(4,.ptr 3 0),(5,x),(18,.map 1),(19,.ptr 4 0)]
def d8m(n:Int)(a:List (PV×PV))(s:St):Prop:=
 (kz a=[]∧s=⟨Nt (.pv (.sl 0 true [])),d7n n⟩)∨(kz a≠[]∧s=⟨Nt (.row 5 (kz a).length 0 (kz a).length),d7n n++[.obj (.row false 9 1 ((kz a).map .str))]⟩)
theorem a0b{a b:List (List UInt8)}(h:a.Perm b):WX a=WX b:=by
 have e : ∀ x y z:List UInt8,decide (x<=y)=true->decide (y<=z)=true->decide (x<=z)=true:=fun x y z h k=>by simp only[decide_eq_true_eq]at *;exact List.le_trans h k
 have to : ∀ x y:List UInt8,(decide (x<=y)||decide (y<=x))=true:=fun x y=>by simp only[Bool.or_eq_true,decide_eq_true_eq];exact List.le_total x y
 refine List.Perm.eq_of_pairwise (le:=fun x y=>decide (x<=y)=true) (fun x y _ _ h1 h2=> ?_) (List.pairwise_mergeSort e to a) (List.pairwise_mergeSort e to b) (((List.mergeSort_perm a _).trans h).trans (List.mergeSort_perm b _).symm)
 simp only[decide_eq_true_eq]at h1 h2
 exact List.le_antisymm h1 h2
theorem b1c(n:Int)(a:List (PV×PV))(s:List UInt8)(c:Int)(st:St)(hl:(kz a).length<1000000)(h:d8m n a st):
  ∃ g,VX Xy st.heap.length c3s.psE (grow ⟨((st.env.set 20 .junk).set 21 .junk).set 22 (.pv (.tup [.str s,.int .i64 c])),st.heap⟩ (news c3s.psE))=some g∧ ∃ j,(∀ x,¬ j x) ∧
   Yu Xy (fun l q _=>l=99∧d8m n (a++[(.str s,.int .i64 c)]) q) st.heap.length j (.inl VQ) [.blk 1,.seq (.ext 99 [0,2,4,5,18,19])] g:=by
 have e : ∀ k,∀ x,¬ Zv k UD (fun _=>False) x:=by rintro k x ⟨r,_,h⟩;exact h
 have b:kz (a++[(.str s,.int .i64 c)])=kz a++(if c=0 then []else [s]):=by
  unfold kz
  rw[List.filterMap_append]
  by_cases hc:c=0 <;> simp[hc]
 rcases h with ⟨h1,rfl⟩|⟨h1,rfl⟩
 ·refine⟨_,by kernel_rfl,_,e 5,b8e (G:=fun _=>False) _ n s c ?_⟩
  by_cases hc:c=0
  ·rw[if_neg (by simp[hc])]
   refine⟨rfl,.inl ⟨by rw[b,h1];simp[hc],rfl⟩⟩
  ·rw[if_pos (by simpa using hc)]
   refine⟨rfl,.inr ⟨by rw[b,h1];simp[hc],?_⟩⟩
   rw[b,h1]
   simp[hc]
   exact⟨rfl,rfl⟩
 ·refine⟨_,by kernel_rfl,_,e 6,b6n (G:=fun _=>False) _ n s c (kz a).length (kz a) ?_⟩
  by_cases hc:c=0
  ·rw[if_neg (by simp[hc])]
   refine⟨rfl,.inr ⟨by rw[b];simp[hc,h1],?_⟩⟩
   rw[b]
   simp[hc]
   exact⟨rfl,rfl⟩
  ·rw[if_pos (by simpa using hc)]
   refine⟨by simp;omega,rfl,.inr ⟨by rw[b];simp[hc],?_⟩⟩
   rw[b]
   simp[hc]
   exact⟨rfl,rfl⟩
theorem a8l{E:XU}(n:Int)(m:List (Str×Int))(xs:List (List UInt8))(g:xs.length<=1000000)(a : ∀ x∈xs,x.length<=1000000)(b:0<xs.length):
  AtM Xy E 2 (Zv 2 Xm fun r=>r=UK n m (YD m xs)) Xl 0 58 [(0,.ptr 0 0),(2,.ptr 2 0),(4,.ptr 3 0),(33,.row 4 xs.length 0 xs.length),(34,.pv (.int .i64 xs.length)),(35,.pv (.int .i64 0))]
   [.obj (.box [.pv (.int .i64 n),.map 1]),.obj (.map (ZN m)),.obj (.box [.pv (.int .i64 0),.pv (.sl 0 true [])]),.obj (.box [.pv (.int .i64 n),.pv (.sl 0 true [])]),.obj (.row false 9 1 (xs.map .str))]:=by
 refine b3a E n m xs.length xs 0 ?_
 rw[if_pos (by simp;omega)]
 have j:List.getD (List.map PV.str xs) (0+Int.toNat (0:Int)) default = .str xs[0]:=by simp[List.getD,b]
 rw[j]
 have e:Sh.co Sh.str (List.getD (PV.cells (.str xs[0])) 0 default) = .str xs[0]:=rfl
 rw[e,Dh]
 refine⟨by simp;omega,by simp;omega,rfl,by rw[JS];rfl,?_⟩
 have h:=b8r (E:=E) n m xs g a (xs.length - 1) 1 (by omega) (by omega)
 have et:xs.take 1=[xs[0]]:=by cases xs <;> simp at b ⊢
 rw[et]at h
 exact h
theorem b3g(n:Int)(m:List (Str×Int))(hm:m.length<1000000)(k : ∀ x∈Qw m,x.length<=1000000):
  KL Xy PZ 2 (Zv 2 Xm fun r=>r=UK n m (YD m (Qw m))) Xl [] (Ya 58 [.ptr 0 0] [.box [.pv (.int .i64 n),.map 1],.map (ZN m)]):=by
 refine d4t PZ n m ?_
 have b : ∀ x,(Nt x).length=58:=fun x=>rfl
 refine⟨rfl,⟨((((Xa 58 0 [(0,.ptr 0 0),(2,.ptr 2 0),(4,.ptr 3 0),(5,.pv (.sl 0 true [])),(6,.undef),(7,.undef),(15,.undef),(16,.undef),(17,.undef),(18,.undef),(19,.undef),(20,.undef),(21,.undef),(22,.undef),(23,.undef),(24,.undef),(25,.undef),(26,.undef),(27,.undef),(28,.undef),(29,.undef),(30,.undef)]).set 15 (.ptr 0 0)).set 16 (.ptr 0 0)).set 17 (.ptr 0 1)).set 18 (.map 1),
   [.obj (.box [.pv (.int .i64 n),.map 1]),.obj (.map (ZN m)),.obj (.box [.pv (.int .i64 0),.pv (.sl 0 true [])]),.obj (.box [.pv (.int .i64 n),.pv (.sl 0 true [])])]⟩,⟨Nt (.pv (.sl 0 true [])),d7n n⟩,1,4,18,1,ZN m,[0,2,4,5,18,19],[0,2,4,5,18,19],d8m n,by kernel_rfl,rfl,rfl,by kernel_rfl,rfl,by decide,rfl,.inl ⟨rfl,rfl⟩,?_,?_,?_⟩
 ·intro a s h
  rcases h with ⟨_,rfl⟩|⟨_,rfl⟩
  ·exact⟨⟨rfl,by show 20<_;rw[b];omega,by show 21<_;rw[b];omega,by show 22<_;rw[b];omega⟩,rfl⟩
  ·exact⟨⟨rfl,by show 20<_;rw[b];omega,by show 21<_;rw[b];omega,by show 22<_;rw[b];omega⟩,rfl⟩
 ·intro a u s rest e j
  have l:u∈ZN m:=e.mem_iff.2 (by simp)
  obtain⟨p,_,rfl⟩:=List.mem_map.1 l
  have y:=e.length_eq
  simp[ZN]at y
  have hk:(kz a).length<=a.length:=List.length_filterMap_le _ _
  exact b1c n a p.1.s p.2 s (by omega) j
 ·intro a s e j
  have g:(kz a).Perm (kz (ZN m)):=e.filterMap _
  have hs:WX (kz a)=Qw m:=a0b g
  have hkl:(kz a).length<=1000000:=by
   have h1:(kz a).length<=a.length:=List.length_filterMap_le _ _
   have h2:=e.length_eq
   simp[ZN]at h2
   omega
  rcases j with ⟨h1,rfl⟩|⟨h1,rfl⟩
  ·refine c2y PZ n m ?_
   have hn:Qw m=[]:=by rw[<- hs,h1];simp[WX]
   rw[hn]
   refine b4t PZ n m 0 ?_
   rw[if_neg (by simp)]
   refine KM (⟨n,[]⟩,()) (by simp) ?_
   by_cases hv:Zd ⟨n,[]⟩=true
   ·rw[if_neg (by simp[hv])]
    simp[UK,YD,hv]
   ·rw[if_pos (by simpa using hv)]
    simp[UK,YD,hv]
  ·refine b5o PZ n m (kz a).length (kz a) ?_
   have z:List.map Rp (List.map PV.str (kz a))=kz a:=by rw[List.map_map];exact List.map_id _
   rw[z,hs]
   have q:(Qw m).length=(kz a).length:=by rw[<- hs];exact(List.mergeSort_perm _ _).length_eq
   refine⟨?_,?_⟩
   ·simp[Vq,RU]
    omega
   ·have:=a8l (E:=PZ) n m (Qw m) (by omega) k (by rw[q];exact List.length_pos_iff.2 h1)
    rw[q]at this
    simpa using this
def c3o(n:Int)(m:List (Str×Int)):AV×List AObj×List AObj:=(.tup [],[.box [.pv (.int .i64 n),.map 1],.map (ZN m)],[])
theorem a9p(n:Int)(l:Lin)(k:Int)(hl:l.t.length<=1000000): ∀ (j i:Nat) (m:List (Str×Int)),j+i=l.t.length ->
  At Kn 2 (Zv 2 UM fun r=>r=c3o n (Xz k (l.t.drop i) m)) UQ 0 39 [(0,.ptr 0 0),(2,.pv (.int .i64 k)),(20,.pv (enc l.t)),(21,.pv (.int .i64 l.t.length)),(22,.pv (.int .i64 i))] [.obj (.box [.pv (.int .i64 n),.map 1]),.obj (.map (ZN m))]:=by
 intro j
 induction j with
 | zero=>
  intro i m hi
  refine a5m n m l k i ?_
  rw[if_neg (by simp;omega),List.drop_of_length_le (by omega)]
  rfl
 | succ j ih=>
  intro i m hi
  have a:i<l.t.length:=by omega
  refine a5m n m l k i ?_
  rw[if_pos (by simp;omega)]
  refine⟨by simp[Enc.sz];omega,l.t[i],by simp[List.getD,a],?_⟩
  have e:Sh.co Sh.str (List.getD (PV.cells (enc l.t[i])) 0 default) = .str l.t[i].v.s:=rfl
  rw[e,Dh]
  have ev:PV.asInt (List.getD (PV.cells (enc l.t[i])) (0+1) default)=l.t[i].c:=rfl
  have q:PV.asInt (.int .i64 (U0 m l.t[i].v.s))=U0 m l.t[i].v.s:=rfl
  rw[ev,q]
  have b:=a4w l.t[i].v (IntKind.i64.wrap (U0 m l.t[i].v.s+IntKind.i64.wrap (k*l.t[i].c))) m
  refine⟨by rw[JS];rfl,?_,?_⟩
  ·show(upd _ _ _).isSome=true
   exact(congrArg Option.isSome b).trans rfl
  ·have h:=ih (i+1) (Q9 l.t[i].v (IntKind.i64.wrap (U0 m l.t[i].v.s+IntKind.i64.wrap (k*l.t[i].c))) m) (by omega)
   rw[next (by omega)]
   have u:l.t.drop i=l.t[i]::l.t.drop (i+1):=List.drop_eq_getElem_cons a
   rw[u]
   have g:a8b (.str l.t[i].v.s) (.int .i64 (IntKind.i64.wrap (U0 m l.t[i].v.s+IntKind.i64.wrap (k*l.t[i].c)))) (ZN m)=ZN (Q9 l.t[i].v (IntKind.i64.wrap (U0 m l.t[i].v.s+IntKind.i64.wrap (k*l.t[i].c))) m):=by
    unfold a8b
    rw[b]
    rfl
   rw[<- g]at h
   exact h
theorem c2p(n:Int)(m:List (Str×Int))(l:Lin)(k:Int)(a:l.t.length<=1000000):
  Zb Kn 2 (Zv 2 UM fun r=>r=c3o (IntKind.i64.wrap (n+IntKind.i64.wrap (k*l.k))) (Xz k l.t m)) UQ [] (Ya 39 [.ptr 0 0,.pv (enc l),.pv (.int .i64 k)] [.box [.pv (.int .i64 n),.map 1],.map (ZN m)]):=by
 refine d8r n m l k ?_
 have h:=a9p (IntKind.i64.wrap (n+IntKind.i64.wrap (k*l.k))) l k a l.t.length 0 m rfl
 rw[List.drop_zero]at h
 have e:List.length (List.map (enc:Coef->PV) l.t)=l.t.length:=by simp
 rw[e]
 exact h
theorem c7f: ∀ args os,UY args os=true->Zb Kn os.length (Zv os.length UM fun r=>r=CV args os) UQ [] (Ya c6p args os):=by
 intro args os h
 unfold UY at h
 split at h
 ·rename_i l k n es
  simp only[Bool.and_eq_true,decide_eq_true_eq]at h
  obtain⟨⟨h1,h2⟩,h3⟩:=h
  obtain⟨m,rfl⟩:=CO h1
  obtain⟨l,rfl⟩:=Js h2
  rw[Enc.dec_enc]at h3
  have a:CV [.ptr 0 0,.pv (enc l),.pv (.int .i64 k)] [.box [.pv (.int .i64 n),.map 1],.map (ZN m)]=c3o (IntKind.i64.wrap (n+IntKind.i64.wrap (k*l.k))) (Xz k l.t m):=by
   show d7o n (ZN m) (dec (enc l)) k=_
   rw[Enc.dec_enc,d7o,Qp]
   rfl
  rw[a]
  exact c2p n m l k h3
 ·cases h
theorem Oh: ∀ m:List (Str×Int),kz (ZN m)=YT (nzM m)
 | []=>rfl
 | (s,c)::m=>by
  have a:=Oh m
  simp only[kz,ZN,YT,nzM]at a ⊢
  by_cases h:c=0
  ·subst h
   simp[a]
  ·simp[h,a]
theorem Mc(m:List (Str×Int)):YD m (Qw m)=Vr m:=by
 unfold YD Qw Vr
 rw[Oh]
 rfl
def Qg:List AV->List AObj->AV×List AObj×List AObj
 | _,[.box [.pv (.int .i64 n),.map 1],.map es]=>UK n (V5 es) (Vr (V5 es))
 | _,_=>TP
theorem b7x: ∀ args os,XX args os=true->KL Xy PZ os.length (Zv os.length Xm fun r=>r=Qg args os) Xl [] (Ya c8d args os):=by
 intro args os h
 unfold XX at h
 split at h
 ·rename_i n es
  simp only[Bool.and_eq_true,a3c,decide_eq_true_eq,List.all_eq_true]at h
  obtain⟨h1,h2,h3⟩:=h
  obtain⟨m,rfl⟩:=CO h1
  rw[Qp]at h2 h3
  have e:Qg [.ptr 0 0] [.box [.pv (.int .i64 n),.map 1],.map (ZN m)]=UK n m (YD m (Qw m)):=by
   show UK n (V5 (ZN m)) (Vr (V5 (ZN m)))=_
   rw[Qp,Mc]
  rw[e]
  refine b3g n m h2 fun x a=>h3 x ?_
  have a:x∈kz (ZN m):=(List.mergeSort_perm _ _).mem_iff.1 a
  rw[Oh]at a
  obtain⟨p,b,rfl⟩:=List.mem_map.1 a
  exact List.mem_map.2 ⟨p,(List.mem_filter.1 b).1,rfl⟩
 ·cases h
theorem b2e: ∀ args os,XX args os=true->(Qg args os).2.1.length=os.length:=by
 intro args os h
 unfold XX at h
 split at h
 ·show(UK _ _ _).2.1.length=_
  unfold UK
  split
  ·split <;> rfl
  ·rfl
 ·cases h
theorem TD(n c:Int):Sub (.tup [.agg [.int .i64 n,.sl 0 true []],.int .i64 c]) (enc (((⟨n,[]⟩:Lin),c):Lin×Int)):=.pair (.agg_cons (.refl _) (.agg_cons (Sub.sl0 _ _ _) .agg_nil)) (.refl _)
theorem c5o{P:Program}{f:Nat}(h:Ym P f XX Qg):Ym P f XX CL:=by
 refine h.frz fun args os a=> ?_
 unfold XX at a
 split at a
 ·rename_i n es
  have g:Qg [.ptr 0 0] [.box [.pv (.int .i64 n),.map 1],.map es]=UK n (V5 es) (Vr (V5 es)):=rfl
  have b:CL [.ptr 0 0] [.box [.pv (.int .i64 n),.map 1],.map es]=(.pv (enc (Cr n (V5 es))),[.box [.pv (.int .i64 n),.map 1],.map es],[]):=rfl
  simp only[Bool.and_eq_true]at a
  obtain⟨m,rfl⟩:=CO a.1
  rw[g,b,Qp]
  unfold UK Cr
  generalize Vr m=l
  by_cases hl:Zd ⟨n,l⟩=true
  ·rw[if_pos hl,if_pos hl]
   by_cases hz:l.isEmpty=true
   ·rw[if_pos hz]
    obtain rfl:l=[]:=by simpa using hz
    exact⟨_,_,_,_,_,_,_,_,rfl,rfl,rfl,TD n 0,rfl⟩
   ·rw[if_neg hz]
    refine⟨_,_,_,.tup [.agg [.int .i64 n,.sl 2 false (l.map enc)],.int .i64 0],[.obj (.box [.pv (.int .i64 n),.map 1]),.obj (.map (ZN m)),.obj (.row true 116 2 (l.map enc))],_,_,_,rfl,?_,rfl,.refl _,rfl⟩
    have e:List.drop 0 (List.take l.length (List.map (enc:Coef->PV) l))=l.map enc:=by rw[List.drop_zero,List.take_of_length_le (by simp)]
    simp only[frz,VL,HM.run_bind,Yt,List.map_cons,List.map_nil,List.cons_append,List.nil_append]
    simp[HM.run,HM.req]
    exact List.take_of_length_le (by simp)
  ·rw[if_neg hl,if_neg hl]
   exact⟨_,_,_,_,_,_,_,_,rfl,rfl,rfl,TD 0 3,rfl⟩
 ·cases a
structure LR where
 k:Int
 w:Nat
 ts:List Coef
def LR.view(r:LR):Lin:=⟨r.k,r.ts.take r.w⟩
def LR.av(r:LR)(l:Nat):AV:=.agg [.pv (.int .i64 r.k),.row l r.ts.length 0 r.w]
def LR.ob(r:LR):AObj:=.row false 116 2 (r.ts.map enc)
def V6:Nat->Nat->Nat->List Coef->List Coef×Nat
 | 0,_,j,ts=>(ts,j)
 | m+1,i,j,ts=>if (ts.getD i ⟨⟨[]⟩,0⟩).c=0 then V6 m (i+1) j ts else V6 m (i+1) (j+1) (ts.set j (ts.getD i ⟨⟨[]⟩,0⟩))
def KH(k:Int)(o:List Coef):LR:=⟨k,(V6 o.length 0 0 o).2,(V6 o.length 0 0 o).1⟩
def Wo(l:Lin)(s:Str)(c:Int):LR:=KH l.k (XA s c false l.t)
def QL(l x:Lin)(k:Int):LR:=x.t.foldl (fun o t=>Wo o.view t.v (YZ (k*t.c))) ⟨YZ (l.k+YZ (k*x.k)),l.t.length,l.t⟩
theorem Au: ∀ (m i j:Nat) (ts:List Coef),(V6 m i j ts).1.length=ts.length
 | 0,_,_,_=>rfl
 | m+1,i,j,ts=>by
  rw[V6]
  split
  ·exact Au m _ _ _
  ·rw[Au m];simp
theorem Ej: ∀ (m i j:Nat) (ts:List Coef),m+i=ts.length->j<=i->(V6 m i j ts).2<=ts.length
 | 0,i,j,ts,h,hj=>by rw[V6];show j<=_;omega
 | m+1,i,j,ts,h,hj=>by
  rw[V6]
  split
  ·exact Ej m _ _ _ (by omega) (by omega)
  ·have:=Ej m (i+1) (j+1) (ts.set j (ts.getD i ⟨⟨[]⟩,0⟩)) (by simp;omega) (by omega)
   simpa using this
theorem b3v(k:Int)(o:List Coef):(KH k o).ts.length=o.length:=Au _ _ _ _
theorem d8q(k:Int)(o:List Coef):(KH k o).w<=o.length:=Ej _ _ _ _ (by omega) (by omega)
theorem Du(o:List Coef): ∀ (m i j:Nat) (ts:List Coef),m+i=o.length->ts.length=o.length->j<=i->ts.take j=(o.take i).filter (fun t=>decide (t.c≠0))->ts.drop i=o.drop i->(V6 m i j ts).1.take (V6 m i j ts).2=o.filter fun t=>decide (t.c≠0)
 | 0,i,j,ts,hm,hts,hji,h1,h2=>by
  rw[V6]
  show ts.take j=_
  rw[h1,List.take_of_length_le (by omega)]
 | m+1,i,j,ts,hm,hts,hji,h1,h2=>by
  have a:i<o.length:=by omega
  have e:i<ts.length:=by omega
  have g:j<ts.length:=by omega
  have k:ts[i]=o[i]:=by
   have:(ts.drop i)[0]? = (o.drop i)[0]? :=by rw[h2]
   simpa [e,a]using this
  have b:(o.take (i+1))=o.take i++[o[i]]:=by rw[List.take_add_one,List.getElem?_eq_getElem a];rfl
  have l:ts.getD i ⟨⟨[]⟩,0⟩=ts[i]:=by simp[List.getD,e]
  rw[V6,l]
  split
  ·rename_i h
   refine Du o m (i+1) j ts (by omega) hts (by omega) ?_ ?_
   ·rw[h1,b,List.filter_append]
    have:o[i].c=0:=by rw[<- k];exact h
    simp[this]
   ·have:=congrArg (List.drop 1) h2
    simpa [List.drop_drop,Nat.add_comm]using this
  ·rename_i h
   refine Du o m (i+1) (j+1) (ts.set j ts[i]) (by omega) (by simp[hts]) (by omega) ?_ ?_
   ·rw[b,List.filter_append,<- h1]
    have:decide (o[i].c≠0)=true:=by rw[<- k];exact decide_eq_true h
    simp only[List.filter_cons,this,if_true,List.filter_nil]
    rw[List.take_add_one,List.getElem?_set_self g,List.take_set_of_le (Nat.le_refl j),k]
    rfl
   ·rw[List.drop_set_of_lt (by omega)]
    have:=congrArg (List.drop 1) h2
    simpa [List.drop_drop,Nat.add_comm]using this
theorem a0f(l:Lin)(s:Str)(c:Int):(Wo l s c).view=UT l s c:=by
 show(⟨_,_⟩:Lin)=⟨_,_⟩
 congr 1
 exact Du _ _ 0 0 _ (by omega) rfl (by omega) (by simp) rfl
theorem BC(k:Int): ∀ (x:List Coef) (r:LR),(x.foldl (fun o t=>Wo o.view t.v (YZ (k*t.c))) r).view=x.foldl (fun o t=>UT o t.v (YZ (k*t.c))) r.view
 | [],r=>rfl
 | t::x,r=>by rw[List.foldl_cons,List.foldl_cons,BC k x,a0f]
theorem MU(l x:Lin)(k:Int):(QL l x k).view=ZR l x k:=by
 have:=BC k x.t ⟨YZ (l.k+YZ (k*x.k)),l.t.length,l.t⟩
 have e:LR.view ⟨YZ (l.k+YZ (k*x.k)),l.t.length,l.t⟩=⟨YZ (l.k+YZ (k*x.k)),l.t⟩:=by
  show(⟨_,l.t.take l.t.length⟩:Lin)=_
  rw[List.take_length]
 rw[e]at this
 exact this
noncomputable def Qo:List AV->List AObj->Bool
 | [.pv l,.pv (.str s),.pv (.int .i64 c)],[]=>Rv Lin l&&decide ((dec l:Lin).t.length<=1000000)
 | _,_=>false
def Ud(r:LR)(l:Nat)(os:List AObj):AV×List AObj×List AObj:=(r.av l,os,[r.ob])
def Qr:List AV->List AObj->AV×List AObj×List AObj
 | [.pv l,.pv (.str s),.pv (.int .i64 c)],_=>Ud (Wo (dec l) ⟨s⟩ c) 0 []
 | _,_=>TP
def M9(k:Int)(w:Nat)(xs:List PV):Lin:=⟨k,((dec (PV.sl 2 false xs):List Coef)).take w⟩
noncomputable def Qm:List AV->List AObj->Bool
 | [.agg [.pv (.int .i64 k),.row 0 q 0 w],.pv (.str s),.pv (.int .i64 c)],[.row fz ty 2 xs]=>Rv (List Coef) (.sl 2 false xs)&&xs.length==q&&decide (w<=q)&&decide (w<=1000000)
 | _,_=>false
def K4:List AV->List AObj->AV×List AObj×List AObj
 | [.agg [.pv (.int .i64 k),.row 0 q 0 w],.pv (.str s),.pv (.int .i64 c)],[.row fz ty 2 xs]=>Ud (Wo (M9 k w xs) ⟨s⟩ c) 1 [.row true ty 2 xs]
 | _,_=>TP
noncomputable def QT:List AV->List AObj->Bool
 | [.pv l,.pv x,.pv (.int .i64 k)],[]=>Rv Lin l&&Rv Lin x&&decide ((dec l:Lin).t.length<=500000)&&decide ((dec x:Lin).t.length<=500000)
 | _,_=>false
def KT:List AV->List AObj->AV×List AObj×List AObj
 | [.pv l,.pv x,.pv (.int .i64 k)],[]=>Ud (QL (dec l) (dec x) k) 0 []
 | [.agg [.pv (.int .i64 c),.row 0 q 0 w],.pv x,.pv (.int .i64 k)],[.row fz ty 2 xs]=>Ud (QL (M9 c w xs) (dec x) k) 1 [.row true ty 2 xs]
 | _,_=>TP
noncomputable def ZP:IC:=XG Proofs.Tryz.f158
def ZL:List IRes:=[(.cell true 2 6)]
abbrev NS:Nat:=100
def ZY:ZC:=YG []
theorem c5t{G:AV×List AObj×List AObj->Prop}(l:Lin)(s:List UInt8)(c:Int)(h:At ZY 0 (Zv 0 ZL G) ZP 0 100 [(1,(.pv (.str s))),(2,(.pv (.int .i64 c))),(3,(.ptr 0 0)),(6,(.ptr 1 0)),(7,(.ptr 2 0)),(8,(.pv (.bool false))),(9,(.pv (.int .i64 0)))] [(.obj (.box [(.pv (.int .i64 l.k)),(.pv (.sl 2 false (List.map enc l.t)))])),(.obj (.box [(.pv (.int .i64 0)),(.pv (.sl 0 true []))])),(.obj (.box [(.pv (.int .i64 l.k)),(.pv (.sl 0 true []))]))]):Zb ZY 0 (Zv 0 ZL G) ZP [] (Ya 100 [.pv (enc l),.pv (.str s),.pv (enc c)] []):=Zb.to (.nil) h
theorem b0g{G:AV×List AObj×List AObj->Prop}(l:Lin)(s:List UInt8)(c:Int)(p:Bool)(i:Int)(h:if (decide (i<(↑(List.length (List.map enc l.t)):Int)))=true then(decide (0<=i)&&decide (Int.toNat i<List.length (List.map enc l.t))&&Enc.sz Coef==2)=true∧(∃ a:Coef,AV.pv (PV.rptr (PV.cells (List.getD (List.map enc l.t) (Int.toNat i) default)))=AV.pv (PV.rptr (PV.cells ((enc) a)))∧(if (!p)=true then if (!(Op.bytesLess (PV.asStr (List.getD (PV.cells (enc a)) 0 default)) s||PV.asStr (List.getD (PV.cells (enc a)) 0 default)==s))=true then if (PV.asStr (List.getD (PV.cells (enc a)) 0 default)==s)=true then At ZY 0 (Zv 0 ZL G) ZP 0 100 [(1,(.pv (.str s))),(2,(.pv (.int .i64 c))),(3,(.ptr 0 0)),(6,(.ptr 1 0)),(7,(.ptr 2 0)),(8,(.pv (.bool true))),(9,(.pv (.int .i64 (IntKind.wrap IntKind.i64 (i+1)))))] [(.obj (.box [(.pv (.int .i64 l.k)),(.pv (.sl 2 false (List.map enc l.t)))])),(.obj (.box [(.pv (.int .i64 0)),(.pv (.sl 0 true []))])),(.obj (.box [(.pv (.int .i64 l.k)),(.row 3 2 0 2)])),(.obj (.row false 116 2 [(.agg [(.str s),(.int .i64 c)]),(.agg [(.str (PV.asStr (List.getD (PV.cells (enc a)) 0 default))),(.int .i64 (IntKind.wrap IntKind.i64 (PV.asInt (List.getD (PV.cells (enc a)) (0+1) default)+c)))])]))]else(At ZY 0 (Zv 0 ZL G) ZP 0 100 [(1,(.pv (.str s))),(2,(.pv (.int .i64 c))),(3,(.ptr 0 0)),(6,(.ptr 1 0)),(7,(.ptr 2 0)),(8,(.pv (.bool true))),(9,(.pv (.int .i64 (IntKind.wrap IntKind.i64 (i+1)))))] [(.obj (.box [(.pv (.int .i64 l.k)),(.pv (.sl 2 false (List.map enc l.t)))])),(.obj (.box [(.pv (.int .i64 0)),(.pv (.sl 0 true []))])),(.obj (.box [(.pv (.int .i64 l.k)),(.row 3 2 0 2)])),(.obj (.row false 116 2 [(.agg [(.str s),(.int .i64 c)]),(.agg [(.str (PV.asStr (List.getD (PV.cells (enc a)) 0 default))),(.int .i64 (PV.asInt (List.getD (PV.cells (enc a)) (0+1) default)))])]))])else(if (PV.asStr (List.getD (PV.cells (enc a)) 0 default)==s)=true then At ZY 0 (Zv 0 ZL G) ZP 0 100 [(1,(.pv (.str s))),(2,(.pv (.int .i64 c))),(3,(.ptr 0 0)),(6,(.ptr 1 0)),(7,(.ptr 2 0)),(8,(.pv (.bool true))),(9,(.pv (.int .i64 (IntKind.wrap IntKind.i64 (i+1)))))] [(.obj (.box [(.pv (.int .i64 l.k)),(.pv (.sl 2 false (List.map enc l.t)))])),(.obj (.box [(.pv (.int .i64 0)),(.pv (.sl 0 true []))])),(.obj (.box [(.pv (.int .i64 l.k)),(.row 3 1 0 1)])),(.obj (.row false 116 2 [(.agg [(.str (PV.asStr (List.getD (PV.cells (enc a)) 0 default))),(.int .i64 (IntKind.wrap IntKind.i64 (PV.asInt (List.getD (PV.cells (enc a)) (0+1) default)+c)))])]))]else(At ZY 0 (Zv 0 ZL G) ZP 0 100 [(1,(.pv (.str s))),(2,(.pv (.int .i64 c))),(3,(.ptr 0 0)),(6,(.ptr 1 0)),(7,(.ptr 2 0)),(8,(.pv (.bool p))),(9,(.pv (.int .i64 (IntKind.wrap IntKind.i64 (i+1)))))] [(.obj (.box [(.pv (.int .i64 l.k)),(.pv (.sl 2 false (List.map enc l.t)))])),(.obj (.box [(.pv (.int .i64 0)),(.pv (.sl 0 true []))])),(.obj (.box [(.pv (.int .i64 l.k)),(.row 3 1 0 1)])),(.obj (.row false 116 2 [(.agg [(.str (PV.asStr (List.getD (PV.cells (enc a)) 0 default))),(.int .i64 (PV.asInt (List.getD (PV.cells (enc a)) (0+1) default)))])]))]))else(if (PV.asStr (List.getD (PV.cells (enc a)) 0 default)==s)=true then At ZY 0 (Zv 0 ZL G) ZP 0 100 [(1,(.pv (.str s))),(2,(.pv (.int .i64 c))),(3,(.ptr 0 0)),(6,(.ptr 1 0)),(7,(.ptr 2 0)),(8,(.pv (.bool true))),(9,(.pv (.int .i64 (IntKind.wrap IntKind.i64 (i+1)))))] [(.obj (.box [(.pv (.int .i64 l.k)),(.pv (.sl 2 false (List.map enc l.t)))])),(.obj (.box [(.pv (.int .i64 0)),(.pv (.sl 0 true []))])),(.obj (.box [(.pv (.int .i64 l.k)),(.row 3 1 0 1)])),(.obj (.row false 116 2 [(.agg [(.str (PV.asStr (List.getD (PV.cells (enc a)) 0 default))),(.int .i64 (IntKind.wrap IntKind.i64 (PV.asInt (List.getD (PV.cells (enc a)) (0+1) default)+c)))])]))]else(At ZY 0 (Zv 0 ZL G) ZP 0 100 [(1,(.pv (.str s))),(2,(.pv (.int .i64 c))),(3,(.ptr 0 0)),(6,(.ptr 1 0)),(7,(.ptr 2 0)),(8,(.pv (.bool p))),(9,(.pv (.int .i64 (IntKind.wrap IntKind.i64 (i+1)))))] [(.obj (.box [(.pv (.int .i64 l.k)),(.pv (.sl 2 false (List.map enc l.t)))])),(.obj (.box [(.pv (.int .i64 0)),(.pv (.sl 0 true []))])),(.obj (.box [(.pv (.int .i64 l.k)),(.row 3 1 0 1)])),(.obj (.row false 116 2 [(.agg [(.str (PV.asStr (List.getD (PV.cells (enc a)) 0 default))),(.int .i64 (PV.asInt (List.getD (PV.cells (enc a)) (0+1) default)))])]))]))))else(if (!p)=true then At ZY 0 (Zv 0 ZL G) ZP 1 100 [(6,(.ptr 0 0)),(7,(.ptr 1 0)),(11,(.pv (.int .i64 0))),(12,(.pv (.int .i64 0)))] [(.obj (.box [(.pv (.int .i64 0)),(.pv (.sl 0 true []))])),(.obj (.box [(.pv (.int .i64 l.k)),(.row 2 1 0 1)])),(.obj (.row false 116 2 [(.agg [(.str s),(.int .i64 c)])]))]else(At ZY 0 (Zv 0 ZL G) ZP 1 100 [(6,(.ptr 0 0)),(7,(.ptr 1 0)),(11,(.pv (.int .i64 0))),(12,(.pv (.int .i64 0)))] [(.obj (.box [(.pv (.int .i64 0)),(.pv (.sl 0 true []))])),(.obj (.box [(.pv (.int .i64 l.k)),(.pv (.sl 0 true []))]))]))):At ZY 0 (Zv 0 ZL G) ZP 0 100 [(1,.pv (.str s)),(2,.pv (.int .i64 c)),(3,.ptr 0 0),(6,.ptr 1 0),(7,.ptr 2 0),(8,.pv (.bool p)),(9,.pv (.int .i64 i))] [.obj (.box [.pv (.int .i64 l.k),.pv (enc l.t)]),.obj (.box [.pv (.int .i64 0),.pv (.sl 0 true [])]),.obj (.box [.pv (.int .i64 l.k),.pv (.sl 0 true [])])]:=At.to (dm [dr Coef] 99 0x222220064022222202222222008422222202222220222222200842022220222220064222222015422222032425105242) h
theorem Rt{G:AV×List AObj×List AObj->Prop}(l:Lin)(s:List UInt8)(c:Int)(j i:Int)(q:Nat)(ts:List Coef)(h:if (decide (i<(↑(q - 0):Int)))=true then(decide (0<=i)&&decide (0+Int.toNat i<q)&&List.length (List.map enc ts)==q)=true∧((List.length (List.map enc ts)==q&&decide (0+Int.toNat i<List.length (List.map enc ts)))=true∧((decide (0+1+List.length [Sh.int .i64]<=List.length (PV.cells (List.getD (List.map enc ts) (0+Int.toNat i) default)))&&X6 (PV.cells (List.getD (List.map enc ts) (0+Int.toNat i) default)) (0+1) [Sh.int .i64])=true∧(if (PV.asInt (List.getD (PV.cells (List.getD (List.map enc ts) (0+Int.toNat i) default)) (0+1) default) != 0)=true then(decide (0<=i)&&decide (0+Int.toNat i<q)&&List.length (List.map enc ts)==q)=true∧((List.length (List.map enc ts)==q&&decide (0+Int.toNat i<List.length (List.map enc ts)))=true∧((decide (0+List.length [Sh.str,Sh.int .i64]<=List.length (PV.cells (List.getD (List.map enc ts) (0+Int.toNat i) default)))&&X6 (PV.cells (List.getD (List.map enc ts) (0+Int.toNat i) default)) 0 [Sh.str,Sh.int .i64])=true∧((decide (0<=j)&&decide (0+Int.toNat j<q)&&List.length (List.map enc ts)==q)=true∧((List.length (List.map enc ts)==q&&decide (0+Int.toNat j<List.length (List.map enc ts))&&List.length (PV.cells (PV.agg (Gq (PV.cells (List.getD (List.map enc ts) (0+Int.toNat i) default)) 0 [Sh.str,Sh.int .i64])))==2&&decide (0+2<=List.length (PV.cells (List.getD (List.map enc ts) (0+Int.toNat j) default)))&&PV.cellsOk (PV.agg (Gq (PV.cells (List.getD (List.map enc ts) (0+Int.toNat i) default)) 0 [Sh.str,Sh.int .i64])))=true∧(At ZY 0 (Zv 0 ZL G) ZP 1 100 [(6,(.ptr 0 0)),(7,(.ptr 1 0)),(11,(.pv (.int .i64 (IntKind.wrap IntKind.i64 (j+1))))),(12,(.pv (.int .i64 (IntKind.wrap IntKind.i64 (i+1)))))] [(.obj (.box [(.pv (.int .i64 0)),(.pv (.sl 0 true []))])),(.obj (.box [(.pv (.int .i64 l.k)),(.row 2 q 0 q)])),(.obj (.row false 116 2 (List.set (List.map enc ts) (0+Int.toNat j) (PV.withCells (List.getD (List.map enc ts) (0+Int.toNat j) default) (splice (PV.cells (List.getD (List.map enc ts) (0+Int.toNat j) default)) 0 (PV.cells (PV.agg (Gq (PV.cells (List.getD (List.map enc ts) (0+Int.toNat i) default)) 0 [Sh.str,Sh.int .i64]))))))))])))))else(At ZY 0 (Zv 0 ZL G) ZP 1 100 [(6,(.ptr 0 0)),(7,(.ptr 1 0)),(11,(.pv (.int .i64 j))),(12,(.pv (.int .i64 (IntKind.wrap IntKind.i64 (i+1)))))] [(.obj (.box [(.pv (.int .i64 0)),(.pv (.sl 0 true []))])),(.obj (.box [(.pv (.int .i64 l.k)),(.row 2 q 0 q)])),(.obj (.row false 116 2 (List.map enc ts)))]))))else((true&&decide (0<=j)&&decide (0<=Int.toNat j)&&decide (0+Int.toNat j<=q)&&List.length (List.map enc ts)==q)=true∧(G (((.agg [(.pv (.int .i64 l.k)),(.row 0 q 0 (0+Int.toNat j))]),([],[(.row false 116 2 (List.map enc ts))])))))):At ZY 0 (Zv 0 ZL G) ZP 1 100 [(6,.ptr 0 0),(7,.ptr 1 0),(11,.pv (.int .i64 j)),(12,.pv (.int .i64 i))] [.obj (.box [.pv (.int .i64 0),.pv (.sl 0 true [])]),.obj (.box [.pv (.int .i64 l.k),.row 2 q 0 q]),.obj (.row false 116 2 (ts.map enc))]:=At.to (dm [] 29 0x102022131113100a42113101542) h
theorem SL{G:AV×List AObj×List AObj->Prop}(l:Lin)(s:List UInt8)(c:Int)(p:Bool)(i:Int)(q:Nat)(ts:List Coef)(h:if (decide (i<(↑(List.length (List.map enc l.t)):Int)))=true then(decide (0<=i)&&decide (Int.toNat i<List.length (List.map enc l.t))&&Enc.sz Coef==2)=true∧(∃ a:Coef,AV.pv (PV.rptr (PV.cells (List.getD (List.map enc l.t) (Int.toNat i) default)))=AV.pv (PV.rptr (PV.cells ((enc) a)))∧(if (!p)=true then if (!(Op.bytesLess (PV.asStr (List.getD (PV.cells (enc a)) 0 default)) s||PV.asStr (List.getD (PV.cells (enc a)) 0 default)==s))=true then(List.length (List.map enc ts)==q&&q==q&&decide ((q+List.length (List.drop 0 (List.take 1 [PV.agg [PV.str s,PV.int .i64 c]])))*24<=1099511627776)&&decide (q+List.length (List.drop 0 (List.take 1 [PV.agg [PV.str s,PV.int .i64 c]]))<=1099511627776))=true∧(if (PV.asStr (List.getD (PV.cells (enc a)) 0 default)==s)=true then(List.length (List.map enc ts++List.drop 0 (List.take 1 [PV.agg [PV.str s,PV.int .i64 c]]))==q+List.length (List.drop 0 (List.take 1 [PV.agg [PV.str s,PV.int .i64 c]]))&&q+List.length (List.drop 0 (List.take 1 [PV.agg [PV.str s,PV.int .i64 c]]))==q+List.length (List.drop 0 (List.take 1 [PV.agg [PV.str s,PV.int .i64 c]]))&&decide ((q+List.length (List.drop 0 (List.take 1 [PV.agg [PV.str s,PV.int .i64 c]]))+List.length (List.drop 0 (List.take 1 [PV.agg [Sh.co Sh.str (List.getD (PV.cells (enc a)) 0 default),PV.int .i64 (IntKind.wrap IntKind.i64 (PV.asInt (List.getD (PV.cells (enc a)) (0+1) default)+c))]])))*24<=1099511627776)&&decide (q+List.length (List.drop 0 (List.take 1 [PV.agg [PV.str s,PV.int .i64 c]]))+List.length (List.drop 0 (List.take 1 [PV.agg [Sh.co Sh.str (List.getD (PV.cells (enc a)) 0 default),PV.int .i64 (IntKind.wrap IntKind.i64 (PV.asInt (List.getD (PV.cells (enc a)) (0+1) default)+c))]]))<=1099511627776))=true∧(At ZY 0 (Zv 0 ZL G) ZP 0 100 [(1,(.pv (.str s))),(2,(.pv (.int .i64 c))),(3,(.ptr 0 0)),(6,(.ptr 1 0)),(7,(.ptr 2 0)),(8,(.pv (.bool true))),(9,(.pv (.int .i64 (IntKind.wrap IntKind.i64 (i+1)))))] [(.obj (.box [(.pv (.int .i64 l.k)),(.pv (.sl 2 false (List.map enc l.t)))])),(.obj (.box [(.pv (.int .i64 0)),(.pv (.sl 0 true []))])),(.obj (.box [(.pv (.int .i64 l.k)),(.row 3 (q+List.length (List.drop 0 (List.take 1 [PV.agg [PV.str s,PV.int .i64 c]]))+List.length (List.drop 0 (List.take 1 [PV.agg [Sh.co Sh.str (List.getD (PV.cells (enc a)) 0 default),PV.int .i64 (IntKind.wrap IntKind.i64 (PV.asInt (List.getD (PV.cells (enc a)) (0+1) default)+c))]]))) 0 (q+List.length (List.drop 0 (List.take 1 [PV.agg [PV.str s,PV.int .i64 c]]))+List.length (List.drop 0 (List.take 1 [PV.agg [Sh.co Sh.str (List.getD (PV.cells (enc a)) 0 default),PV.int .i64 (IntKind.wrap IntKind.i64 (PV.asInt (List.getD (PV.cells (enc a)) (0+1) default)+c))]]))))])),(.obj (.row false 116 2 (List.map enc ts++List.drop 0 (List.take 1 [PV.agg [PV.str s,PV.int .i64 c]])++List.drop 0 (List.take 1 [PV.agg [Sh.co Sh.str (List.getD (PV.cells (enc a)) 0 default),PV.int .i64 (IntKind.wrap IntKind.i64 (PV.asInt (List.getD (PV.cells (enc a)) (0+1) default)+c))]]))))])else((List.length (List.map enc ts++List.drop 0 (List.take 1 [PV.agg [PV.str s,PV.int .i64 c]]))==q+List.length (List.drop 0 (List.take 1 [PV.agg [PV.str s,PV.int .i64 c]]))&&q+List.length (List.drop 0 (List.take 1 [PV.agg [PV.str s,PV.int .i64 c]]))==q+List.length (List.drop 0 (List.take 1 [PV.agg [PV.str s,PV.int .i64 c]]))&&decide ((q+List.length (List.drop 0 (List.take 1 [PV.agg [PV.str s,PV.int .i64 c]]))+List.length (List.drop 0 (List.take 1 [PV.agg [Sh.co Sh.str (List.getD (PV.cells (enc a)) 0 default),Sh.co (Sh.int .i64) (List.getD (PV.cells (enc a)) (0+1) default)]])))*24<=1099511627776)&&decide (q+List.length (List.drop 0 (List.take 1 [PV.agg [PV.str s,PV.int .i64 c]]))+List.length (List.drop 0 (List.take 1 [PV.agg [Sh.co Sh.str (List.getD (PV.cells (enc a)) 0 default),Sh.co (Sh.int .i64) (List.getD (PV.cells (enc a)) (0+1) default)]]))<=1099511627776))=true∧(At ZY 0 (Zv 0 ZL G) ZP 0 100 [(1,(.pv (.str s))),(2,(.pv (.int .i64 c))),(3,(.ptr 0 0)),(6,(.ptr 1 0)),(7,(.ptr 2 0)),(8,(.pv (.bool true))),(9,(.pv (.int .i64 (IntKind.wrap IntKind.i64 (i+1)))))] [(.obj (.box [(.pv (.int .i64 l.k)),(.pv (.sl 2 false (List.map enc l.t)))])),(.obj (.box [(.pv (.int .i64 0)),(.pv (.sl 0 true []))])),(.obj (.box [(.pv (.int .i64 l.k)),(.row 3 (q+List.length (List.drop 0 (List.take 1 [PV.agg [PV.str s,PV.int .i64 c]]))+List.length (List.drop 0 (List.take 1 [PV.agg [Sh.co Sh.str (List.getD (PV.cells (enc a)) 0 default),Sh.co (Sh.int .i64) (List.getD (PV.cells (enc a)) (0+1) default)]]))) 0 (q+List.length (List.drop 0 (List.take 1 [PV.agg [PV.str s,PV.int .i64 c]]))+List.length (List.drop 0 (List.take 1 [PV.agg [Sh.co Sh.str (List.getD (PV.cells (enc a)) 0 default),Sh.co (Sh.int .i64) (List.getD (PV.cells (enc a)) (0+1) default)]]))))])),(.obj (.row false 116 2 (List.map enc ts++List.drop 0 (List.take 1 [PV.agg [PV.str s,PV.int .i64 c]])++List.drop 0 (List.take 1 [PV.agg [Sh.co Sh.str (List.getD (PV.cells (enc a)) 0 default),Sh.co (Sh.int .i64) (List.getD (PV.cells (enc a)) (0+1) default)]]))))])))else(if (PV.asStr (List.getD (PV.cells (enc a)) 0 default)==s)=true then(List.length (List.map enc ts)==q&&q==q&&decide ((q+List.length (List.drop 0 (List.take 1 [PV.agg [Sh.co Sh.str (List.getD (PV.cells (enc a)) 0 default),PV.int .i64 (IntKind.wrap IntKind.i64 (PV.asInt (List.getD (PV.cells (enc a)) (0+1) default)+c))]])))*24<=1099511627776)&&decide (q+List.length (List.drop 0 (List.take 1 [PV.agg [Sh.co Sh.str (List.getD (PV.cells (enc a)) 0 default),PV.int .i64 (IntKind.wrap IntKind.i64 (PV.asInt (List.getD (PV.cells (enc a)) (0+1) default)+c))]]))<=1099511627776))=true∧(At ZY 0 (Zv 0 ZL G) ZP 0 100 [(1,(.pv (.str s))),(2,(.pv (.int .i64 c))),(3,(.ptr 0 0)),(6,(.ptr 1 0)),(7,(.ptr 2 0)),(8,(.pv (.bool true))),(9,(.pv (.int .i64 (IntKind.wrap IntKind.i64 (i+1)))))] [(.obj (.box [(.pv (.int .i64 l.k)),(.pv (.sl 2 false (List.map enc l.t)))])),(.obj (.box [(.pv (.int .i64 0)),(.pv (.sl 0 true []))])),(.obj (.box [(.pv (.int .i64 l.k)),(.row 3 (q+List.length (List.drop 0 (List.take 1 [PV.agg [Sh.co Sh.str (List.getD (PV.cells (enc a)) 0 default),PV.int .i64 (IntKind.wrap IntKind.i64 (PV.asInt (List.getD (PV.cells (enc a)) (0+1) default)+c))]]))) 0 (q+List.length (List.drop 0 (List.take 1 [PV.agg [Sh.co Sh.str (List.getD (PV.cells (enc a)) 0 default),PV.int .i64 (IntKind.wrap IntKind.i64 (PV.asInt (List.getD (PV.cells (enc a)) (0+1) default)+c))]]))))])),(.obj (.row false 116 2 (List.map enc ts++List.drop 0 (List.take 1 [PV.agg [Sh.co Sh.str (List.getD (PV.cells (enc a)) 0 default),PV.int .i64 (IntKind.wrap IntKind.i64 (PV.asInt (List.getD (PV.cells (enc a)) (0+1) default)+c))]]))))])else((List.length (List.map enc ts)==q&&q==q&&decide ((q+List.length (List.drop 0 (List.take 1 [PV.agg [Sh.co Sh.str (List.getD (PV.cells (enc a)) 0 default),Sh.co (Sh.int .i64) (List.getD (PV.cells (enc a)) (0+1) default)]])))*24<=1099511627776)&&decide (q+List.length (List.drop 0 (List.take 1 [PV.agg [Sh.co Sh.str (List.getD (PV.cells (enc a)) 0 default),Sh.co (Sh.int .i64) (List.getD (PV.cells (enc a)) (0+1) default)]]))<=1099511627776))=true∧(At ZY 0 (Zv 0 ZL G) ZP 0 100 [(1,(.pv (.str s))),(2,(.pv (.int .i64 c))),(3,(.ptr 0 0)),(6,(.ptr 1 0)),(7,(.ptr 2 0)),(8,(.pv (.bool p))),(9,(.pv (.int .i64 (IntKind.wrap IntKind.i64 (i+1)))))] [(.obj (.box [(.pv (.int .i64 l.k)),(.pv (.sl 2 false (List.map enc l.t)))])),(.obj (.box [(.pv (.int .i64 0)),(.pv (.sl 0 true []))])),(.obj (.box [(.pv (.int .i64 l.k)),(.row 3 (q+List.length (List.drop 0 (List.take 1 [PV.agg [Sh.co Sh.str (List.getD (PV.cells (enc a)) 0 default),Sh.co (Sh.int .i64) (List.getD (PV.cells (enc a)) (0+1) default)]]))) 0 (q+List.length (List.drop 0 (List.take 1 [PV.agg [Sh.co Sh.str (List.getD (PV.cells (enc a)) 0 default),Sh.co (Sh.int .i64) (List.getD (PV.cells (enc a)) (0+1) default)]]))))])),(.obj (.row false 116 2 (List.map enc ts++List.drop 0 (List.take 1 [PV.agg [Sh.co Sh.str (List.getD (PV.cells (enc a)) 0 default),Sh.co (Sh.int .i64) (List.getD (PV.cells (enc a)) (0+1) default)]]))))])))else(if (PV.asStr (List.getD (PV.cells (enc a)) 0 default)==s)=true then(List.length (List.map enc ts)==q&&q==q&&decide ((q+List.length (List.drop 0 (List.take 1 [PV.agg [Sh.co Sh.str (List.getD (PV.cells (enc a)) 0 default),PV.int .i64 (IntKind.wrap IntKind.i64 (PV.asInt (List.getD (PV.cells (enc a)) (0+1) default)+c))]])))*24<=1099511627776)&&decide (q+List.length (List.drop 0 (List.take 1 [PV.agg [Sh.co Sh.str (List.getD (PV.cells (enc a)) 0 default),PV.int .i64 (IntKind.wrap IntKind.i64 (PV.asInt (List.getD (PV.cells (enc a)) (0+1) default)+c))]]))<=1099511627776))=true∧(At ZY 0 (Zv 0 ZL G) ZP 0 100 [(1,(.pv (.str s))),(2,(.pv (.int .i64 c))),(3,(.ptr 0 0)),(6,(.ptr 1 0)),(7,(.ptr 2 0)),(8,(.pv (.bool true))),(9,(.pv (.int .i64 (IntKind.wrap IntKind.i64 (i+1)))))] [(.obj (.box [(.pv (.int .i64 l.k)),(.pv (.sl 2 false (List.map enc l.t)))])),(.obj (.box [(.pv (.int .i64 0)),(.pv (.sl 0 true []))])),(.obj (.box [(.pv (.int .i64 l.k)),(.row 3 (q+List.length (List.drop 0 (List.take 1 [PV.agg [Sh.co Sh.str (List.getD (PV.cells (enc a)) 0 default),PV.int .i64 (IntKind.wrap IntKind.i64 (PV.asInt (List.getD (PV.cells (enc a)) (0+1) default)+c))]]))) 0 (q+List.length (List.drop 0 (List.take 1 [PV.agg [Sh.co Sh.str (List.getD (PV.cells (enc a)) 0 default),PV.int .i64 (IntKind.wrap IntKind.i64 (PV.asInt (List.getD (PV.cells (enc a)) (0+1) default)+c))]]))))])),(.obj (.row false 116 2 (List.map enc ts++List.drop 0 (List.take 1 [PV.agg [Sh.co Sh.str (List.getD (PV.cells (enc a)) 0 default),PV.int .i64 (IntKind.wrap IntKind.i64 (PV.asInt (List.getD (PV.cells (enc a)) (0+1) default)+c))]]))))])else((List.length (List.map enc ts)==q&&q==q&&decide ((q+List.length (List.drop 0 (List.take 1 [PV.agg [Sh.co Sh.str (List.getD (PV.cells (enc a)) 0 default),Sh.co (Sh.int .i64) (List.getD (PV.cells (enc a)) (0+1) default)]])))*24<=1099511627776)&&decide (q+List.length (List.drop 0 (List.take 1 [PV.agg [Sh.co Sh.str (List.getD (PV.cells (enc a)) 0 default),Sh.co (Sh.int .i64) (List.getD (PV.cells (enc a)) (0+1) default)]]))<=1099511627776))=true∧(At ZY 0 (Zv 0 ZL G) ZP 0 100 [(1,(.pv (.str s))),(2,(.pv (.int .i64 c))),(3,(.ptr 0 0)),(6,(.ptr 1 0)),(7,(.ptr 2 0)),(8,(.pv (.bool p))),(9,(.pv (.int .i64 (IntKind.wrap IntKind.i64 (i+1)))))] [(.obj (.box [(.pv (.int .i64 l.k)),(.pv (.sl 2 false (List.map enc l.t)))])),(.obj (.box [(.pv (.int .i64 0)),(.pv (.sl 0 true []))])),(.obj (.box [(.pv (.int .i64 l.k)),(.row 3 (q+List.length (List.drop 0 (List.take 1 [PV.agg [Sh.co Sh.str (List.getD (PV.cells (enc a)) 0 default),Sh.co (Sh.int .i64) (List.getD (PV.cells (enc a)) (0+1) default)]]))) 0 (q+List.length (List.drop 0 (List.take 1 [PV.agg [Sh.co Sh.str (List.getD (PV.cells (enc a)) 0 default),Sh.co (Sh.int .i64) (List.getD (PV.cells (enc a)) (0+1) default)]]))))])),(.obj (.row false 116 2 (List.map enc ts++List.drop 0 (List.take 1 [PV.agg [Sh.co Sh.str (List.getD (PV.cells (enc a)) 0 default),Sh.co (Sh.int .i64) (List.getD (PV.cells (enc a)) (0+1) default)]]))))])))))else(if (!p)=true then(List.length (List.map enc ts)==q&&q==q&&decide ((q+List.length (List.drop 0 (List.take 1 [PV.agg [PV.str s,PV.int .i64 c]])))*24<=1099511627776)&&decide (q+List.length (List.drop 0 (List.take 1 [PV.agg [PV.str s,PV.int .i64 c]]))<=1099511627776))=true∧(At ZY 0 (Zv 0 ZL G) ZP 1 100 [(6,(.ptr 0 0)),(7,(.ptr 1 0)),(11,(.pv (.int .i64 0))),(12,(.pv (.int .i64 0)))] [(.obj (.box [(.pv (.int .i64 0)),(.pv (.sl 0 true []))])),(.obj (.box [(.pv (.int .i64 l.k)),(.row 2 (q+List.length (List.drop 0 (List.take 1 [PV.agg [PV.str s,PV.int .i64 c]]))) 0 (q+List.length (List.drop 0 (List.take 1 [PV.agg [PV.str s,PV.int .i64 c]]))))])),(.obj (.row false 116 2 (List.map enc ts++List.drop 0 (List.take 1 [PV.agg [PV.str s,PV.int .i64 c]]))))])else(At ZY 0 (Zv 0 ZL G) ZP 1 100 [(6,(.ptr 0 0)),(7,(.ptr 1 0)),(11,(.pv (.int .i64 0))),(12,(.pv (.int .i64 0)))] [(.obj (.box [(.pv (.int .i64 0)),(.pv (.sl 0 true []))])),(.obj (.box [(.pv (.int .i64 l.k)),(.row 2 q 0 q)])),(.obj (.row false 116 2 (List.map enc ts)))]))):At ZY 0 (Zv 0 ZL G) ZP 0 100 [(1,.pv (.str s)),(2,.pv (.int .i64 c)),(3,.ptr 0 0),(6,.ptr 1 0),(7,.ptr 2 0),(8,.pv (.bool p)),(9,.pv (.int .i64 i))] [.obj (.box [.pv (.int .i64 l.k),.pv (enc l.t)]),.obj (.box [.pv (.int .i64 0),.pv (.sl 0 true [])]),.obj (.box [.pv (.int .i64 l.k),.row 3 q 0 q]),.obj (.row false 116 2 (ts.map enc))]:=At.to (dm [dr Coef] 87 0x12200440212202122200642222220212202122200642021220212220064212201342222202c425104842) h
noncomputable def WQ:IC:=XG Proofs.Tryz.f116
def WN:List IRes:=[(.cell true 2 6)]
abbrev SH:Nat:=45
noncomputable def VJ:ZC:=YG [(158,.own Qm K4)]
theorem b1f{G:AV×List AObj×List AObj->Prop}(l x:Lin)(k:Int)(h:(List.isEmpty (List.map enc l.t)||Enc.sz Coef==2)=true∧((List.length ([]:List PV)==0&&0==0&&decide ((0+List.length (List.map enc l.t))*24<=1099511627776)&&decide (0+List.length (List.map enc l.t)<=1099511627776))=true∧(At VJ 0 (Zv 0 WN G) WQ 0 45 [(2,(.pv (.int .i64 k))),(4,(.ptr 0 0)),(6,(.ptr 1 0)),(7,(.ptr 2 0)),(8,(.pv (.int .i64 0)))] [(.obj (.box [(.pv (.int .i64 x.k)),(.pv (.sl 2 false (List.map enc x.t)))])),(.obj (.box [(.pv (.int .i64 0)),(.pv (.sl 0 true []))])),(.obj (.box [(.pv (.int .i64 (IntKind.wrap IntKind.i64 (l.k+IntKind.wrap IntKind.i64 (k*x.k))))),(.row 3 (0+List.length (List.map enc l.t)) 0 (0+List.length (List.map enc l.t)))])),(.obj (.row false 116 2 (([]:List PV)++List.map enc l.t)))]))):Zb VJ 0 (Zv 0 WN G) WQ [] (Ya 45 [.pv (enc l),.pv (enc x),.pv (enc k)] []):=Zb.to (dm [] 7 0x11222) h
theorem Bj{G:AV×List AObj×List AObj->Prop}(l x:Lin)(k:Int)(c:Int)(q w:Nat)(ts:List Coef)(i:Int)(h:if (decide (i<(↑(List.length (List.map enc x.t)):Int)))=true then(decide (0<=i)&&decide (Int.toNat i<List.length (List.map enc x.t))&&Enc.sz Coef==2)=true∧(∃ a:Coef,AV.pv (PV.rptr (PV.cells (List.getD (List.map enc x.t) (Int.toNat i) default)))=AV.pv (PV.rptr (PV.cells ((enc) a)))∧((decide (0<=i)&&decide (Int.toNat i<List.length (List.map enc x.t))&&Enc.sz Coef==2)=true∧(∃ b:Coef,AV.pv (PV.rptr (PV.cells (List.getD (List.map enc x.t) (Int.toNat i) default)))=AV.pv (PV.rptr (PV.cells ((enc) b)))∧((Qm [(.agg [(.pv (.int .i64 c)),(.row 0 q 0 w)]),(.pv (.str (PV.asStr (List.getD (List.drop 0 (PV.cells (enc a))) 0 default)))),(.pv (.int .i64 (IntKind.wrap IntKind.i64 (k*PV.asInt (List.getD (List.drop 1 (PV.cells (enc b))) 0 default)))))] [(.row false 116 2 (List.map enc ts))])=true∧(At VJ 0 (Zv 0 WN G) WQ 0 45 [(2,(.pv (.int .i64 k))),(4,(.ptr 0 0)),(6,(.ptr 1 0)),(7,(.ptr 2 0)),(8,(.pv (.int .i64 (IntKind.wrap IntKind.i64 (i+1)))))] [(.obj (.box [(.pv (.int .i64 x.k)),(.pv (.sl 2 false (List.map enc x.t)))])),(.obj (.box [(.pv (.int .i64 0)),(.pv (.sl 0 true []))])),(.obj (.box [(.pv (.int .i64 (LR.k (Wo (M9 c w (List.map enc ts)) (Str.mk (PV.asStr (List.getD (List.drop 0 (PV.cells (enc a))) 0 default))) (IntKind.wrap IntKind.i64 (k*PV.asInt (List.getD (List.drop 1 (PV.cells (enc b))) 0 default))))))),(.row 3 (List.length (LR.ts (Wo (M9 c w (List.map enc ts)) (Str.mk (PV.asStr (List.getD (List.drop 0 (PV.cells (enc a))) 0 default))) (IntKind.wrap IntKind.i64 (k*PV.asInt (List.getD (List.drop 1 (PV.cells (enc b))) 0 default)))))) 0 (LR.w (Wo (M9 c w (List.map enc ts)) (Str.mk (PV.asStr (List.getD (List.drop 0 (PV.cells (enc a))) 0 default))) (IntKind.wrap IntKind.i64 (k*PV.asInt (List.getD (List.drop 1 (PV.cells (enc b))) 0 default))))))])),(.obj (.row false 116 2 (List.map enc (LR.ts (Wo (M9 c w (List.map enc ts)) (Str.mk (PV.asStr (List.getD (List.drop 0 (PV.cells (enc a))) 0 default))) (IntKind.wrap IntKind.i64 (k*PV.asInt (List.getD (List.drop 1 (PV.cells (enc b))) 0 default))))))))])))))else(G (((.agg [(.pv (.int .i64 c)),(.row 0 q 0 w)]),([],[(.row false 116 2 (List.map enc ts))]))))):At VJ 0 (Zv 0 WN G) WQ 0 45 [(2,.pv (.int .i64 k)),(4,.ptr 0 0),(6,.ptr 1 0),(7,.ptr 2 0),(8,.pv (.int .i64 i))] [.obj (.box [.pv (.int .i64 x.k),.pv (enc x.t)]),.obj (.box [.pv (.int .i64 0),.pv (.sl 0 true [])]),.obj (.box [.pv (.int .i64 c),.row 3 q 0 w]),.obj (.row false 116 2 (ts.map enc))]:=At.to (dm [dr Coef] 18 0x231225125100b42) h
theorem c5g{ts:List Coef}{i:Nat}(h:i<ts.length):ts.getD i ⟨⟨[]⟩,0⟩=ts[i]:=by simp[List.getD,h]
theorem b8u(l:Lin)(s:List UInt8)(c:Int)(q:Nat)(ho:q<=2000000): ∀ (m i j:Nat) (ts:List Coef),m+i=q->ts.length=q->j<=i ->
  At ZY 0 (Zv 0 ZL (fun r=>r=Ud ⟨l.k,(V6 m i j ts).2,(V6 m i j ts).1⟩ 0 [])) ZP 1 100 [(6,.ptr 0 0),(7,.ptr 1 0),(11,.pv (.int .i64 j)),(12,.pv (.int .i64 i))] [.obj (.box [.pv (.int .i64 0),.pv (.sl 0 true [])]),.obj (.box [.pv (.int .i64 l.k),.row 2 q 0 q]),.obj (.row false 116 2 (ts.map enc))]:=by
 intro m
 induction m with
 | zero=>
  intro i j ts hm a g
  refine Rt l s c j i q ts (Y1 (by simp;omega) ?_)
  refine⟨by simp[a];omega,?_⟩
  subst a
  simp only[Int.toNat_natCast,Nat.zero_add]
  rfl
 | succ m ih=>
  intro i j ts hm a g
  have b:i<ts.length:=by omega
  have e:j<ts.length:=by omega
  refine Rt l s c j i q ts ?_
  simp only[c2w enc b,c2w enc e]
  refine YP (by simp;omega) ⟨by simp;omega,by simp;omega,rfl,?_⟩
  rw[V6,c5g b]
  by_cases hz:ts[i].c=0
  ·refine Y1 (by show ¬ (ts[i].c != 0)=true;simp[hz]) ?_
   rw[next (by omega),if_pos hz]
   exact ih (i+1) j ts (by omega) a (by omega)
  ·refine YP (by show(ts[i].c != 0)=true;simp[hz]) ⟨by simp;omega,by simp;omega,rfl,by simp;omega,?_,?_⟩
   ·simp only[List.length_map,a,beq_self_eq_true,Bool.true_and,Nat.zero_add,Int.toNat_natCast,decide_eq_true (show j<q by omega)]
    rfl
   ·rw[Nat.zero_add,Int.toNat_natCast,b7q,next (by omega),next (by omega),if_neg hz]
    exact ih (i+1) (j+1) (ts.set j ts[i]) (by omega) (by simp[a]) (by omega)
theorem GK(l:Lin)(s:List UInt8)(c:Int)(o:List Coef)(ho:o.length<=2000000):
  At ZY 0 (Zv 0 ZL (fun r=>r=Ud (KH l.k o) 0 [])) ZP 1 100 [(6,.ptr 0 0),(7,.ptr 1 0),(11,.pv (.int .i64 0)),(12,.pv (.int .i64 0))] [.obj (.box [.pv (.int .i64 0),.pv (.sl 0 true [])]),.obj (.box [.pv (.int .i64 l.k),.row 2 o.length 0 o.length]),.obj (.row false 116 2 (o.map enc))]:=
 b8u l s c o.length ho o.length 0 0 o (by omega) rfl (by omega)
theorem b6z(l:Lin)(s:List UInt8)(c:Int)(hl:l.t.length<=1000000): ∀ (m i:Nat) (p:Bool) (q:Nat) (ts:List Coef),m+i=l.t.length->q=ts.length->(p=false->ts.length<=i)->ts.length<=i+1 ->
  At ZY 0 (Zv 0 ZL (fun r=>r=Ud (KH l.k (ts++XA ⟨s⟩ c p (l.t.drop i))) 0 [])) ZP 0 100 [(1,.pv (.str s)),(2,.pv (.int .i64 c)),(3,.ptr 0 0),(6,.ptr 1 0),(7,.ptr 2 0),(8,.pv (.bool p)),(9,.pv (.int .i64 i))]
   [.obj (.box [.pv (.int .i64 l.k),.pv (enc l.t)]),.obj (.box [.pv (.int .i64 0),.pv (.sl 0 true [])]),.obj (.box [.pv (.int .i64 l.k),.row 3 q 0 q]),.obj (.row false 116 2 (ts.map enc))]:=by
 intro m
 induction m with
 | zero=>
  intro i p q ts hm z h1 h2
  refine SL l s c p i q ts (Y1 (Cg (by omega)) ?_)
  rw[List.drop_of_length_le (show l.t.length<=i by omega)]
  refine YN (fun u=> ?_) fun u=> ?_
  ·subst u
   refine⟨by simp[z];omega,?_⟩
   have h:=GK l s c (ts++[⟨⟨s⟩,c⟩]) (by simp;omega)
   rw[List.map_append,List.length_append,<- z]at h
   rw[XA]
   exact h
  ·subst u
   have h:=GK l s c ts (by omega)
   rw[<- z]at h
   rw[XA,if_pos rfl,List.append_nil]
   exact h
 | succ m ih=>
  intro i p q ts hm z h1 h2
  have j:i<l.t.length:=by omega
  refine SL l s c p i q ts (YP (Cf j) ⟨Xg j rfl,Wn j ?_⟩)
  rw[List.drop_eq_getElem_cons j,next (by omega)]
  have b : ∀ (B:Bool) (add:List Coef),add.length<=2->(B=false->(ts++add).length<=i+1)->(ts++add).length<=i+2->ts++XA ⟨s⟩ c p (l.t[i]::l.t.drop (i+1))=(ts++add)++XA ⟨s⟩ c B (l.t.drop (i+1)) ->
    At ZY 0 (Zv 0 ZL (fun r=>r=Ud (KH l.k (ts++XA ⟨s⟩ c p (l.t[i]::l.t.drop (i+1)))) 0 [])) ZP 0 100 [(1,.pv (.str s)),(2,.pv (.int .i64 c)),(3,.ptr 0 0),(6,.ptr 1 0),(7,.ptr 2 0),(8,.pv (.bool B)),(9,.pv (.int .i64 ((i+1:Nat):Int)))]
     [.obj (.box [.pv (.int .i64 l.k),.pv (enc l.t)]),.obj (.box [.pv (.int .i64 0),.pv (.sl 0 true [])]),.obj (.box [.pv (.int .i64 l.k),.row 3 (q+add.length) 0 (q+add.length)]),.obj (.row false 116 2 (ts.map enc++add.map enc))]:=by
   intro B add h3 D F E
   rw[E,<- List.map_append]
   exact ih (i+1) B (q+add.length) (ts++add) (by omega) (by simp[z]) D F
  generalize l.t[i]=y at b ⊢
  obtain⟨⟨a⟩,yc⟩:=y
  subst z
  refine YN (fun u=> ?_) fun u=> ?_
  ·subst u
   have hle:=h1 rfl
   refine YN (fun hb=> ?_) fun hb=> ?_
   ·have hb:(Op.bytesLess a s||a==s)=false:=hb
    have g:s<a:=by
     simp only[YH,Bool.or_eq_false_iff,decide_eq_false_iff_not,beq_eq_false_iff_ne]at hb
     exact tri hb.1 hb.2
    have C : ¬ a=s:=fun e=>by rw[e]at g;exact List.lt_irrefl _ g
    refine⟨by simp;omega,Z7 (fun h=>absurd h C) fun _=>⟨by simp;omega,?_⟩⟩
    have:=b true [⟨⟨s⟩,c⟩,⟨⟨a⟩,yc⟩] (by simp) (fun h=>by cases h) (by simp;omega) (by rw[Ji,if_pos g];simp)
    rw[List.append_assoc]
    exact this
   ·have hb:(Op.bytesLess a s||a==s)=true:=hb
    have A : ¬ s<a:=by
     simp only[YH,Bool.or_eq_true,decide_eq_true_eq,beq_iff_eq]at hb
     rcases hb with h|h
     ·exact List.lt_asymm h
     ·rw[h];exact List.lt_irrefl _
    refine Z7 (fun h=> ?_) fun h=> ?_
    ·have h:a=s:=h
     subst h
     refine⟨by simp;omega,?_⟩
     exact b true [⟨⟨a⟩,YZ (yc+c)⟩] (by simp) (fun h=>by cases h) (by simp;omega) (by rw[Ji,if_neg A,if_pos rfl];simp)
    ·have h:a≠s:=h
     refine⟨by simp;omega,?_⟩
     exact b false [⟨⟨a⟩,yc⟩] (by simp) (fun _=>by simp;omega) (by simp;omega) (by rw[Ji,if_neg A,if_neg (by rw[K7];exact h)];simp)
  ·subst u
   refine Z7 (fun h=> ?_) fun h=> ?_
   ·have h:a=s:=h
    subst h
    refine⟨by simp;omega,?_⟩
    exact b true [⟨⟨a⟩,YZ (yc+c)⟩] (by simp) (fun h=>by cases h) (by simp;omega) (by rw[a5b,if_pos rfl];simp)
   ·have h:a≠s:=h
    refine⟨by simp;omega,?_⟩
    exact b true [⟨⟨a⟩,yc⟩] (by simp) (fun h=>by cases h) (by simp;omega) (by rw[a5b,if_neg (by rw[K7];exact h)];simp)
theorem b0v(l:Lin)(s:List UInt8)(c:Int)(D:l.t.length<=1000000):Zb ZY 0 (Zv 0 ZL (fun r=>r=Ud (Wo l ⟨s⟩ c) 0 [])) ZP [] (Ya NS [.pv (enc l),.pv (.str s),.pv (enc c)] []):=by
 refine c5t l s c (b0g l s c false 0 ?_)
 show if _ then _ else(if _ then At ZY 0 (Zv 0 ZL (fun r=>r=Ud (KH l.k (XA ⟨s⟩ c false l.t)) 0 [])) _ _ _ _ _ else _)
 by_cases h0:l.t=[]
 ·refine Y1 (by simp[h0]) (YP rfl ?_)
  have h:=GK l s c [⟨⟨s⟩,c⟩] (by simp)
  rw[h0,XA]
  exact h
 ·have q:0<l.t.length:=List.length_pos_iff.2 h0
  refine YP (by simp;omega) ⟨by simp[Enc.sz];omega,Wn q ?_⟩
  have B:l.t=l.t[0]::l.t.drop 1:=by
   have:=List.drop_eq_getElem_cons q
   rwa [List.drop_zero]at this
  have g : ∀ (j:Bool) (add:List Coef),add.length<=2->(j=false->add.length<=1)->XA ⟨s⟩ c false (l.t[0]::l.t.drop 1)=add++XA ⟨s⟩ c j (l.t.drop 1) ->
    At ZY 0 (Zv 0 ZL (fun r=>r=Ud (KH l.k (XA ⟨s⟩ c false l.t)) 0 [])) ZP 0 100 [(1,.pv (.str s)),(2,.pv (.int .i64 c)),(3,.ptr 0 0),(6,.ptr 1 0),(7,.ptr 2 0),(8,.pv (.bool j)),(9,.pv (.int .i64 ((0+1:Nat):Int)))]
     [.obj (.box [.pv (.int .i64 l.k),.pv (enc l.t)]),.obj (.box [.pv (.int .i64 0),.pv (.sl 0 true [])]),.obj (.box [.pv (.int .i64 l.k),.row 3 add.length 0 add.length]),.obj (.row false 116 2 (add.map enc))]:=by
   intro j add h3 A E
   have C:XA ⟨s⟩ c false l.t=add++XA ⟨s⟩ c j (l.t.drop 1):=by rw[<- E,<- B]
   rw[C]
   exact b6z l s c D (l.t.length - 1) (0+1) j add.length add (by omega) rfl (fun h=>A h) (by omega)
  rw[show IntKind.wrap IntKind.i64 (0+1)=((0+1:Nat):Int)from rfl]
  generalize l.t[0]=y at g ⊢
  obtain⟨⟨a⟩,yc⟩:=y
  refine YP rfl ?_
  refine YN (fun hb=> ?_) fun hb=> ?_
  ·have hb:(Op.bytesLess a s||a==s)=false:=hb
   have b:s<a:=by
    simp only[YH,Bool.or_eq_false_iff,decide_eq_false_iff_not,beq_eq_false_iff_ne]at hb
    exact tri hb.1 hb.2
   have z : ¬ a=s:=fun e=>by rw[e]at b;exact List.lt_irrefl _ b
   refine Z7 (fun h=>absurd h z) fun _=> ?_
   exact g true [⟨⟨s⟩,c⟩,⟨⟨a⟩,yc⟩] (by simp) (fun h=>by cases h) (by rw[Ji,if_pos b];simp)
  ·have hb:(Op.bytesLess a s||a==s)=true:=hb
   have u : ¬ s<a:=by
    simp only[YH,Bool.or_eq_true,decide_eq_true_eq,beq_iff_eq]at hb
    rcases hb with h|h
    ·exact List.lt_asymm h
    ·rw[h];exact List.lt_irrefl _
   refine Z7 (fun h=> ?_) fun h=> ?_
   ·have h:a=s:=h
    subst h
    exact g true [⟨⟨a⟩,YZ (yc+c)⟩] (by simp) (fun h=>by cases h) (by rw[Ji,if_neg u,if_pos rfl];simp)
   ·have h:a≠s:=h
    exact g false [⟨⟨a⟩,yc⟩] (by simp) (fun _=>by simp) (by rw[Ji,if_neg u,if_neg (by rw[K7];exact h)];simp)
theorem a8n: ∀ args os,Qo args os=true->Zb ZY os.length (Zv os.length ZL fun r=>r=Qr args os) ZP [] (Ya NS args os):=by
 intro args os h
 unfold Qo at h
 split at h
 ·rename_i l s c
  simp only[Bool.and_eq_true,decide_eq_true_eq]at h
  obtain⟨a,h1⟩:=h
  obtain⟨l,rfl⟩:=Js a
  rw[Enc.dec_enc]at h1
  have ev:Qr [.pv (enc l),.pv (.str s),.pv (.int .i64 c)] []=Ud (Wo l ⟨s⟩ c) 0 []:=by
   show Ud (Wo (dec (enc l:PV)) ⟨s⟩ c) 0 []=_
   rw[Enc.dec_enc]
  rw[ev]
  exact b0v l s c h1
 ·cases h
theorem c8x(r:LR):M9 r.k r.w (r.ts.map enc)=r.view:=by
 unfold M9
 rw[show(dec (PV.sl 2 false (r.ts.map enc)):List Coef)=r.ts from Enc.dec_enc r.ts]
 rfl
theorem c6k(ts:List Coef):Rv (List Coef) (.sl 2 false (ts.map enc))=true:=UJ (α:=List Coef) ts
def b4x(k:Int)(o:LR)(t:Coef):LR:=Wo o.view t.v (YZ (k*t.c))
theorem d0d(l:Lin)(s:Str)(c:Int):(Wo l s c).w<=(Wo l s c).ts.length∧(Wo l s c).w<=l.t.length+1:=by
 have h1:=d8q l.k (XA s c false l.t)
 have h2:=b3v l.k (XA s c false l.t)
 have h3:=GV s c l.t
 exact⟨by show(KH _ _).w<=(KH _ _).ts.length;omega,by show(KH _ _).w<=_;omega⟩
theorem NT(l x:Lin)(k:Int)(hx:x.t.length<=500000): ∀ (m i:Nat) (r:LR),m+i=x.t.length->r.w<=r.ts.length->r.w<=500000+i ->
  At VJ 0 (Zv 0 WN (fun z=>z=Ud ((x.t.drop i).foldl (b4x k) r) 0 [])) WQ 0 45 [(2,.pv (.int .i64 k)),(4,.ptr 0 0),(6,.ptr 1 0),(7,.ptr 2 0),(8,.pv (.int .i64 i))] [.obj (.box [.pv (.int .i64 x.k),.pv (enc x.t)]),.obj (.box [.pv (.int .i64 0),.pv (.sl 0 true [])]),.obj (.box [.pv (.int .i64 r.k),.row 3 r.ts.length 0 r.w]),.obj (.row false 116 2 (r.ts.map enc))]:=by
 intro m
 induction m with
 | zero=>
  intro i r hi e ho
  refine Bj l x k r.k r.ts.length r.w r.ts i (Y1 (Cg (by omega)) ?_)
  rw[List.drop_of_length_le (show x.t.length<=i by omega)]
  rfl
 | succ m ih=>
  intro i r hi e ho
  have a:i<x.t.length:=by omega
  refine Bj l x k r.k r.ts.length r.w r.ts i (YP (Cf a) ⟨Xg a rfl,Wn a ⟨Xg a rfl,Wn a ⟨?_,?_⟩⟩⟩)
  ·show(Rv (List Coef) (.sl 2 false (r.ts.map enc))&&(r.ts.map (enc:Coef->PV)).length==r.ts.length&&decide (r.w<=r.ts.length)&&decide (r.w<=1000000))=true
   rw[c6k,List.length_map,decide_eq_true e,decide_eq_true (show r.w<=1000000 by omega)]
   simp
  ·rw[c8x,List.drop_eq_getElem_cons a,List.foldl_cons,next (by omega)]
   have b:=d0d r.view x.t[i].v (YZ (k*x.t[i].c))
   have hv:r.view.t.length<=r.w:=by show(r.ts.take r.w).length<=_;simp;omega
   exact ih (i+1) (b4x k r x.t[i]) (by omega) b.1 (by have:=b.2;show(Wo r.view x.t[i].v (YZ (k*x.t[i].c))).w<=_;omega)
theorem Oq(l x:Lin)(k:Int)(hl:l.t.length<=500000)(a:x.t.length<=500000):Zb VJ 0 (Zv 0 WN (fun z=>z=Ud (QL l x k) 0 [])) WQ [] (Ya SH [.pv (enc l),.pv (enc x),.pv (enc k)] []):=by
 refine b1f l x k ⟨by simp[Enc.sz],by simp;omega,?_⟩
 have b:(0+List.length (List.map (enc:Coef->PV) l.t))=l.t.length:=by simp
 rw[b,List.nil_append]
 have h:=NT l x k a x.t.length 0 ⟨YZ (l.k+YZ (k*x.k)),l.t.length,l.t⟩ (by omega) (Nat.le_refl _) (by show l.t.length<=_;omega)
 exact h
theorem a1z: ∀ args os,QT args os=true->Zb VJ os.length (Zv os.length WN fun r=>r=KT args os) WQ [] (Ya SH args os):=by
 intro args os h
 unfold QT at h
 split at h
 ·rename_i l x k
  simp only[Bool.and_eq_true,decide_eq_true_eq]at h
  obtain⟨⟨⟨b,a⟩,h1⟩,h2⟩:=h
  obtain⟨l,rfl⟩:=Js b
  obtain⟨x,rfl⟩:=Js a
  rw[Enc.dec_enc]at h1 h2
  have ev:KT [.pv (enc l),.pv (enc x),.pv (.int .i64 k)] []=Ud (QL l x k) 0 []:=by
   show Ud (QL (dec (enc l:PV)) (dec (enc x:PV)) k) 0 []=_
   rw[Enc.dec_enc,Enc.dec_enc]
  rw[ev]
  exact Oq l x k h1 h2
 ·cases h
theorem Uw.rfl(ps:List PV):Uw ps ps:=⟨Eq.refl _,fun j x y b a Φ v h=>by rw[b]at a;cases a;exact h⟩
theorem c4z{pre:List AV->List AObj->Bool}{val:List AV->List AObj->AV×List AObj×List AObj}{a b c:PV}{r:LR}{o:AObj}(h1:pre [.pv a,.pv b,.pv c] []=true)(h2:val [.pv a,.pv b,.pv c] []=Ud r 0 []):
  (Hu 1 pre val [.pv a,.pv b,.pv c]).run [.obj o,.fresh]=some (r.av 1,[.obj o,.obj r.ob]):=by
 have H : ∀ (t:Bool) (v:AV×List AObj×List AObj),t=true->v=Ud r 0 []->(HM.req t (match v with
   | (x,os,ext)=>match x.ren (bwd [] 1),Qh (bwd [] 1) os,Qh (bwd [] 1) ext with
    | some x',some os',some ext'=>if os'.length=([]:List Nat).length then Aw (([]:List Nat).zip os') (Bd 1 ext' (.ret x'))else .fail
    | _,_,_=>.fail)).run [.obj o,.fresh]=some (r.av 1,[.obj o,.obj r.ob]):=by
  rintro _ _ rfl rfl
  rfl
 exact H _ _ h1 h2
theorem b8a(fz:Bool)(ty:Nat)(xs:List PV)(r:LR):DF 1 (Uu 256 (List.range 1++Uv [r.av 1]) [] [.obj (.row fz ty 2 xs),.obj r.ob]) [r.av 1] [.obj (.row fz ty 2 xs),.obj r.ob]=some ([r.av 1],[.row fz ty 2 xs,r.ob]):=by
 obtain⟨k,w,ts⟩:=r
 rfl
theorem a7v{P:Program}{f:Nat}(h:Ym P f Qo Qr):Ym P f Qm K4:=by
 refine Ym.thaw h fun args os g=> ?_
 unfold Qm at g
 split at g
 ·rename_i k q w s c fz ty xs
  simp only[Bool.and_eq_true,decide_eq_true_eq,beq_iff_eq]at g
  obtain⟨⟨⟨hc,l⟩,hw⟩,hw2⟩:=g
  obtain⟨ts,e⟩:=Js hc
  have e:xs=ts.map enc:=by cases e;rfl
  subst e
  have l:ts.length=q:=by simpa using l
  subst l
  have z:(dec (PV.sl 2 false (ts.map enc)):List Coef)=ts:=Enc.dec_enc ts
  have ev:K4 [.agg [.pv (.int .i64 k),.row 0 ts.length 0 w],.pv (.str s),.pv (.int .i64 c)] [.row fz ty 2 (ts.map enc)]=Ud (Wo ⟨k,ts.take w⟩ ⟨s⟩ c) 1 [.row true ty 2 (ts.map enc)]:=by
   show Ud (Wo ⟨k,List.take w (dec (PV.sl 2 false (ts.map enc)):List Coef)⟩ ⟨s⟩ c) 1 _=_
   rw[z]
  rw[ev]
  have u:(.sl 2 false (List.drop 0 (List.take w (List.map (enc:Coef->PV) ts))):PV)=enc (ts.take w):=by rw[List.drop_zero,<- List.map_take];rfl
  have b:Qo [.pv (.agg [.int .i64 k,.sl 2 false (List.drop 0 (List.take w (List.map (enc:Coef->PV) ts)))]),.pv (.str s),.pv (.int .i64 c)] []=true:=by
   rw[u]
   show(Rv Lin (enc (⟨k,ts.take w⟩:Lin))&&decide ((dec (enc (⟨k,ts.take w⟩:Lin):PV):Lin).t.length<=1000000))=true
   rw[UJ,Enc.dec_enc]
   simp;omega
  have a:Qr [.pv (.agg [.int .i64 k,.sl 2 false (List.drop 0 (List.take w (List.map (enc:Coef->PV) ts)))]),.pv (.str s),.pv (.int .i64 c)] []=Ud (Wo ⟨k,ts.take w⟩ ⟨s⟩ c) 0 []:=by
   rw[u]
   show Ud (Wo (dec (enc (⟨k,ts.take w⟩:Lin):PV)) ⟨s⟩ c) 0 []=_
   rw[Enc.dec_enc]
  generalize Wo ⟨k,ts.take w⟩ ⟨s⟩ c=r at a ⊢
  generalize j:List.drop 0 (List.take w (List.map (enc:Coef->PV) ts))=sl at b a
  have y:(List.map (enc:Coef->PV) ts).length=ts.length:=by simp
  generalize List.map (enc:Coef->PV) ts=xs at y j ⊢
  rw[<- y]
  refine⟨1,[.agg [.int .i64 k,.sl 2 false sl],.str s,.int .i64 c],[.agg [.int .i64 k,.sl 2 false sl],.str s,.int .i64 c],[.obj (.row true ty 2 xs),.fresh],r.av 1,[.obj (.row true ty 2 xs),.obj r.ob],r.av 1,[.row true ty 2 xs,r.ob],Uw.rfl _,?_,?_,?_,rfl⟩
  ·subst j
   simp[VL,frz,HM.bind,HM.run,Yt,HM.req]
   done
  ·exact c4z b a
  ·exact b8a true ty xs r
 ·cases g
theorem LR.frz_av(r:LR):(frz (r.av 0)).run (Yt [r.ob])=some (enc r.view,[.obj (.row true 116 2 (r.ts.map enc))]):=by
 have:(PV.agg [.int .i64 r.k,.sl 2 false (List.drop 0 (List.take r.w (r.ts.map enc)))])=enc r.view:=by
  rw[List.drop_zero,<- List.map_take];rfl
 rw[<- this]
 simp[frz,VL,HM.bind,HM.run,Yt,LR.av,LR.ob]
theorem a0g{P:Program}{f:Nat}(h:Ym P f QT KT):ZO P f (fun x:Lin×Lin×Int×Unit=>decide (x.1.t.length<=500000)&&decide (x.2.1.t.length<=500000)) (fun x:Lin×Lin×Int×Unit=>ZR x.1 x.2.1 x.2.2.1):=ZO.of_own h fun a ha=>by
 obtain⟨l,x,k,⟨⟩⟩:=a
 have ha:l.t.length<=500000∧x.t.length<=500000:=by simpa using ha
 refine⟨(QL l x k).av 0,[(QL l x k).ob],_,_,?_,?_,LR.frz_av _,?_⟩
 ·show(Rv Lin (enc l)&&Rv Lin (enc x)&&decide ((dec (enc l:PV):Lin).t.length<=500000)&&decide ((dec (enc x:PV):Lin).t.length<=500000))=true
  rw[UJ,UJ,Enc.dec_enc,Enc.dec_enc,decide_eq_true ha.1,decide_eq_true ha.2];rfl
 ·show Ud (QL (dec (enc l:PV)) (dec (enc x:PV)) k) 0 []=_
  rw[Enc.dec_enc,Enc.dec_enc];rfl
 ·rw[MU];exact .refl _
noncomputable def DD:IC:=XG Proofs.Tryz.f115
def KD:List IRes:=[(.cell true 2 2),(.tmp 3)]
abbrev MM:Nat:=9
def JX:ZC:=YG [(114,.pure (preT (fun x:Lin×Unit=>Yn x.1)) (Zm (fun x:Lin×Unit=>Zd x.1)))]
theorem Ew{G:PV->Prop}(l:Lin)(h:(Go.Pl.preT (fun(x:Lin×Unit)=>Yn x.1) [(.agg [(.int .i64 l.k),(.sl 2 false (List.map enc l.t))])])=true∧(∃ a:Bool,AV.pv (Zm (fun(x:Lin×Unit)=>Zd x.1) [(.agg [(.int .i64 l.k),(.sl 2 false (List.map enc l.t))])])=AV.pv (enc a)∧(if (!a)=true then G ((.tup [(.agg [(.int .i64 0),(.sl 0 true [])]),(.int .i64 3)]))else(G ((.tup [(.agg [(.int .i64 l.k),(.sl 2 false (List.map enc l.t))]),(.int .i64 0)])))))):Zb JX 0 (Za KD G) DD [] (Yh 9 [enc l]):=Zb.tp (dm [dv Bool] 9 0x1451) h
noncomputable def LU:IC:=XG Proofs.Tryz.f77
def Bh:List IRes:=[(.cell true 2 4),(.tmp 5)]
abbrev b1w:Nat:=21
def Pv:ZC:=YG [(114,.pure (preT (fun x:Lin×Unit=>Yn x.1)) (Zm (fun x:Lin×Unit=>Zd x.1))),(116,.pure (preT (fun x:Lin×Lin×Int×Unit=>decide (x.1.t.length<=500000)&&decide (x.2.1.t.length<=500000))) (Zm (fun x:Lin×Lin×Int×Unit=>ZR x.1 x.2.1 x.2.2.1))),(115,.pure (preT (fun x:Lin×Unit=>Yn x.1)) (Zm (fun x:Lin×Unit=>UG x.1)))]
theorem c6d{G:PV->Prop}(a b:Lin)(h:(Go.Pl.preT (fun(x:Lin×Unit)=>Yn x.1) [(.agg [(.int .i64 a.k),(.sl 2 false (List.map enc a.t))])])=true∧(∃ j:Bool,AV.pv (Zm (fun(x:Lin×Unit)=>Zd x.1) [(.agg [(.int .i64 a.k),(.sl 2 false (List.map enc a.t))])])=AV.pv (enc j)∧(if (!j)=true then G ((.tup [(.agg [(.int .i64 0),(.sl 0 true [])]),(.int .i64 1)]))else((Go.Pl.preT (fun(x:Lin×Unit)=>Yn x.1) [(.agg [(.int .i64 b.k),(.sl 2 false (List.map enc b.t))])])=true∧(∃ l:Bool,AV.pv (Zm (fun(x:Lin×Unit)=>Zd x.1) [(.agg [(.int .i64 b.k),(.sl 2 false (List.map enc b.t))])])=AV.pv (enc l)∧(if (!l)=true then G ((.tup [(.agg [(.int .i64 0),(.sl 0 true [])]),(.int .i64 1)]))else((Go.Pl.preT (fun(x:Lin×Lin×Int×Unit)=>decide (List.length x.1.t<=500000)&&decide (List.length x.2.1.t<=500000)) [(.agg [(.int .i64 a.k),(.sl 2 false (List.map enc a.t))]),(.agg [(.int .i64 b.k),(.sl 2 false (List.map enc b.t))]),(.int .i64 1)])=true∧(∃ e:Lin,AV.pv (Zm (fun(x:Lin×Lin×Int×Unit)=>ZR x.1 x.2.1 x.2.2.1) [(.agg [(.int .i64 a.k),(.sl 2 false (List.map enc a.t))]),(.agg [(.int .i64 b.k),(.sl 2 false (List.map enc b.t))]),(.int .i64 1)])=AV.pv (enc e)∧((Go.Pl.preT (fun(x:Lin×Unit)=>Yn x.1) [(.agg [(.int .i64 e.k),(.sl 2 false (List.map enc e.t))])])=true∧(∃ g:Lin×Int,AV.pv (Zm (fun(x:Lin×Unit)=>UG x.1) [(.agg [(.int .i64 e.k),(.sl 2 false (List.map enc e.t))])])=AV.pv (enc g)∧(G ((.tup [(.agg [(.int .i64 g.1.k),(.sl 2 false (List.map enc g.1.t))]),(.int .i64 g.2)]))))))))))))):Zb Pv 0 (Za Bh G) LU [] (Yh 21 [enc a,enc b]):=Zb.tp (dm [dv Bool,dv Lin,dv (Lin×Int)] 27 0x7161000142251202222005451) h
noncomputable def F6:IC:=XG Proofs.Tryz.f76
def Bz:List IRes:=[(.cell true 2 4),(.tmp 5)]
abbrev b4r:Nat:=21
def Pf:ZC:=YG [(114,.pure (preT (fun x:Lin×Unit=>Yn x.1)) (Zm (fun x:Lin×Unit=>Zd x.1))),(116,.pure (preT (fun x:Lin×Lin×Int×Unit=>decide (x.1.t.length<=500000)&&decide (x.2.1.t.length<=500000))) (Zm (fun x:Lin×Lin×Int×Unit=>ZR x.1 x.2.1 x.2.2.1))),(115,.pure (preT (fun x:Lin×Unit=>Yn x.1)) (Zm (fun x:Lin×Unit=>UG x.1)))]
theorem c9w{G:PV->Prop}(a b:Lin)(h:(Go.Pl.preT (fun(x:Lin×Unit)=>Yn x.1) [(.agg [(.int .i64 a.k),(.sl 2 false (List.map enc a.t))])])=true∧(∃ j:Bool,AV.pv (Zm (fun(x:Lin×Unit)=>Zd x.1) [(.agg [(.int .i64 a.k),(.sl 2 false (List.map enc a.t))])])=AV.pv (enc j)∧(if (!j)=true then G ((.tup [(.agg [(.int .i64 0),(.sl 0 true [])]),(.int .i64 1)]))else((Go.Pl.preT (fun(x:Lin×Unit)=>Yn x.1) [(.agg [(.int .i64 b.k),(.sl 2 false (List.map enc b.t))])])=true∧(∃ l:Bool,AV.pv (Zm (fun(x:Lin×Unit)=>Zd x.1) [(.agg [(.int .i64 b.k),(.sl 2 false (List.map enc b.t))])])=AV.pv (enc l)∧(if (!l)=true then G ((.tup [(.agg [(.int .i64 0),(.sl 0 true [])]),(.int .i64 1)]))else((Go.Pl.preT (fun(x:Lin×Lin×Int×Unit)=>decide (List.length x.1.t<=500000)&&decide (List.length x.2.1.t<=500000)) [(.agg [(.int .i64 a.k),(.sl 2 false (List.map enc a.t))]),(.agg [(.int .i64 b.k),(.sl 2 false (List.map enc b.t))]),(.int .i64 (-1))])=true∧(∃ e:Lin,AV.pv (Zm (fun(x:Lin×Lin×Int×Unit)=>ZR x.1 x.2.1 x.2.2.1) [(.agg [(.int .i64 a.k),(.sl 2 false (List.map enc a.t))]),(.agg [(.int .i64 b.k),(.sl 2 false (List.map enc b.t))]),(.int .i64 (-1))])=AV.pv (enc e)∧((Go.Pl.preT (fun(x:Lin×Unit)=>Yn x.1) [(.agg [(.int .i64 e.k),(.sl 2 false (List.map enc e.t))])])=true∧(∃ g:Lin×Int,AV.pv (Zm (fun(x:Lin×Unit)=>UG x.1) [(.agg [(.int .i64 e.k),(.sl 2 false (List.map enc e.t))])])=AV.pv (enc g)∧(G ((.tup [(.agg [(.int .i64 g.1.k),(.sl 2 false (List.map enc g.1.t))]),(.int .i64 g.2)]))))))))))))):Zb Pf 0 (Za Bz G) F6 [] (Yh 21 [enc a,enc b]):=Zb.tp (dm [dv Bool,dv Lin,dv (Lin×Int)] 27 0x7161000142251202222005451) h
noncomputable def AY:IC:=XG Proofs.Tryz.f112
def JP:List IRes:=[(.cell true 2 4),(.tmp 5)]
abbrev Ev:Nat:=30
def De:ZC:=YG [(114,.pure (preT (fun x:Lin×Unit=>Yn x.1)) (Zm (fun x:Lin×Unit=>Zd x.1))),(157,.pure (preT (fun _:Int×Unit=>true)) (Zm (fun x:Int×Unit=>ZT x.1))),(116,.pure (preT (fun x:Lin×Lin×Int×Unit=>decide (x.1.t.length<=500000)&&decide (x.2.1.t.length<=500000))) (Zm (fun x:Lin×Lin×Int×Unit=>ZR x.1 x.2.1 x.2.2.1))),(115,.pure (preT (fun x:Lin×Unit=>Yn x.1)) (Zm (fun x:Lin×Unit=>UG x.1)))]
theorem a8a{G:PV->Prop}(a:Lin)(k:Int)(h:(Go.Pl.preT (fun(x:Lin×Unit)=>Yn x.1) [(.agg [(.int .i64 a.k),(.sl 2 false (List.map enc a.t))])])=true∧(∃ l:Bool,AV.pv (Zm (fun(x:Lin×Unit)=>Zd x.1) [(.agg [(.int .i64 a.k),(.sl 2 false (List.map enc a.t))])])=AV.pv (enc l)∧(if (!l)=true then G ((.tup [(.agg [(.int .i64 0),(.sl 0 true [])]),(.int .i64 1)]))else(∃ q:Bool,AV.pv (Zm (fun(x:Int×Unit)=>ZT x.1) [(.int .i64 k)])=AV.pv (enc q)∧(if (!q)=true then if (a.k != 0)=true then G ((.tup [(.agg [(.int .i64 0),(.sl 0 true [])]),(.int .i64 3)]))else(if (decide ((↑(List.length (List.map enc a.t)):Int)>0))=true then G ((.tup [(.agg [(.int .i64 0),(.sl 0 true [])]),(.int .i64 3)]))else((Go.Pl.preT (fun(x:Lin×Lin×Int×Unit)=>decide (List.length x.1.t<=500000)&&decide (List.length x.2.1.t<=500000)) [(.agg [(.int .i64 0),(.sl 0 true [])]),(.agg [(.int .i64 a.k),(.sl 2 false (List.map enc a.t))]),(.int .i64 0)])=true∧(∃ b:Lin,AV.pv (Zm (fun(x:Lin×Lin×Int×Unit)=>ZR x.1 x.2.1 x.2.2.1) [(.agg [(.int .i64 0),(.sl 0 true [])]),(.agg [(.int .i64 a.k),(.sl 2 false (List.map enc a.t))]),(.int .i64 0)])=AV.pv (enc b)∧((Go.Pl.preT (fun(x:Lin×Unit)=>Yn x.1) [(.agg [(.int .i64 b.k),(.sl 2 false (List.map enc b.t))])])=true∧(∃ j:Lin×Int,AV.pv (Zm (fun(x:Lin×Unit)=>UG x.1) [(.agg [(.int .i64 b.k),(.sl 2 false (List.map enc b.t))])])=AV.pv (enc j)∧(G ((.tup [(.agg [(.int .i64 j.1.k),(.sl 2 false (List.map enc j.1.t))]),(.int .i64 j.2)]))))))))else((Go.Pl.preT (fun(x:Lin×Lin×Int×Unit)=>decide (List.length x.1.t<=500000)&&decide (List.length x.2.1.t<=500000)) [(.agg [(.int .i64 0),(.sl 0 true [])]),(.agg [(.int .i64 a.k),(.sl 2 false (List.map enc a.t))]),(.int .i64 k)])=true∧(∃ e:Lin,AV.pv (Zm (fun(x:Lin×Lin×Int×Unit)=>ZR x.1 x.2.1 x.2.2.1) [(.agg [(.int .i64 0),(.sl 0 true [])]),(.agg [(.int .i64 a.k),(.sl 2 false (List.map enc a.t))]),(.int .i64 k)])=AV.pv (enc e)∧((Go.Pl.preT (fun(x:Lin×Unit)=>Yn x.1) [(.agg [(.int .i64 e.k),(.sl 2 false (List.map enc e.t))])])=true∧(∃ g:Lin×Int,AV.pv (Zm (fun(x:Lin×Unit)=>UG x.1) [(.agg [(.int .i64 e.k),(.sl 2 false (List.map enc e.t))])])=AV.pv (enc g)∧(G ((.tup [(.agg [(.int .i64 g.1.k),(.sl 2 false (List.map enc g.1.t))]),(.int .i64 g.2)])))))))))))):Zb De 0 (Za JP G) AY [] (Yh 30 [enc a,enc k]):=Zb.tp (dm [dv Bool,dv Lin,dv (Lin×Int)] 45 0x71610716100014222220222220064201a4520001451) h
noncomputable def LW:IC:=XG Proofs.Tryz.f72
def MW:List IRes:=[(.cell true 2 4),(.tmp 5)]
abbrev c1k:Nat:=11
def a4p:ZC:=YG [(107,.pure (preT (fun x:Lin×Lin×Int×Unit=>Zp x.1&&Zp x.2.1)) (Zm (fun x:Lin×Lin×Int×Unit=>Zi x.1 x.2.1 x.2.2.1)))]
theorem c8q{G:PV->Prop}(a b:Lin)(h:(Go.Pl.preT (fun(x:Lin×Lin×Int×Unit)=>Zp x.1&&Zp x.2.1) [(.agg [(.int .i64 a.k),(.sl 2 false (List.map enc a.t))]),(.agg [(.int .i64 b.k),(.sl 2 false (List.map enc b.t))]),(.int .i64 (-1))])=true∧(∃ e:Lin×Int,AV.pv (Zm (fun(x:Lin×Lin×Int×Unit)=>Zi x.1 x.2.1 x.2.2.1) [(.agg [(.int .i64 a.k),(.sl 2 false (List.map enc a.t))]),(.agg [(.int .i64 b.k),(.sl 2 false (List.map enc b.t))]),(.int .i64 (-1))])=AV.pv (enc e)∧(G ((.tup [(.agg [(.int .i64 e.1.k),(.sl 2 false (List.map enc e.1.t))]),(.int .i64 e.2)]))))):Zb a4p 0 (Za MW G) LW [] (Yh 11 [enc a,enc b]):=Zb.tp (.req (.abs (Lin×Int) (fun g=>AV.pv (enc g)) (.nil))) h
-- IMPOSSIBLE
end Go.Pl
namespace Go.Pl
open Go.RowKit
def wM(m:List (Str×Int)):Prop:= ∀ s,YZ (U0 m s)=U0 m s
theorem add_zero: ∀ (x:List Coef) (m:List (Str×Int)),wM m-> ∀ s,U0 (Xz 0 x m) s=U0 m s
 | [],m,h,s=>rfl
 | t::x,m,h,s=>by
  have e : ∀ y,U0 (Q9 t.v (IntKind.i64.wrap (U0 m t.v.s+IntKind.i64.wrap (0*t.c))) m) y=U0 m y:=fun y=>by
   rw[Dq]
   split
   ·rename_i a
    have:IntKind.i64.wrap (0*t.c)=0:=by rw[Int.zero_mul];rfl
    rw[this,Int.add_zero,<- a]
    exact h t.v.s
   ·rfl
  rw[Xz,add_zero x _ (fun y=>by rw[e];exact h y),e]
theorem AZ:Zd ⟨0,[]⟩=true:=by decide
open Enc (enc dec is)
open EncL (encL decL isL)
structure Cert2 where
 a:Cert
 b:Cert
instance:Enc Cert2 where
 sz:=10
 enc x:=.agg (PV.cells (enc x.a)++PV.cells (enc x.b))
 dec | .agg [a,b,c,d,e,f,g,h,i,j]=>⟨dec (.agg [a,b,c,d,e]),dec (.agg [f,g,h,i,j])⟩|_=>⟨.mk 0 [] ⟨0,[]⟩ [],.mk 0 [] ⟨0,[]⟩ []⟩
 is | .agg [a,b,c,d,e,f,g,h,i,j]=>is Cert (.agg [a,b,c,d,e])&&is Cert (.agg [f,g,h,i,j])|_=>false
 is_enc v:=by
  obtain⟨⟨k,m,l,ks⟩,⟨k',m',l',ks'⟩⟩:=v
  rw[VP,VP]
  show(is Cert (.agg [enc k,enc m,enc l.k,enc l.t,enc ks])&&is Cert (.agg [enc k',enc m',enc l'.k,enc l'.t,enc ks']))=true
  rw[<- VP,<- VP,Enc.is_enc,Enc.is_enc];rfl
 dec_enc v:=by
  obtain⟨⟨k,m,l,ks⟩,⟨k',m',l',ks'⟩⟩:=v
  rw[VP,VP]
  show(⟨dec (.agg [enc k,enc m,enc l.k,enc l.t,enc ks]),dec (.agg [enc k',enc m',enc l'.k,enc l'.t,enc ks'])⟩:Cert2)=_
  rw[<- VP,<- VP,Enc.dec_enc,Enc.dec_enc]
 sub p h:=by
  cases p with
  | agg xs=>
   match xs,h with
   | [a,b,c,d,e,f,g,h',i,j],h=>
    simp only[Bool.and_eq_true]at h
    have h1:=Enc.sub (α:=Cert) _ h.1
    have h2:=Enc.sub (α:=Cert) _ h.2
    exact Uc.agg (h1.1.append h2.1)
  | _=>cases h
theorem b1e(x:List Coef)(k:Int): ∀ l:Lin,(x.foldl (fun o t=>UT o t.v (YZ (k*t.c))) l).t.length<=l.t.length+x.length:=by
 induction x with
 | nil=>intro l;exact Nat.le_refl _
 | cons t x ih=>
  intro l
  have h1:=ih (UT l t.v (YZ (k*t.c)))
  have h2:=b4i l t.v (YZ (k*t.c))
  rw[List.foldl_cons,List.length_cons]
  omega
theorem one_of{α:Type}: ∀ {ks:List α},ks.length=1-> ∃ a,ks=[a]
 | [a],_=>⟨a,rfl⟩
set_option maxRecDepth 100000
theorem NC: ∀ a:Lin×Unit,Yn a.1=true->Zb JX 0 (Za KD (Zk (UG a.1))) DD [] (Yh MM (encL a)):=by
 rintro⟨l,⟨⟩⟩ h
 show Zb JX 0 (Za KD (Zk (UG l))) _ _ _
 unfold UG
 refine Ew l ⟨Zf (l,()) rfl h,Zc (l,()) rfl (YN (fun b=> ?_) fun b=> ?_)⟩
 ·have b:Zd l=false:=b
  rw[b]
  exact⟨rfl,rfl⟩
 ·have b:Zd l=true:=b
  rw[b]
  exact ZX (x:=((l,0):Lin×Int)) rfl
theorem Mi{l:Lin}(h:Zp l=true):Yn l=true:=by
 simp only[Zp,Bool.and_eq_true]at h
 exact h.1
theorem VM{a b:Lin}{k:Int}(h:Zd a=false∨Zd b=false):Zi a b k=(⟨0,[]⟩,1):=by
 unfold Zi
 rcases h with h|h
 ·rw[h];rfl
 ·cases ha:Zd a
  ·rfl
  ·rw[h];rfl
theorem Ag{a b:Lin}(k:Int)(ha:Zd a=true)(hb:Zd b=true):Yn (ZR a b k)=true:=by
 have h1:=Y8 ha
 have h2:=Y8 hb
 have:(ZR a b k).t.length<=a.t.length+b.t.length:=b1e b.t k _
 exact decide_eq_true (by omega)
theorem a6v: ∀ a:Lin×Lin×Unit,(Zp a.1&&Zp a.2.1)=true->Zb Pv 0 (Za Bh (Zk (Zi a.1 a.2.1 1))) LU [] (Yh b1w (encL a)):=by
 rintro⟨a,b,⟨⟩⟩ h
 simp only[Bool.and_eq_true]at h
 show Zb Pv 0 (Za Bh (Zk (Zi a b 1))) _ _ _
 refine c6d a b ⟨Zf (a,()) rfl (Mi h.1),Zc (a,()) rfl (YN (fun g=> ?_) fun g=>⟨Zf (b,()) rfl (Mi h.2),Zc (b,()) rfl (YN (fun e=> ?_) fun e=> ?_)⟩)⟩
 ·rw[VM (.inl g)]
  exact⟨rfl,rfl⟩
 ·rw[VM (.inr e)]
  exact⟨rfl,rfl⟩
 ·have g:Zd a=true:=g
  have e:Zd b=true:=e
  have h1:=Y8 g
  have h2:=Y8 e
  rw[VB 1 g e]
  exact⟨Zf (a,b,(1:Int),()) rfl (by show(decide (a.t.length<=500000)&&decide (b.t.length<=500000))=true;rw[decide_eq_true (by omega),decide_eq_true (by omega)];rfl),Zc (a,b,(1:Int),()) rfl ⟨Zf (ZR a b 1,()) rfl (Ag 1 g e),Zc (ZR a b 1,()) rfl (ZX (x:=UG (ZR a b 1)) rfl)⟩⟩
theorem a7f: ∀ a:Lin×Lin×Unit,(Zp a.1&&Zp a.2.1)=true->Zb Pf 0 (Za Bz (Zk (Zi a.1 a.2.1 (-1)))) F6 [] (Yh b4r (encL a)):=by
 rintro⟨a,b,⟨⟩⟩ h
 simp only[Bool.and_eq_true]at h
 show Zb Pf 0 (Za Bz (Zk (Zi a b (-1)))) _ _ _
 refine c9w a b ⟨Zf (a,()) rfl (Mi h.1),Zc (a,()) rfl (YN (fun g=> ?_) fun g=>⟨Zf (b,()) rfl (Mi h.2),Zc (b,()) rfl (YN (fun e=> ?_) fun e=> ?_)⟩)⟩
 ·rw[VM (.inl g)]
  exact⟨rfl,rfl⟩
 ·rw[VM (.inr e)]
  exact⟨rfl,rfl⟩
 ·have g:Zd a=true:=g
  have e:Zd b=true:=e
  have h1:=Y8 g
  have h2:=Y8 e
  rw[VB (-1) g e]
  exact⟨Zf (a,b,(-1:Int),()) rfl (by show(decide (a.t.length<=500000)&&decide (b.t.length<=500000))=true;rw[decide_eq_true (by omega),decide_eq_true (by omega)];rfl),Zc (a,b,(-1:Int),()) rfl ⟨Zf (ZR a b (-1),()) rfl (Ag (-1) g e),Zc (ZR a b (-1),()) rfl (ZX (x:=UG (ZR a b (-1))) rfl)⟩⟩
theorem a7d: ∀ a:Lin×Lin×Unit,(Zp a.1&&Zp a.2.1)=true->Zb a4p 0 (Za MW (Zk (Zi a.1 a.2.1 (-1)))) LW [] (Yh c1k (encL a)):=by
 rintro⟨a,b,⟨⟩⟩ h
 exact c8q a b ⟨Zf (a,b,(-1:Int),()) rfl h,Zc (a,b,(-1:Int),()) rfl (ZX (x:=Zi a b (-1)) rfl)⟩
theorem Rw(k:Int)(s:List UInt8): ∀ (x:List Coef) (m:List (Str×Int)),(∀ u∈x,u.v.s≠s)->U0 (Xz k x m) s=U0 m s
 | [],m,h=>rfl
 | t::x,m,h=>by
  rw[Xz,Rw k s x _ fun u hu=>h u (by simp[hu]),Dq,if_neg (h t (by simp))]
theorem a2l{c x:Int}(hc:c=1000001∨c = -1000001)(hx:x≠0): ¬ (-1000000<=c*x∧c*x<=1000000):=by
 rcases hc with rfl|rfl <;> omega
theorem TE{a:Lin}{c:Int}(z:Zd a=true)(hc:c=1000001∨c = -1000001)(C:a.k≠0∨a.t≠[]):UG (ZR ⟨0,[]⟩ a c)=(⟨0,[]⟩,3):=by
 have hk:=Gu z
 have j:Zd (ZR ⟨0,[]⟩ a c)=false:=by
  cases hr:Zd (ZR ⟨0,[]⟩ a c)
  ·rfl
  exfalso
  by_cases hk0:a.k=0
  ·have ht:a.t≠[]:=C.resolve_left fun h=>h hk0
   cases b:a.t with
   | nil=>exact ht b
   | cons t r=>
    have g:=Vn z
    rw[b]at g
    obtain⟨h1,_⟩:=Xq.1 g
    have y:=(WG z (show t∈a.t by rw[b];simp)).2
    have l:=GH c a.t ⟨YZ (0+YZ (c*a.k)),[]⟩ [] ⟨List.Pairwise.nil,fun s=>rfl⟩
    have D:Ye (ZR ⟨0,[]⟩ a c).t t.v.s=U0 (Xz c a.t []) t.v.s:=l.2 t.v.s
    have hb : -2000000000000<=c*t.c∧c*t.c<=2000000000000:=by rcases hc with rfl|rfl <;> omega
    have B:U0 (Xz c a.t []) t.v.s=c*t.c:=by
     rw[b,Xz,Rw c t.v.s r _ (fun u hu e=>by have:=h1 u hu;rw[e]at this;exact List.lt_irrefl _ this),Dq,if_pos rfl]
     have q:U0 ([]:List (Str×Int)) t.v.s=0:=rfl
     have A:IntKind.i64.wrap (c*t.c)=c*t.c:=Kv (by omega) (by omega)
     rw[q,Int.zero_add,A,A]
    have:=Si hr t.v.s
    rw[D,B]at this
    exact a2l hc y.1 this
  ·have hb : -2000000000000<=c*a.k∧c*a.k<=2000000000000:=by rcases hc with rfl|rfl <;> omega
   have:=Gu hr
   rw[Np,Kv (n:=c*a.k) (by omega) (by omega)]at this
   have q:(⟨0,[]⟩:Lin).k=0:=rfl
   rw[q,Int.zero_add,Kv (by omega) (by omega)]at this
   exact a2l hc hk0 this
 unfold UG
 rw[j];rfl
theorem a7k{k:Int}(h:ZT k=false):max (-1000001) (min k 1000001)=1000001∨max (-1000001) (min k 1000001) = -1000001:=by
 simp only[ZT,Bool.and_eq_false_iff,decide_eq_false_iff_not]at h
 omega
theorem b1z{k:Int}(h:ZT k=true):max (-1000001) (min k 1000001)=k:=by
 simp only[ZT,Bool.and_eq_true,decide_eq_true_eq]at h
 omega
theorem LF(a:Lin)(k:Int)(h:a.t.length<=500000):preT (fun x:Lin×Lin×Int×Unit=>decide (x.1.t.length<=500000)&&decide (x.2.1.t.length<=500000)) [.agg [.int .i64 0,.sl 0 true []],enc a,enc k]=true:=by
 have b:isL (Lin×Lin×Int×Unit) [PV.agg [.int .i64 0,.sl 0 true []],enc a,enc k]=true:=by
  show(is Lin (PV.agg [.int .i64 0,.sl 0 true []])&&(is Lin (enc a)&&(is Int (enc k)&&true)))=true
  rw[Enc.is_enc,Enc.is_enc];rfl
 have e:(decL [PV.agg [.int .i64 0,.sl 0 true []],enc a,enc k]:Lin×Lin×Int×Unit)=(⟨0,[]⟩,a,k,()):=by
  show((dec (PV.agg [.int .i64 0,.sl 0 true []]):Lin),(dec (enc a:PV):Lin),(dec (enc k:PV):Int),())=_
  rw[Enc.dec_enc,Enc.dec_enc];rfl
 unfold preT
 rw[b,e,Bool.true_and]
 show(decide (0<=500000)&&decide (a.t.length<=500000))=true
 rw[decide_eq_true h];rfl
theorem LB(a:Lin)(k:Int):(decL [PV.agg [.int .i64 0,.sl 0 true []],enc a,enc k]:Lin×Lin×Int×Unit)=(⟨0,[]⟩,a,k,()):=by
 show((dec (PV.agg [.int .i64 0,.sl 0 true []]):Lin),(dec (enc a:PV):Lin),(dec (enc k:PV):Int),())=_
 rw[Enc.dec_enc,Enc.dec_enc];rfl
theorem NY: ∀ a:Lin×Int×Unit,Zp a.1=true->Zb De 0 (Za JP (Zk (YL a.1 a.2.1))) AY [] (Yh Ev (encL a)):=by
 rintro⟨a,k,⟨⟩⟩ h
 show Zb De 0 (Za JP (Zk (YL a k))) _ _ _
 unfold YL
 refine a8a a k ⟨Zf (a,()) rfl (Mi h),Zc (a,()) rfl (YN (fun b=> ?_) fun b=>Zc (k,()) rfl (YN (fun g=> ?_) fun g=> ?_))⟩
 ·rw[VM (.inr b)]
  exact⟨rfl,rfl⟩
 all_goals
  have b:Zd a=true:=b
  have hlen:=Y8 b
  rw[VB _ AZ b]
 ·have hc:=a7k (show ZT k=false from g)
  refine NG (fun h1=> ?_) fun h1=>Y4 (fun h2=> ?_) fun h2=> ?_
  ·have h1:a.k≠0:=by simpa using h1
   rw[TE b hc (.inl h1)]
   exact⟨rfl,rfl⟩
  ·have h2:a.t≠[]:=by
    intro e
    rw[e]at h2
    simp at h2
   rw[TE b hc (.inr h2)]
   exact⟨rfl,rfl⟩
  ·have h1:a.k=0:=by simpa using h1
   have h2:a.t=[]:=by
    rw[List.length_map]at h2
    exact List.length_eq_zero_iff.1 (by omega)
   have j:a=⟨0,[]⟩:=by cases a;simp only at h1 h2;rw[h1,h2]
   subst j
   generalize max (-1000001) (min k 1000001)=c at hc ⊢
   have e:UG (ZR ⟨0,[]⟩ ⟨0,[]⟩ c)=UG (ZR ⟨0,[]⟩ ⟨0,[]⟩ 0):=by
    rcases hc with rfl|rfl <;> rfl
   rw[e]
   exact⟨LF ⟨0,[]⟩ 0 (by simp),KM ((⟨0,[]⟩:Lin),(⟨0,[]⟩:Lin),(0:Int),()) (LB _ _) ⟨Zf (ZR ⟨0,[]⟩ ⟨0,[]⟩ 0,()) rfl (by decide),Zc (ZR ⟨0,[]⟩ ⟨0,[]⟩ 0,()) rfl (ZX (x:=UG (ZR ⟨0,[]⟩ ⟨0,[]⟩ 0)) rfl)⟩⟩
 ·rw[b1z (show ZT k=true from g)]
  exact⟨LF a k (by omega),KM ((⟨0,[]⟩:Lin),a,k,()) (LB _ _) ⟨Zf (ZR ⟨0,[]⟩ a k,()) rfl (Ag k AZ b),Zc (ZR ⟨0,[]⟩ a k,()) rfl (ZX (x:=UG (ZR ⟨0,[]⟩ a k)) rfl)⟩⟩
end Go.Pl
namespace Go.Pl
theorem a4r{T:ZC}{k:Nat}{ic:IC}{K:List Fr}{st:St}{rs:List IRes}{p:PV}(h:Zb T k (Za rs fun r=>r=p) ic K st):Zb T k (fun st=>fin st rs=some p) ic K st:=by
 have e:Za rs (fun r=>r=p)=fun st=>fin st rs=some p:=by
  funext st
  apply propext
  constructor
  ·rintro⟨q,k,rfl⟩;exact k
  ·intro k;exact⟨p,k,rfl⟩
 rw[<- e];exact h
end Go.Pl
namespace Go.Pl.Cm
open Go.RowKit
open Enc (enc dec is)
open EncL (encL decL isL)
structure CmpOK {α:Type} (f:α->α->Int):Prop where
 anti : ∀ a b,f b a = - f a b
 zero : ∀ a b,f a b=0 ↔ a=b
 trans : ∀ a b c,f a b<=0->f b c<=0->f a c<=0
 rng : ∀ a b,-1<=f a b∧f a b<=1
theorem CmpOK.strict{α:Type}{f:α->α->Int}(h:CmpOK f){a b c:α}(h1:f a b<0)(h2:f b c<=0):f a c<0:=by
 have h3:=h.trans a b c (by omega) h2
 by_cases h0:f a c=0
 ·obtain rfl:=(h.zero a c).1 h0
  have:=h.anti a b
  omega
 ·omega
def WE{α:Type}(f:α->α->Int):List α->List α->Int
 | [],[]=>0
 | [],_::_=> -1
 | _::_,[]=>1
 | x::l,y::m=>if f x y≠0 then f x y else WE f l m
theorem SI{α:Type}{f:α->α->Int}(h:CmpOK f): ∀ a b,WE f b a = - WE f a b
 | [],[]=>rfl
 | [],_::_=>rfl
 | _::_,[]=>rfl
 | x::l,y::m=>by
  have h1:=h.anti x y
  rw[WE,WE,h1,SI h l m]
  by_cases h0:f x y=0
  ·rw[if_neg (by omega),if_neg (by omega)]
  ·rw[if_pos (by omega),if_pos (by omega)]
theorem SX{α:Type}{f:α->α->Int}(h:CmpOK f): ∀ a b,WE f a b=0 ↔ a=b
 | [],[]=>by simp[WE]
 | [],_::_=>by simp[WE]
 | _::_,[]=>by simp[WE]
 | x::l,y::m=>by
  rw[WE,List.cons.injEq,<- h.zero x y,<- SX h l m]
  by_cases h0:f x y=0
  ·rw[if_neg (by omega)];omega
  ·rw[if_pos (by omega)];omega
theorem L9{α:Type}{f:α->α->Int}(h:CmpOK f): ∀ a b,-1<=WE f a b∧WE f a b<=1
 | [],[]=>by simp[WE]
 | [],_::_=>by simp[WE]
 | _::_,[]=>by simp[WE]
 | x::l,y::m=>by
  rw[WE]
  split
  ·exact h.rng x y
  ·exact L9 h l m
theorem Bw{α:Type}{f:α->α->Int}(h:CmpOK f): ∀ a b c,WE f a b<=0->WE f b c<=0->WE f a c<=0
 | [],_,[],_,_=>by simp[WE]
 | [],_,_::_,_,_=>by simp[WE]
 | _::_,[],_,h1,_=>by simp[WE]at h1
 | _::_,_::_,[],_,h2=>by simp[WE]at h2
 | x::l,y::m,z::n,h1,h2=>by
  rw[WE]at h1 h2 ⊢
  by_cases a:f x y=0
  ·obtain rfl:=(h.zero x y).1 a
   rw[if_neg (by omega)]at h1
   by_cases b:f x z=0
   ·rw[if_neg (by omega)]at h2 ⊢
    exact Bw h l m n h1 h2
   ·rw[if_pos b]at h2 ⊢
    exact h2
  ·rw[if_pos a]at h1
   by_cases b:f y z=0
   ·obtain rfl:=(h.zero y z).1 b
    rw[if_pos a]
    exact h1
   ·rw[if_pos b]at h2
    have:=h.strict (show f x y<0 by omega) h2
    rw[if_pos (by omega)]
    omega
theorem a5o{α:Type}{f:α->α->Int}(h:CmpOK f):CmpOK (WE f):=⟨SI h,SX h,Bw h,L9 h⟩
theorem a4v{α β γ:Type}{f:β->β->Int}{g:γ->γ->Int}(p:α->β)(q:α->γ)(l : ∀ a b,p a=p b->q a=q b->a=b)(j:CmpOK f)(k:CmpOK g):CmpOK fun a b:α=>if f (p a) (p b)≠0 then f (p a) (p b)else g (q a) (q b):=by
 refine⟨fun a b=> ?_,fun a b=> ?_,fun a b c h1 h2=> ?_,fun a b=> ?_⟩
 ·have h1:=j.anti (p a) (p b)
  have h2:=k.anti (q a) (q b)
  try simp only
  by_cases h0:f (p a) (p b)=0
  ·rw[if_neg (by omega),if_neg (by omega),h2]
  ·rw[if_pos (by omega),if_pos h0,h1]
 ·try simp only
  by_cases h0:f (p a) (p b)=0
  ·rw[if_neg (by omega),k.zero]
   exact⟨fun h=>l a b ((j.zero _ _).1 h0) h,fun h=>by rw[h]⟩
  ·rw[if_pos h0]
   exact⟨fun h=>absurd h h0,fun h=>absurd ((j.zero _ _).2 (by rw[h])) h0⟩
 ·try simp only at h1 h2 ⊢
  by_cases x:f (p a) (p b)=0
  ·have e:=(j.zero _ _).1 x
   rw[if_neg (by omega)]at h1
   rw[e]
   by_cases y:f (p b) (p c)=0
   ·rw[if_neg (by omega)]at h2 ⊢
    exact k.trans _ _ _ h1 h2
   ·rw[if_pos y]at h2 ⊢
    exact h2
  ·rw[if_pos x]at h1
   by_cases y:f (p b) (p c)=0
   ·have e:=(j.zero _ _).1 y
    rw[<- e,if_pos x]
    exact h1
   ·rw[if_pos y]at h2
    have:=j.strict (show f (p a) (p b)<0 by omega) h2
    rw[if_pos (by omega)]
    omega
 ·try simp only
  split
  ·exact j.rng _ _
  ·exact k.rng _ _
theorem K6:CmpOK Ci:=by
 refine⟨fun a b=> ?_,fun a b=> ?_,fun a b c=> ?_,fun a b=> ?_⟩ <;> unfold Ci <;> (repeat' split) <;> omega
def b0p(a b:UInt8):Int:=if a<b then -1 else if b<a then 1 else 0
theorem QF(a b:UInt8):b0p a b=Ci a.toNat b.toNat:=by
 unfold b0p Ci
 simp only[UInt8.lt_iff_toNat_lt]
 repeat' split
 all_goals omega
theorem c6f:CmpOK b0p:=by
 refine⟨fun a b=> ?_,fun a b=> ?_,fun a b c=> ?_,fun a b=> ?_⟩
 ·rw[QF,QF];exact K6.anti _ _
 ·rw[QF,K6.zero]
  exact⟨fun h=>UInt8.toNat_inj.1 (by omega),fun h=>by rw[h]⟩
 ·rw[QF,QF,QF];exact K6.trans _ _ _
 ·rw[QF];exact K6.rng _ _
theorem FN: ∀ a b:List UInt8,Lib.compareBytes a b=WE b0p a b
 | [],[]=>rfl
 | [],_::_=>rfl
 | _::_,[]=>rfl
 | x::l,y::m=>by
  rw[Lib.compareBytes,WE,FN l m]
  unfold b0p
  by_cases h1:x<y
  ·simp[h1]
  ·by_cases h2:y<x
   ·simp[h1,h2]
   ·simp[h1,h2]
theorem LK:CmpOK Lib.compareBytes:=by
 have:Lib.compareBytes=WE b0p:=by funext a b;exact FN a b
 rw[this]
 exact a5o c6f
theorem Ps:CmpOK PM:=a4v (fun x:Coef=>x.v.s) (fun x:Coef=>x.c) (fun a b h1 h2=>by
 obtain⟨⟨s⟩,c⟩:=a
 obtain⟨⟨s'⟩,c'⟩:=b
 simp only at h1 h2
 rw[h1,h2]) LK K6
theorem MR: ∀ a b:List Coef,GD a b=WE PM a b
 | [],[]=>rfl
 | [],_::_=>rfl
 | _::_,[]=>rfl
 | x::l,y::m=>by rw[GD,WE,MR l m]
theorem b2a:CmpOK GD:=by
 have:GD=WE PM:=by funext a b;exact MR a b
 rw[this]
 exact a5o Ps
theorem b0b:CmpOK Pe:=a4v (fun x:Lin=>x.t) (fun x:Lin=>x.k) (fun a b h1 h2=>by
 obtain⟨k,t⟩:=a
 obtain⟨k',t'⟩:=b
 simp only at h1 h2
 rw[h1,h2]) b2a K6
theorem F9: ∀ a b:List UInt8,Lib.compareBytes a b<0 ↔ a<b
 | [],[]=>by simp[Lib.compareBytes]
 | [],_::_=>by simp[Lib.compareBytes]
 | _::_,[]=>by simp[Lib.compareBytes]
 | x::l,y::m=>by
  rw[Lib.compareBytes,List.cons_lt_cons_iff,<- F9 l m]
  by_cases h1:x<y
  ·simp[h1]
  ·by_cases h2:y<x
   ·have:x≠y:=fun e=>by subst e;exact h1 h2
    simp[h1,h2,this]
   ·have:x=y:=UInt8.toNat_inj.1 (by simp only[UInt8.lt_iff_toNat_lt]at h1 h2;omega)
    simp[this]
theorem d0u(x y:Coef):PM x y<0 ↔ (x.v.s<y.v.s∨x.v.s=y.v.s∧x.c<y.c):=by
 unfold PM
 rw[<- F9,<- LK.zero]
 split
 ·omega
 ·have:Ci x.c y.c<0 ↔ x.c<y.c:=by
   unfold Ci
   repeat' split
   all_goals omega
  rw[this]
  omega
theorem a6k: ∀ a b:List Coef,J8 a b=GD a b
 | [],[]=>rfl
 | [],_::_=>rfl
 | _::_,[]=>rfl
 | x::l,y::m=>by
  have h1:=d0u x y
  have h2:=Ps.zero x y
  have h3:=Ps.rng x y
  rw[J8,GD,a6k l m]
  by_cases a:PM x y<0
  ·rw[if_pos (h1.1 a),if_pos (by omega)];omega
  ·rw[if_neg (fun h=>a (h1.2 h))]
   by_cases b:PM x y=0
   ·rw[if_pos (h2.1 b),if_neg (by omega)]
   ·rw[if_neg (fun h=>b (h2.2 h)),if_pos b];omega
theorem a8o(a b:Lin):Ch a b=Pe a b:=by
 unfold Ch Pe
 rw[a6k]
theorem a1m(a b:Lin):(Pe a b==0)=decide (a=b):=by
 have:=b0b.zero a b
 by_cases h:a=b
 ·rw[this.2 h,decide_eq_true h];rfl
 ·rw[decide_eq_false h]
  exact beq_eq_false_iff_ne.2 fun e=>h (this.1 e)
theorem cmpL_dec(a b:Lin):(Ch a b==0)=decide (a=b):=by rw[a8o,a1m]
end Go.Pl.Cm
namespace Go.Pl
open Go.RowKit
open Enc (enc dec is)
open EncL (encL decL isL)
set_option maxRecDepth 100000
-- IMPOSSIBLE
-- IMPOSSIBLE
abbrev e4a(ps:List PV)(k:Bool->Prop):Prop:=Um (fun(x:UInt8×Unit)=>true) (fun(x:UInt8×Unit)=>lowB (Prod.fst x)) ps k
abbrev e1i(ps:List PV)(k:Bool->Prop):Prop:=Um (fun(x:UInt8×Unit)=>true) (fun(x:UInt8×Unit)=>digB (Prod.fst x)) ps k
noncomputable def TB:IC:=Cz
def Rk:List IRes:=[(.tmp 2)]
abbrev a9c:Nat:=9
def FK:ZC:=YG []
theorem c2b{G:PV->Prop}(c:UInt8)(h:if (decide ((↑(UInt8.toNat c):Int) ≥ 97))=true then G ((.bool (decide ((↑(UInt8.toNat c):Int)<=122))))else(G ((.bool false)))):Zb FK 0 (Za Rk G) TB [] (Yh 9 [enc c]):=Zb.tp (dm [] 13 0x22022200442) h
noncomputable def Rn:IC:=CJ
def T9:List IRes:=[(.tmp 2)]
abbrev a7o:Nat:=9
def MH:ZC:=YG []
theorem c2f{G:PV->Prop}(c:UInt8)(h:if (decide ((↑(UInt8.toNat c):Int) ≥ 48))=true then G ((.bool (decide ((↑(UInt8.toNat c):Int)<=57))))else(G ((.bool false)))):Zb MH 0 (Za T9 G) Rn [] (Yh 9 [enc c]):=Zb.tp (dm [] 13 0x22022200442) h
noncomputable def a4s:IC:=Ny
def a2p:List IRes:=[(.tmp 2)]
abbrev c7t:Nat:=19
def b1s:ZC:=YG []
theorem d5b{G:PV->Prop}(s:List UInt8)(h:if (s==[(98:UInt8),(111:UInt8),(111:UInt8),(108:UInt8)])=true then G ((.bool true))else(if (s==[(100:UInt8),(101:UInt8),(102:UInt8)])=true then G ((.bool true))else(if (s==[(101:UInt8),(120:UInt8),(112:UInt8),(111:UInt8),(114:UInt8),(116:UInt8)])=true then G ((.bool true))else(if (s==[(102:UInt8),(97:UInt8),(108:UInt8),(115:UInt8),(101:UInt8)])=true then G ((.bool true))else(if (s==[(102:UInt8),(111:UInt8),(108:UInt8),(100:UInt8)])=true then G ((.bool true))else(if (s==[(105:UInt8),(109:UInt8),(112:UInt8),(111:UInt8),(114:UInt8),(116:UInt8)])=true then G ((.bool true))else(if (s==[(105:UInt8),(110:UInt8)])=true then G ((.bool true))else(if (s==[(105:UInt8),(110:UInt8),(116:UInt8)])=true then G ((.bool true))else(if (s==[(108:UInt8),(101:UInt8),(116:UInt8)])=true then G ((.bool true))else(if (s==[(109:UInt8),(111:UInt8),(100:UInt8),(117:UInt8),(108:UInt8),(101:UInt8)])=true then G ((.bool true))else(if (s==[(115:UInt8),(99:UInt8),(97:UInt8),(110:UInt8)])=true then G ((.bool true))else(if (s==[(115:UInt8),(105:UInt8),(122:UInt8),(101:UInt8)])=true then G ((.bool true))else(if (s==[(116:UInt8),(114:UInt8),(117:UInt8),(101:UInt8)])=true then G ((.bool true))else(if (s==[(119:UInt8),(104:UInt8),(101:UInt8),(114:UInt8),(101:UInt8)])=true then G ((.bool true))else(G ((.bool false))))))))))))))))):Zb b1s 0 (Za a2p G) a4s [] (Yh 19 [.str s]):=Zb.tp (dm [] 99 0x1420200242020024202002420200242020024202002420200242020024202002420200242020024202002420200242) h
noncomputable def VD:IC:=XG Proofs.Tryz.f138
def VG:List IRes:=[(.tmp 2)]
abbrev b4u:Nat:=39
def UV:ZC:=YG [(135,.pure (preT (fun _:UInt8×Unit=>true)) (Zm (fun x:UInt8×Unit=>lowB x.1))),(136,.pure (preT (fun _:UInt8×Unit=>true)) (Zm (fun x:UInt8×Unit=>digB x.1))),(137,.pure (preT (fun _:Str×Unit=>true)) (Zm (fun x:Str×Unit=>Wu.contains x.1.s)))]
theorem c6o{G:PV->Prop}(s:List UInt8)(h:At UV 0 (Za VG G) VD 0 39 [(0,(.pv (.str s))),(3,(.pv (.int .i64 0)))] []):Zb UV 0 (Za VG G) VD [] (Yh 39 [.str s]):=Zb.tp (.nil) h
theorem Hl{G:PV->Prop}(s:List UInt8)(i:Int)(h:if (decide (i<(↑(List.length s):Int)))=true then(decide (0<=i)&&decide (Int.toNat i<List.length s))=true∧((e4a [(.int IntKind.u8 (↑(UInt8.toNat (List.getD s (Int.toNat i) (0:UInt8))):Int))] fun b=>(if (!b)=true then if (i==0)=true then G ((.bool false))else((decide (0<=i)&&decide (Int.toNat i<List.length s))=true∧((e1i [(.int IntKind.u8 (↑(UInt8.toNat (List.getD s (Int.toNat i) (0:UInt8))):Int))] fun e=>(if (!e)=true then G ((.bool false))else(At UV 0 (Za VG G) VD 0 39 [(0,(.pv (.str s))),(3,(.pv (.int .i64 (IntKind.wrap IntKind.i64 (i+1)))))] [])))))else(At UV 0 (Za VG G) VD 0 39 [(0,(.pv (.str s))),(3,(.pv (.int .i64 (IntKind.wrap IntKind.i64 (i+1)))))] []))))else(if (decide ((↑(List.length s):Int) ≥ 1))=true then if (decide ((↑(List.length s):Int)<=30))=true then ∃ a:Bool,AV.pv (Zm (fun(x:Str×Unit)=>List.contains Wu (Str.s x.1)) [(.str s)])=AV.pv (enc a)∧(G ((.bool !a)))else(G ((.bool false)))else(G ((.bool false))))):At UV 0 (Za VG G) VD 0 39 [(0,.pv (.str s)),(3,.pv (.int .i64 i))] []:=At.tp (dm [dv Bool] 84 0x2222222022202252200642222012420222222020001422225121220222222220094222021451102f42) h
theorem EA: ∀ x:UInt8×Unit,(fun _:UInt8×Unit=>true) x=true->Zb FK 0 (Za Rk (Zk (lowB x.1))) TB [] (Yh a9c (encL x)):=by
 rintro⟨c,⟨⟩⟩ _
 refine c2b c (NG (fun h=>ZG ?_) fun h=>ZG ?_)
 ·have h:(97:Int)<=c.toNat:=by simpa using h
  have h1:(97:UInt8)<=c:=by rw[UInt8.le_iff_toNat_le];exact Int.ofNat_le.1 h
  unfold lowB
  rw[decide_eq_true h1,Bool.true_and]
  exact decide_eq_decide.2 ⟨fun h=>UInt8.le_iff_toNat_le.2 (Int.ofNat_le.1 h),fun h=>Int.ofNat_le.2 (UInt8.le_iff_toNat_le.1 h)⟩
 ·have h : ¬ (97:Int)<=c.toNat:=by simpa using h
  have h1 : ¬ (97:UInt8)<=c:=by rw[UInt8.le_iff_toNat_le];exact fun k=>h (Int.ofNat_le.2 k)
  unfold lowB
  rw[decide_eq_false h1]
  rfl
theorem a1u: ∀ x:UInt8×Unit,(fun _:UInt8×Unit=>true) x=true->Zb MH 0 (Za T9 (Zk (digB x.1))) Rn [] (Yh a7o (encL x)):=by
 rintro⟨c,⟨⟩⟩ _
 refine c2f c (NG (fun h=>ZG ?_) fun h=>ZG ?_)
 ·have h:(48:Int)<=c.toNat:=by simpa using h
  have h1:(48:UInt8)<=c:=by rw[UInt8.le_iff_toNat_le];exact Int.ofNat_le.1 h
  unfold digB
  rw[decide_eq_true h1,Bool.true_and]
  exact decide_eq_decide.2 ⟨fun h=>UInt8.le_iff_toNat_le.2 (Int.ofNat_le.1 h),fun h=>Int.ofNat_le.2 (UInt8.le_iff_toNat_le.1 h)⟩
 ·have h : ¬ (48:Int)<=c.toNat:=by simpa using h
  have h1 : ¬ (48:UInt8)<=c:=by rw[UInt8.le_iff_toNat_le];exact fun k=>h (Int.ofNat_le.2 k)
  unfold digB
  rw[decide_eq_false h1]
  rfl
theorem b1o: ∀ x:Str×Unit,(fun _:Str×Unit=>true) x=true->Zb b1s 0 (Za a2p (Zk (Wu.contains x.1.s))) a4s [] (Yh c7t (encL x)):=by
 rintro⟨⟨s⟩,⟨⟩⟩ _
 refine d5b s ?_
 iterate 14 (refine Z7 (fun h=>ZG (by subst h;rfl)) fun h=> ?_)
 refine ZG ?_
 show false=Wu.contains s
 rw[eq_comm,<- Bool.not_eq_true,List.contains_iff_mem]
 simp only[Wu,List.mem_cons,List.not_mem_nil,or_false,not_or]
 refine⟨?_,?_,?_,?_,?_,?_,?_,?_,?_,?_,?_,?_,?_,?_⟩ <;> assumption
theorem b9p{c:UInt8}{F:UInt8->Bool}{ps:List PV}{P:Bool->Prop}(e:ps=encL (c,()))(h:P (F c)):preT (fun x:UInt8×Unit=>true) ps=true∧ ∃ y:Bool,AV.pv (Zm (fun x:UInt8×Unit=>F x.1) ps)=AV.pv (enc y)∧P y:=⟨Zf (c,()) e rfl,Zc (c,()) e h⟩
theorem a0y(s:List UInt8)(hl:s.length<=1048576)(h1:1<=s.length)(R:Bool): ∀ (d i:Nat),d+i=s.length->1<=i->R=((s.drop i).all Fp&&(decide (s.length<=30)&& !Wu.contains s)) ->
  At UV 0 (Za VG (Zk R)) VD 0 39 [(0,.pv (.str s)),(3,.pv (.int .i64 i))] []:=by
 intro d
 induction d with
 | zero=>
  intro i hi g b
  rw[List.drop_eq_nil_of_le (by omega),List.all_nil,Bool.true_and]at b
  refine Hl s i (Y1 (XQ (by omega)) (YP (decide_eq_true (by omega)) (Y4 (fun h=>Zc (⟨s⟩,()) rfl (ZG ?_)) fun h=>ZG ?_)))
  ·rw[b,decide_eq_true (show s.length<=30 by omega)];rfl
  ·rw[b,decide_eq_false (show ¬ s.length<=30 by omega)];rfl
 | succ d ih=>
  intro i hi g b
  have a:i<s.length:=by omega
  have e:(decide (0<=(i:Int))&&decide (Int.toNat (i:Int)<List.length s))=true:=by simp[a]
  rw[List.drop_eq_getElem_cons a,List.all_cons]at b
  have k:=fun h=>ih (i+1) (by omega) (by omega) h
  refine Hl s i (YP (Xp a) ⟨e,b9p (AC a) (YN (fun hs=>Y1 (by simp;omega) ⟨e,b9p (AC a) (YN (fun hd=>ZG ?_) fun hd=> ?_)⟩) fun hs=> ?_)⟩)
  ·rw[b];unfold Fp;rw[hs,hd];rfl
  ·rw[next (by omega)]
   exact k (by rw[b];unfold Fp;rw[hd];rfl)
  ·rw[next (by omega)]
   exact k (by rw[b];unfold Fp;rw[hs,Bool.or_true,Bool.true_and])
theorem b0c: ∀ x:Str×Unit,decide (x.1.s.length<=1048576)=true->Zb UV 0 (Za VG (Zk (nameI x.1.s))) VD [] (Yh b4u (encL x)):=by
 rintro⟨⟨s⟩,⟨⟩⟩ h
 have e:s.length<=1048576:=of_decide_eq_true h
 refine c6o s ?_
 show At UV 0 (Za VG (Zk (nameI s))) VD 0 39 [(0,.pv (.str s)),(3,.pv (.int .i64 ((0:Nat):Int)))] []
 cases s with
 | nil=>exact Hl [] 0 (Y1 (by simp) (Y1 (by simp) (ZG rfl)))
 | cons c r=>
  have a:0<(c::r).length:=by simp
  have b:(decide (0<=((0:Nat):Int))&&decide (Int.toNat ((0:Nat):Int)<List.length (c::r)))=true:=by simp
  refine Hl (c::r) (0:Nat) (YP (Xp a) ⟨b,b9p (AC a) (YN (fun hs=>YP (by simp) (ZG ?_)) fun hs=> ?_)⟩)
  ·have hs:lowB c=false:=hs
   show false=(lowB c&&r.all Fp&&decide (r.length<=29)&& !Wu.contains (c::r))
   rw[hs];rfl
  ·have hs:lowB c=true:=hs
   rw[next (by omega)]
   refine a0y (c::r) e (by simp) _ r.length 1 (by rw[List.length_cons]) (by omega) ?_
   show(lowB c&&r.all Fp&&decide (r.length<=29)&& !Wu.contains (c::r))=(r.all Fp&&(decide (r.length+1<=30)&& !Wu.contains (c::r)))
   rw[hs,Bool.true_and,Bool.and_assoc,show decide (r.length<=29)=decide (r.length+1<=30)from decide_eq_decide.2 (by omega)]
structure Tok where
 k:Int
 t:Str
 ln:Int
 o:Int
 deriving DecidableEq
instance:Enc Tok where
 sz:=4
 enc x:=.agg [enc x.k,enc x.t,enc x.ln,enc x.o]
 dec | .agg [a0,a1,a2,a3]=>⟨dec a0,dec a1,dec a2,dec a3⟩|_=>⟨0,⟨[]⟩,0,0⟩
 is | .agg [a0,a1,a2,a3]=>is Int a0&&is Str a1&&is Int a2&&is Int a3|_=>false
 is_enc v:=by simp
 dec_enc v:=by simp
 sub p h:=by
  cases p with
  | agg xs=>
   match xs,h with
   | [a0,a1,a2,a3],h=>
    simp only[Bool.and_eq_true]at h
    exact .agg (.cons (Enc.sub a0 h.1.1.1).2 (.cons (Enc.sub a1 h.1.1.2).2 (.cons (Enc.sub a2 h.1.2).2 (.cons (Enc.sub a3 h.2).2 .nil))))
  | _=>cases h
def OH(p:PV):Bool:=match p with | .int .i64 n=>decide (0<=n)|_=>false
theorem Fb{p:PV}(h:OH p=true): ∀ Φ v,RP Φ v p->RP Φ v (.int .i64 (((dec p:Int).toNat:Nat):Int)):=by
 cases p with
 | int k n=>cases k with
  | i64=>
   have h:0<=n:=of_decide_eq_true h
   intro Φ v hv
   have e:(((dec (PV.int .i64 n):Int).toNat:Nat):Int)=n:=by show((n.toNat:Nat):Int)=n;omega
   rw[e]
   exact hv
  | _=>cases h
 | _=>cases h
structure PS where
 l:List Tok
 i:Nat
 sz:Int
 bad:Bool
 wr:Int
 big:Bool
instance:EncL PS where
 encL s:=[enc s.l,.int .i64 (s.i:Int),enc s.sz,enc s.bad,enc s.wr,enc s.big]
 decL|[a,b,c,d,e,f]=>⟨dec a,(dec b:Int).toNat,dec c,dec d,dec e,dec f⟩|_=>⟨[],0,0,false,0,false⟩
 isL|[a,b,c,d,e,f]=>is (List Tok) a&&OH b&&is Int c&&is Bool d&&is Int e&&is Bool f|_=>false
 is_encL s:=by simp only[Enc.is_enc,Bool.true_and,Bool.and_true];show OH (.int .i64 (s.i:Int))=true;simp[OH]
 dec_encL s:=by
  simp only[Enc.dec_enc]
  cases s
  rfl
 subL ps h:=by
  match ps,h with
  | [a,b,c,d,e,f],h=>
   simp only[Bool.and_eq_true]at h
   obtain⟨⟨⟨⟨⟨h1,h2⟩,h3⟩,h4⟩,h5⟩,h6⟩:=h
   exact .cons (Enc.sub a h1).2 (.cons (Fb h2) (.cons (Enc.sub c h3).2 (.cons (Enc.sub d h4).2 (.cons (Enc.sub e h5).2 (.cons (Enc.sub f h6).2 .nil)))))
structure RS where
 l:List Tok
 i:Nat
 bad:Bool
 wide:Bool
instance:EncL RS where
 encL s:=[enc s.l,.int .i64 (s.i:Int),enc s.bad,enc s.wide]
 decL|[a,b,c,d]=>⟨dec a,(dec b:Int).toNat,dec c,dec d⟩|_=>⟨[],0,false,false⟩
 isL|[a,b,c,d]=>is (List Tok) a&&OH b&&is Bool c&&is Bool d|_=>false
 is_encL s:=by simp only[Enc.is_enc,Bool.true_and,Bool.and_true];show OH (.int .i64 (s.i:Int))=true;simp[OH]
 dec_encL s:=by
  simp only[Enc.dec_enc]
  cases s
  rfl
 subL ps h:=by
  match ps,h with
  | [a,b,c,d],h=>
   simp only[Bool.and_eq_true]at h
   obtain⟨⟨⟨h1,h2⟩,h3⟩,h4⟩:=h
   exact .cons (Enc.sub a h1).2 (.cons (Fb h2) (.cons (Enc.sub c h3).2 (.cons (Enc.sub d h4).2 .nil)))
def e4r(t:Tok):Bool:=decide (t.t.s.length<=65536)
def ZV(s:PS):Bool:=decide (s.l.length<=4000)&&(decide (s.i<=s.l.length)&&s.l.all e4r)
def PS.peek(s:PS)(k:Nat):Tok:=s.l.getD (s.i+k) ⟨0,⟨[]⟩,0,s.sz⟩
def PS.fail(s:PS):PS:=⟨s.l,s.l.length,s.sz,true,if s.bad then s.wr else(s.peek 0).o,s.big⟩
def PS.next(s:PS)(w:Str):Bool:=(decide ((s.peek 0).k=2)||decide ((s.peek 0).k=4))&&decide ((s.peek 0).t=w)
def PS.step(s:PS):PS:=⟨s.l,s.i+1,s.sz,s.bad,s.wr,s.big⟩
def PS.pass(s:PS)(w:Str):Bool×PS:=if s.next w then(true,s.step)else(false,s)
def PS.need(s:PS)(w:Str):PS:=if s.next w then s.step else s.fail
def PS.name(s:PS):Str×PS:=if (s.peek 0).k=1 then((s.peek 0).t,s.step)else(⟨[]⟩,s.fail)
def Q7(s:PS)(a:Int×Unit):Tok×PS:=(s.peek a.1.toNat,s)
def Jl(s:PS)(_:Unit):Unit×PS:=((),s.fail)
def Di(s:PS)(a:Str×Unit):Bool×PS:=(s.next a.1,s)
def TQ(s:PS)(a:Str×Unit):Bool×PS:=s.pass a.1
def Ri(s:PS)(_:Unit):Str×PS:=s.name
theorem Hd{s:PS}{k:Nat}(h:s.i+k<s.l.length):s.peek k=s.l[s.i+k]:=by
 unfold PS.peek
 rw[List.getD_eq_getElem?_getD,List.getElem?_eq_getElem h]
 rfl
theorem VO{s:PS}{k:Nat}(h:s.l.length<=s.i+k):s.peek k=⟨0,⟨[]⟩,0,s.sz⟩:=by
 unfold PS.peek
 rw[List.getD_eq_getElem?_getD,List.getElem?_eq_none h]
 rfl
theorem Xd{s:PS}(h:(s.peek 0).k≠0):s.i<s.l.length:=by
 rcases Nat.lt_or_ge s.i s.l.length with h1|h1
 ·exact h1
 ·rw[VO (by omega)]at h
  exact absurd rfl h
theorem Z4{s:PS}{w:Str}(h:s.next w=true):s.i<s.l.length:=by
 unfold PS.next at h
 simp only[Bool.and_eq_true,Bool.or_eq_true,decide_eq_true_eq]at h
 exact Xd (by rcases h.1 with h|h <;> omega)
structure Ge (s t:PS):Prop where
 l:t.l=s.l
 sz:t.sz=s.sz
 le:s.i<=t.i
 hi:t.i<=t.l.length
 bad:s.bad=true->t.bad=true
 big:s.big=true->t.big=true
theorem Ge.refl{s:PS}(h:s.i<=s.l.length):Ge s s:=⟨rfl,rfl,Nat.le_refl _,h,id,id⟩
theorem Ge.trans{s t u:PS}(h:Ge s t)(k:Ge t u):Ge s u:=⟨k.l.trans h.l,k.sz.trans h.sz,Nat.le_trans h.le k.le,k.hi,fun q=>k.bad (h.bad q),fun q=>k.big (h.big q)⟩
theorem Vy{s:PS}(h:ZV s=true):s.l.length<=4000∧s.i<=s.l.length:=by
 unfold ZV at h
 simp only[Bool.and_eq_true,decide_eq_true_eq]at h
 exact⟨h.1,h.2.1⟩
theorem d1e{s:PS}(h:ZV s=true): ∀ t∈s.l,t.t.s.length<=65536:=fun t ht=>by
 unfold ZV at h
 simp only[Bool.and_eq_true]at h
 exact of_decide_eq_true (List.all_eq_true.1 h.2.2 t ht)
theorem FI{s:PS}(h:ZV s=true)(k:Nat):(s.peek k).t.s.length<=65536:=by
 rcases Nat.lt_or_ge (s.i+k) s.l.length with h1|h1
 ·rw[Hd h1]
  exact d1e h _ (List.getElem_mem h1)
 ·rw[VO h1];simp
theorem Ge.ok{s t:PS}(h:Ge s t)(k:ZV s=true):ZV t=true:=by
 have h1:=Vy k
 have h2:=h.hi
 unfold ZV at k ⊢
 simp only[Bool.and_eq_true]at k
 rw[decide_eq_true h2,h.l,k.1,k.2.2]
 rfl
theorem Ge.fail{s:PS}(h:s.i<=s.l.length):Ge s s.fail:=⟨rfl,rfl,h,Nat.le_refl _,fun _=>rfl,id⟩
theorem Ge.step{s:PS}(h:s.i<s.l.length):Ge s s.step:=⟨rfl,rfl,Nat.le_succ _,h,id,id⟩
theorem Ge.need{s:PS}{w:Str}(h:s.i<=s.l.length):Ge s (s.need w):=by
 unfold PS.need
 split
 ·exact Ge.step (Z4 ‹_›)
 ·exact Ge.fail h
theorem Ge.name{s:PS}(h:s.i<=s.l.length):Ge s s.name.2:=by
 unfold PS.name
 split
 ·exact Ge.step (Xd (by omega))
 ·exact Ge.fail h
abbrev a1d(args:List AV)(os:List AObj):=UF (ZH) (Xb) ([]) ([]) (fun(s:PS) (a:Int×Unit)=>ZV s&&(decide (0<=Prod.fst a)&&decide (Prod.fst a<=1000))) (Q7) args os
abbrev d9o(args:List AV)(os:List AObj):=UF (ZH) (Xb) ([]) ([]) (fun(s:PS) (x:Str×Unit)=>ZV s) (Di) args os
abbrev d5o(args:List AV)(os:List AObj):=UF (ZH) (Xb) ([]) ([]) (fun(s:PS) (x:Unit)=>ZV s) (Jl) args os
noncomputable def EC:IC:=XG Proofs.Tryz.f33
def Eg:List IRes:=[(.cell true 4 4)]
abbrev d4x:Nat:=34
noncomputable def c0v:ZC:=YG []
theorem e2v{G:AV×List AObj×List AObj->Prop}(s:PS)(k:Int)(h:if (decide (IntKind.wrap IntKind.i64 ((↑(PS.i s):Int)+k) ≥ (↑(List.length (List.map enc (PS.l s))):Int)))=true then G (((.pv (.agg [(.int .i64 0),(.str []),(.int .i64 0),(.int .i64 (PS.sz s))])),([(ZJ s)],[])))else((decide (0<=IntKind.wrap IntKind.i64 ((↑(PS.i s):Int)+k))&&decide (Int.toNat (IntKind.wrap IntKind.i64 ((↑(PS.i s):Int)+k))<List.length (List.map enc (PS.l s)))&&Enc.sz Tok==4)=true∧(∃ a:Tok,AV.pv (PV.rptr (PV.cells (List.getD (List.map enc (PS.l s)) (Int.toNat (IntKind.wrap IntKind.i64 ((↑(PS.i s):Int)+k))) default)))=AV.pv (PV.rptr (PV.cells ((enc) a)))∧(G (((.pv (.agg [(.int .i64 (PV.asInt (List.getD (PV.cells (enc a)) 0 default))),(.str (PV.asStr (List.getD (PV.cells (enc a)) (0+1) default))),(.int .i64 (PV.asInt (List.getD (PV.cells (enc a)) (0+1+1) default))),(.int .i64 (PV.asInt (List.getD (PV.cells (enc a)) (0+1+1+1) default)))])),([(ZJ s)],[]))))))):Zb c0v 1 (Zz 1 Eg G) EC [] (Ya 34 [.ptr 0 0,.pv (.int .i64 k)] [ZJ s]):=Zb.tf (dm [dr Tok] 13 0x25120001422) h
noncomputable def O7:IC:=XG Proofs.Tryz.f50
def a1l:List IRes:=[]
abbrev d7m:Nat:=24
noncomputable def b6l:ZC:=YG [(33,.own (XY ZH [] [] (fun(s:PS) (a:Int×Unit)=>ZV s&&(decide (0<=a.1)&&decide (a.1<=1000)))) (WF Xb [] [] Q7))]
theorem e0w{G:AV×List AObj×List AObj->Prop}(s:PS)(h:if (!PS.bad s)=true then a1d [(.ptr 0 0),(.pv (.int .i64 0))] [(ZJ s)] fun b a=>(G (((.pv (.tup [])),([(.box [(.pv (.sl 4 false (List.map enc (PS.l a)))),(.pv (.int .i64 (↑(List.length (List.map enc (PS.l a))):Int))),(.pv (.int .i64 (PS.sz a))),(.pv (.bool true)),(.pv (.int .i64 (Tok.o b))),(.pv (.bool (PS.big a)))])],[]))))else(G (((.pv (.tup [])),([(.box [(.pv (.sl 4 false (List.map enc (PS.l s)))),(.pv (.int .i64 (↑(List.length (List.map enc (PS.l s))):Int))),(.pv (.int .i64 (PS.sz s))),(.pv (.bool (PS.bad s))),(.pv (.int .i64 (PS.wr s))),(.pv (.bool (PS.big s)))])],[]))))):Zb b6l 1 (Zz 1 a1l G) O7 [] (Ya 24 [.ptr 0 0] [ZJ s]):=Zb.tf (dm [dv Tok,dO PS] 10 0x6510044) h
noncomputable def OG:IC:=XG Proofs.Tryz.f32
def OE:List IRes:=[(.tmp 4)]
abbrev d9b:Nat:=22
noncomputable def b9e:ZC:=YG [(33,.own (XY ZH [] [] (fun(s:PS) (a:Int×Unit)=>ZV s&&(decide (0<=a.1)&&decide (a.1<=1000)))) (WF Xb [] [] Q7))]
theorem e1r{G:AV×List AObj×List AObj->Prop}(s:PS)(w:List UInt8)(h:a1d [(.ptr 0 0),(.pv (.int .i64 0))] [(ZJ s)] fun a b=>(if (Tok.k a==2)=true then G (((.pv (.bool (Str.s (Tok.t a)==w))),([(ZJ b)],[])))else(if (Tok.k a==4)=true then G (((.pv (.bool (Str.s (Tok.t a)==w))),([(ZJ b)],[])))else(G (((.pv (.bool false)),([(ZJ b)],[]))))))):Zb b9e 1 (Zz 1 OE G) OG [] (Ya 22 [.ptr 0 0,.pv (.str w)] [ZJ s]):=Zb.tf (dm [dv Tok,dO PS] 38 0x222202222200642222022222222200a42651) h
noncomputable def a2b:IC:=XG Proofs.Tryz.f30
def a0p:List IRes:=[(.tmp 4)]
abbrev d7r:Nat:=16
noncomputable def b3m:ZC:=YG [(32,.own (XY ZH [] [] (fun(s:PS) (_:Str×Unit)=>ZV s)) (WF Xb [] [] Di))]
theorem e4l{G:AV×List AObj×List AObj->Prop}(s:PS)(w:List UInt8)(h:d9o [(.ptr 0 0),(.pv (.str w))] [(ZJ s)] fun b a=>(if (!b)=true then G (((.pv (.bool false)),([(ZJ a)],[])))else(G (((.pv (.bool true)),([(.box [(.pv (.sl 4 false (List.map enc (PS.l a)))),(.pv (.int .i64 (IntKind.wrap IntKind.i64 ((↑(PS.i a):Int)+1)))),(.pv (.int .i64 (PS.sz a))),(.pv (.bool (PS.bad a))),(.pv (.int .i64 (PS.wr a))),(.pv (.bool (PS.big a)))])],[])))))):Zb b3m 1 (Zz 1 a0p G) a2b [] (Ya 16 [.ptr 0 0,.pv (.str w)] [ZJ s]):=Zb.tf (dm [dv Bool,dO PS] 11 0x200014651) h
noncomputable def a1x:IC:=XG Proofs.Tryz.f29
def Oo:List IRes:=[(.tmp 2)]
abbrev d7i:Nat:=20
noncomputable def b1y:ZC:=YG [(33,.own (XY ZH [] [] (fun(s:PS) (a:Int×Unit)=>ZV s&&(decide (0<=a.1)&&decide (a.1<=1000)))) (WF Xb [] [] Q7)),(50,.own (XY ZH [] [] (fun(s:PS) (_:Unit)=>ZV s)) (WF Xb [] [] Jl))]
theorem e5a{G:AV×List AObj×List AObj->Prop}(s:PS)(h:a1d [(.ptr 0 0),(.pv (.int .i64 0))] [(ZJ s)] fun b a=>(if (Tok.k b != 1)=true then d5o [(.ptr 0 0)] [(ZJ a)] fun y1 e=>(G (((.pv (.str [])),([(ZJ e)],[]))))else(G (((.pv (.str (Str.s (Tok.t b)))),([(.box [(.pv (.sl 4 false (List.map enc (PS.l a)))),(.pv (.int .i64 (IntKind.wrap IntKind.i64 ((↑(PS.i a):Int)+1)))),(.pv (.int .i64 (PS.sz a))),(.pv (.bool (PS.bad a))),(.pv (.int .i64 (PS.wr a))),(.pv (.bool (PS.big a)))])],[])))))):Zb b1y 1 (Zz 1 Oo G) a1x [] (Ya 20 [.ptr 0 0] [ZJ s]):=Zb.tf (dm [dv Tok,dO PS,dv Unit] 15 0x2067100442651) h
theorem ZA{S β:Type}[EncL S][Enc β]{y:β}{s:S}{p:PV}(h:Zk y p):Z9 [] [] y s (.pv p,[ZJ s],[]):=⟨p,rfl,h,rfl⟩
theorem Nl{α:Type}[BEq α][LawfulBEq α]{x y:α}{P Q:Prop}(h1:x≠y->P)(h2:x=y->Q):if (x != y)=true then P else Q:=by by_cases h:x=y;rw[if_neg (by simpa using h)];exact h2 h;rw[if_pos (by simpa using h)];exact h1 h
theorem c5y:Zk () (.tup []):=⟨rfl,rfl⟩
theorem d5y(t:Tok):Zk t (.agg [.int .i64 t.k,.str t.t.s,.int .i64 t.ln,.int .i64 t.o]):=ZX (x:=t) rfl
theorem Dj{x:Str}{l:List UInt8}(h:x=⟨l⟩):Zk x (.str l):=by rw[h];exact ZX (x:=(⟨l⟩:Str)) rfl
theorem c8y: ∀ (s:PS) (a:Int×Unit),(ZV s&&(decide (0<=a.1)&&decide (a.1<=1000)))=true->Zb c0v 1 (Zz 1 Eg (Z9 [] [] (Q7 s a).1 (Q7 s a).2)) EC [] (Ya d4x (ZH a) ([]++[ZJ s])):=by
 rintro s ⟨k,⟨⟩⟩ h
 simp only[Bool.and_eq_true,decide_eq_true_eq]at h
 obtain⟨hs,h1,h2⟩:=h
 obtain⟨k,rfl⟩ : ∃ n:Nat,k=n:=⟨k.toNat,by omega⟩
 have hl:=Vy hs
 have e:IntKind.wrap IntKind.i64 ((s.i:Int)+(k:Int))=((s.i+k:Nat):Int):=by rw[Xi (by omega) (by omega)];omega
 show Zb c0v 1 (Zz 1 Eg (Z9 [] [] (s.peek (k:Int).toNat) s)) EC [] _
 rw[Int.toNat_natCast]
 refine e2v s k ?_
 rw[e]
 by_cases hlt:s.i+k<s.l.length
 ·refine Y1 (by simp;omega) ⟨Xg hlt rfl,Wn hlt ?_⟩
  rw[Hd hlt]
  exact ZA (d5y _)
 ·refine YP (by simp;omega) ?_
  rw[VO (by omega)]
  exact ZA (d5y ⟨0,⟨[]⟩,0,s.sz⟩)
theorem d9z{s:PS}{k:Nat}{K:Tok->PS->Prop}(hs:ZV s=true)(hk:k<=1000)(h:K (s.peek k) s):UF ZH Xb [] [] (fun(s:PS) (a:Int×Unit)=>ZV s&&(decide (0<=Prod.fst a)&&decide (Prod.fst a<=1000))) Q7 [.ptr 0 0,.pv (.int .i64 (k:Int))] [ZJ s] K:=
 Xt ZQ s ((k:Int),()) rfl rfl (by rw[hs,decide_eq_true (show(0:Int)<=((k:Int),()).1 by show(0:Int)<=(k:Int);omega),decide_eq_true (show((k:Int),()).1<=(1000:Int) by show(k:Int)<=1000;omega)];rfl) (by show K (s.peek (k:Int).toNat) s;rw[Int.toNat_natCast];exact h)
theorem KZ{s:PS}{K:Tok->PS->Prop}(hs:ZV s=true)(h:K (s.peek 0) s):UF ZH Xb [] [] (fun(s:PS) (a:Int×Unit)=>ZV s&&(decide (0<=Prod.fst a)&&decide (Prod.fst a<=1000))) Q7 [.ptr 0 0,.pv (.int .i64 0)] [ZJ s] K:=d9z (k:=0) hs (by omega) h
theorem c6r: ∀ (s:PS) (a:Unit),ZV s=true->Zb b6l 1 (Zz 1 a1l (Z9 [] [] (Jl s a).1 (Jl s a).2)) O7 [] (Ya d7m (ZH a) ([]++[ZJ s])):=by
 rintro s ⟨⟩ hs
 show Zb b6l 1 (Zz 1 a1l (Z9 [] [] () s.fail)) O7 [] _
 refine e0w s (YN (fun hb=> ?_) fun hb=> ?_)
 ·refine KZ hs (Xr c5y ?_)
  rw[List.length_map]
  show _=[_,_,_,_,AV.pv (.int .i64 (if s.bad=true then s.wr else(s.peek 0).o)),_]
  rw[hb];rfl
 ·refine Xr c5y ?_
  rw[List.length_map,hb]
  show _=[_,_,_,_,AV.pv (.int .i64 (if s.bad=true then s.wr else(s.peek 0).o)),_]
  rw[hb];rfl
theorem Bp{s:PS}{K:Unit->PS->Prop}(hs:ZV s=true)(h:K () s.fail):UF ZH Xb [] [] (fun(s:PS) (_:Unit)=>ZV s) Jl [.ptr 0 0] [ZJ s] K:=Xt ZQ s () rfl rfl hs h
theorem c7n: ∀ (s:PS) (a:Str×Unit),ZV s=true->Zb b9e 1 (Zz 1 OE (Z9 [] [] (Di s a).1 (Di s a).2)) OG [] (Ya d9b (ZH a) ([]++[ZJ s])):=by
 rintro s ⟨⟨w⟩,⟨⟩⟩ hs
 show Zb b9e 1 (Zz 1 OE (Z9 [] [] (s.next ⟨w⟩) s)) OG [] _
 have e:s.next ⟨w⟩=((decide ((s.peek 0).k=2)||decide ((s.peek 0).k=4))&&((s.peek 0).t.s==w)):=by
  unfold PS.next
  congr 1
  rw[Bool.eq_iff_iff]
  simp only[decide_eq_true_eq,beq_iff_eq]
  exact⟨fun h=>by rw[h],fun h=>by cases ht:(s.peek 0).t;rw[ht]at h;exact congrArg Str.mk h⟩
 rw[e]
 refine e1r s w (KZ hs (Z7 (fun h=>ZA (ZG ?_)) fun h=>Z7 (fun h2=>ZA (ZG ?_)) fun h2=>ZA (ZG ?_)))
 ·rw[decide_eq_true h];rfl
 ·rw[decide_eq_true h2,Bool.or_true,Bool.true_and]
 ·rw[decide_eq_false h,decide_eq_false h2];rfl
theorem d6i{s:PS}{w:List UInt8}{K:Bool->PS->Prop}(hs:ZV s=true)(h:K (s.next ⟨w⟩) s):UF ZH Xb [] [] (fun(s:PS) (_:Str×Unit)=>ZV s) Di [.ptr 0 0,.pv (.str w)] [ZJ s] K:=Xt ZQ s (⟨w⟩,()) rfl rfl hs h
theorem PX{s:PS}(h:s.i<s.l.length)(hl:s.l.length<=4000):[AV.pv (.sl 4 false (List.map enc (PS.l s))),.pv (.int .i64 (IntKind.i64.wrap ((s.i:Int)+1))),.pv (.int .i64 (PS.sz s)),.pv (.bool (PS.bad s)),.pv (.int .i64 (PS.wr s)),.pv (.bool (PS.big s))]=(encL s.step).map AV.pv:=by
 rw[next (by omega)]
 rfl
theorem c9r: ∀ (s:PS) (a:Str×Unit),ZV s=true->Zb b3m 1 (Zz 1 a0p (Z9 [] [] (TQ s a).1 (TQ s a).2)) a2b [] (Ya d7r (ZH a) ([]++[ZJ s])):=by
 rintro s ⟨⟨w⟩,⟨⟩⟩ hs
 have b:=Vy hs
 show Zb b3m 1 (Zz 1 a0p (Z9 [] [] (s.pass ⟨w⟩).1 (s.pass ⟨w⟩).2)) a2b [] _
 unfold PS.pass
 refine e4l s w (d6i hs (YN (fun h=> ?_) fun h=> ?_))
 ·rw[h];exact ZA (ZG rfl)
 ·rw[h];exact Xr (ZG rfl) (PX (Z4 h) b.1)
theorem OM{s:PS}{w:List UInt8}{K:Bool->PS->Prop}(hs:ZV s=true)(h1:s.next ⟨w⟩=true->K true s.step)(h2:s.next ⟨w⟩=false->K false s):UF ZH Xb [] [] (fun(s:PS) (_:Str×Unit)=>ZV s) TQ [.ptr 0 0,.pv (.str w)] [ZJ s] K:=Xt ZQ s (⟨w⟩,()) rfl rfl hs (by
 show K (s.pass ⟨w⟩).1 (s.pass ⟨w⟩).2
 unfold PS.pass
 cases h:s.next ⟨w⟩with
 | true=>exact h1 h
 | false=>exact h2 h)
theorem d0y: ∀ (s:PS) (a:Unit),ZV s=true->Zb b1y 1 (Zz 1 Oo (Z9 [] [] (Ri s a).1 (Ri s a).2)) a1x [] (Ya d7i (ZH a) ([]++[ZJ s])):=by
 rintro s ⟨⟩ hs
 have b:=Vy hs
 show Zb b1y 1 (Zz 1 Oo (Z9 [] [] s.name.1 s.name.2)) a1x [] _
 unfold PS.name
 refine e5a s (KZ hs (Nl (fun h=>Bp hs ?_) fun h=> ?_))
 ·rw[if_neg h];exact ZA (Dj rfl)
 ·rw[if_pos h];exact Xr (Dj rfl) (PX (Xd (by omega)) b.1)
theorem c3a{s:PS}{K:Str->PS->Prop}(hs:ZV s=true)(h:K s.name.1 s.name.2):UF ZH Xb [] [] (fun(s:PS) (_:Unit)=>ZV s) Ri [.ptr 0 0] [ZJ s] K:=Xt ZQ s () rfl rfl hs h
def UA(l:List UInt8):Bool:= !l.isEmpty&&decide (l.length<=10)&&l.all digB&& !(decide (l.head? = some 48)&&decide (1<l.length))&&decide (VI l<=2147483648)
def Yx(s:Str):Int×Bool:=if UA s.s then(VI s.s,true)else(0,false)
def PS.num(s:PS)(m:Int):Int×PS:=if (s.peek 0).k=3∧(Yx (s.peek 0).t).2=true∧(Yx (s.peek 0).t).1<=m then((Yx (s.peek 0).t).1,s.step)else(0,s.fail)
def PS.wide(s:PS)(b:Bool):PS:=⟨s.l,s.i,s.sz,s.bad,s.wr,s.big||b⟩
def PS.note(s:PS)(x:Lin×Int):Lin×PS:=(x.1,s.wide (decide (x.2≠0)))
def Ui(n:Str):Lin:=⟨0,[⟨n,1⟩]⟩
def PS.item(s:PS):Lin×PS:=
 if (s.peek 0).k=1 then(Ui s.name.1,s.name.2)
 else if ((s.num 2147483648).2.peek 0).k=1∧(s.num 2147483648).2.bad=false then(s.num 2147483648).2.name.2.note (YL (Ui (s.num 2147483648).2.name.1) (s.num 2147483648).1)
 else(⟨(s.num 2147483648).1,[]⟩,(s.num 2147483648).2)
def linLoop:Nat->PS->Lin->Lin×PS
 | 0,s,l=>(l,s)
 | n+1,s,l=>
  if s.bad then(l,s)
  else if s.next ⟨[43]⟩then(linLoop n (s.step.item.2.note (Zi l s.step.item.1 1)).2 (Zi l s.step.item.1 1).1)
  else if s.next ⟨[45]⟩then(linLoop n (s.step.item.2.note (Zi l s.step.item.1 (-1))).2 (Zi l s.step.item.1 (-1)).1)
  else(l,s.wide (!Zd l))
def PS.lin0(s:PS):Lin×PS:=if s.next ⟨[45]⟩then s.step.item.2.note (YL s.step.item.1 (-1))else s.item
def PS.linear(s:PS):Lin×PS:=linLoop (s.l.length+1) s.lin0.2 s.lin0.1
def moreL{α:Type}(one:PS->α×PS):Nat->PS->List α->List α×PS
 | 0,s,o=>(o,s)
 | n+1,s,o=>if s.bad then(o,s)else if s.next ⟨[44]⟩then moreL one n (one s.step).2 (o++[(one s.step).1])else(o,s)
def listL{α:Type}(one:PS->α×PS)(s:PS):List α×PS:=moreL one (s.l.length+1) (one s).2 [(one s).1]
def PS.dims(row:Bool)(s:PS):List Lin×PS:=
 if s.next ⟨[93]⟩then([],s)
 else if (if row then s.need ⟨[44]⟩else s).bad then([],if row then s.need ⟨[44]⟩else s)
 else listL PS.linear (if row then s.need ⟨[44]⟩else s)
def PS.isRow(s:PS):Bool:=decide ((s.peek 0).k=1)&&(decide ((s.peek 1).k=4)&&decide ((s.peek 1).t=⟨[46,46]⟩))
def PS.elem(s:PS):Str×PS:=if s.next ⟨U7⟩then(⟨U7⟩,s.step)else if s.next ⟨WL⟩then(⟨WL⟩,s.step)else(⟨[]⟩,s.fail)
def PS.func(s:PS):Str×PS:=if s.name.2.next ⟨[46]⟩then(⟨s.name.1.s++([46]++s.name.2.step.name.1.s)⟩,s.name.2.step.name.2)else(s.name.1,s.name.2)
def PS.oper(s:PS):(Str×Int)×PS:=if (s.peek 0).k=4 then(((MV (s.peek 0).t false).a,(MV (s.peek 0).t false).b),s)else((⟨[]⟩,0),s)
def a9j(s:PS)(a:Int×Unit):Int×PS:=s.num a.1
def Aa(s:PS)(a:Lin×Int×Unit):Lin×PS:=s.note (a.1,a.2.1)
def TI(s:PS)(_:Unit):Lin×PS:=s.item
def a6u(s:PS)(_:Unit):Lin×PS:=s.linear
theorem Ge.wide{s:PS}{b:Bool}(h:s.i<=s.l.length):Ge s (s.wide b):=⟨rfl,rfl,Nat.le_refl _,h,id,fun q=>by show(s.big||b)=true;rw[q];rfl⟩
theorem Ge.note{s:PS}{x:Lin×Int}(h:s.i<=s.l.length):Ge s (s.note x).2:=Ge.wide h
theorem Ge.num{s:PS}{m:Int}(h:s.i<=s.l.length):Ge s (s.num m).2:=by
 unfold PS.num
 split
 ·exact Ge.step (Xd (by omega))
 ·exact Ge.fail h
theorem Ge.item{s:PS}(h:s.i<=s.l.length):Ge s s.item.2:=by
 unfold PS.item
 split
 ·exact Ge.name h
 ·have h1:=Ge.num (m:=2147483648) h
  split
  ·have h2:=Ge.name h1.hi
   exact h1.trans (h2.trans (Ge.note h2.hi))
  ·exact h1
theorem Ge.linLoop: ∀ (n:Nat) {s:PS} {l:Lin},s.i<=s.l.length->Ge s (linLoop n s l).2
 | 0,s,l,h=>Ge.refl h
 | n+1,s,l,h=>by
  rw[Go.Pl.linLoop]
  split
  ·exact Ge.refl h
  ·split
   ·have h1:=Ge.step (Z4 ‹_›)
    have h2:=Ge.item h1.hi
    have h3:=Ge.note (x:=Zi l s.step.item.1 1) h2.hi
    exact h1.trans (h2.trans (h3.trans (Ge.linLoop n h3.hi)))
   ·split
    ·have h1:=Ge.step (Z4 ‹_›)
     have h2:=Ge.item h1.hi
     have h3:=Ge.note (x:=Zi l s.step.item.1 (-1)) h2.hi
     exact h1.trans (h2.trans (h3.trans (Ge.linLoop n h3.hi)))
    ·exact Ge.wide h
theorem Ge.lin0{s:PS}(h:s.i<=s.l.length):Ge s s.lin0.2:=by
 unfold PS.lin0
 split
 ·have h1:=Ge.step (Z4 ‹_›)
  have h2:=Ge.item h1.hi
  exact h1.trans (h2.trans (Ge.note h2.hi))
 ·exact Ge.item h
theorem Ge.linear{s:PS}(h:s.i<=s.l.length):Ge s s.linear.2:=(Ge.lin0 h).trans (Ge.linLoop _ (Ge.lin0 h).hi)
theorem Ge.moreL{α:Type}{one:PS->α×PS}{B:PS->Prop}(a : ∀ s t,B s->Ge s t->B t)(h1 : ∀ s,B s->s.i<=s.l.length->Ge s (one s).2): ∀ (n:Nat) {s:PS} {o:List α},B s->s.i<=s.l.length->Ge s (moreL one n s o).2
 | 0,s,o,_,h=>Ge.refl h
 | n+1,s,o,hb,h=>by
  rw[Go.Pl.moreL]
  split
  ·exact Ge.refl h
  ·split
   ·have k1:=Ge.step (Z4 ‹_›)
    have b:=h1 s.step (a _ _ hb k1) k1.hi
    exact k1.trans (b.trans (Ge.moreL a h1 n (a _ _ hb (k1.trans b)) b.hi))
   ·exact Ge.refl h
theorem Ge.listL{α:Type}{one:PS->α×PS}{B:PS->Prop}(a : ∀ s t,B s->Ge s t->B t)(h1 : ∀ s,B s->s.i<=s.l.length->Ge s (one s).2){s:PS}(hb:B s)(h:s.i<=s.l.length):Ge s (listL one s).2:=(h1 s hb h).trans (Ge.moreL a h1 _ (a _ _ hb (h1 s hb h)) (h1 s hb h).hi)
theorem Ge.list{α:Type}{one:PS->α×PS}(h1 : ∀ s,s.i<=s.l.length->Ge s (one s).2){s:PS}(h:s.i<=s.l.length):Ge s (Go.Pl.listL one s).2:=Ge.listL (B:=fun _=>True) (fun _ _ _ _=>trivial) (fun s _ h=>h1 s h) trivial h
theorem Ge.dims{row:Bool}{s:PS}(h:s.i<=s.l.length):Ge s (s.dims row).2:=by
 have k:Ge s (if row then s.need ⟨[44]⟩else s):=by
  split
  ·exact Ge.need h
  ·exact Ge.refl h
 unfold PS.dims
 generalize (if row=true then s.need ⟨[44]⟩else s)=t at *
 split
 ·exact Ge.refl h
 ·split
  ·exact k
  ·exact k.trans (Ge.list (fun s h=>Ge.linear h) k.hi)
theorem d3y{s:PS}(h:s.isRow=true):s.i+1<s.l.length:=by
 unfold PS.isRow at h
 simp only[Bool.and_eq_true,decide_eq_true_eq]at h
 rcases Nat.lt_or_ge (s.i+1) s.l.length with h1|h1
 ·exact h1
 ·have h2:=h.2.1
  rw[VO h1]at h2
  exact absurd (show(0:Int)=4 from h2) (by decide)
theorem b5f{s:PS}(h:s.isRow=true):(s.peek 0).k=1:=by
 unfold PS.isRow at h
 simp only[Bool.and_eq_true,decide_eq_true_eq]at h
 exact h.1
theorem b4e{s:PS}(h:s.isRow=true):s.name=((s.peek 0).t,s.step):=if_pos (b5f h)
theorem Ge.row{s:PS}(h:s.isRow=true):Ge s s.name.2.step:=by
 rw[b4e h]
 have:=d3y h
 exact(Ge.step (by omega)).trans (Ge.step (s:=s.step) this)
theorem Ge.elem{s:PS}(h:s.i<=s.l.length):Ge s s.elem.2:=by
 unfold PS.elem
 split
 ·exact Ge.step (Z4 ‹_›)
 ·split
  ·exact Ge.step (Z4 ‹_›)
  ·exact Ge.fail h
theorem Ge.func{s:PS}(h:s.i<=s.l.length):Ge s s.func.2:=by
 unfold PS.func
 have h1:=Ge.name h
 split
 ·have h2:=Ge.step (Z4 ‹_›)
  exact h1.trans (h2.trans (Ge.name h2.hi))
 ·exact h1
theorem YC(a b:Lin)(k:Int):Zp (Zi a b k).1=true:=by
 unfold Zi
 split
 ·split
  ·unfold Cr
   split
   ·exact b3h ‹_›
   ·rfl
  ·rfl
 ·rfl
theorem Ro{s:PS}(h:ZV s=true):s.name.1.s.length<=65536:=by
 unfold PS.name
 split
 ·exact FI h 0
 ·simp
theorem CE{n:Str}(h:n.s.length<=65536):Zp (Ui n)=true:=by
 unfold Zp Yn Ui
 simp
 omega
theorem HV{s:PS}(h:ZV s=true):Zp s.item.1=true:=by
 unfold PS.item
 split
 ·exact CE (Ro h)
 ·split
  ·exact YC _ _ _
  ·rfl
theorem d0o{s:PS}(h:ZV s=true):Zp s.lin0.1=true:=by
 unfold PS.lin0
 split
 ·exact YC _ _ _
 ·exact HV h
theorem J3: ∀ (n:Nat) {s:PS} {l:Lin},Zp l=true->Zp (linLoop n s l).1=true
 | 0,s,l,h=>h
 | n+1,s,l,h=>by
  rw[linLoop]
  split
  ·exact h
  ·split
   ·exact J3 n (YC _ _ _)
   ·split
    ·exact J3 n (YC _ _ _)
    ·exact h
theorem Tg{s:PS}(h:ZV s=true):Zp s.linear.1=true:=J3 _ (d0o h)
abbrev EB(args:List AV)(os:List AObj):=UF (ZH) (Xb) ([]) ([]) (fun(s:PS) (a:Int×Unit)=>ZV s&&(decide (0<=Prod.fst a)&&decide (Prod.fst a<=1000))) (Q7) args os
abbrev a0n(args:List AV)(os:List AObj):=UF (ZH) (Xb) ([]) ([]) (fun(s:PS) (x:Unit)=>ZV s) (Jl) args os
abbrev b2f(args:List AV)(os:List AObj):=UF (ZH) (Xb) ([]) ([]) (fun(s:PS) (x:Unit)=>ZV s) (Ri) args os
abbrev d8f(args:List AV)(os:List AObj):=UF (ZH) (Xb) ([]) ([]) (fun(s:PS) (x:Int×Unit)=>ZV s) (a9j) args os
abbrev Pg(args:List AV)(os:List AObj):=UF (ZH) (Xb) ([]) ([]) (fun(s:PS) (x:Lin×Int×Unit)=>ZV s) (Aa) args os
abbrev EN(args:List AV)(os:List AObj):=UF (ZH) (Xb) ([]) ([]) (fun(s:PS) (x:Str×Unit)=>ZV s) (TQ) args os
abbrev a0z(args:List AV)(os:List AObj):=UF (ZH) (Xb) ([]) ([]) (fun(s:PS) (x:Unit)=>ZV s) (TI) args os
noncomputable def a2f:IC:=XG Proofs.Tryz.f105
def OW:List IRes:=[(.tmp 4)]
abbrev d8i:Nat:=38
noncomputable def b5t:ZC:=YG [(33,.own (XY ZH [] [] (fun(s:PS) (a:Int×Unit)=>ZV s&&(decide (0<=a.1)&&decide (a.1<=1000)))) (WF Xb [] [] Q7)),(125,.pure (preT (fun x:Str×Unit=>decide (x.1.s.length<=1048576))) (Zm (fun x:Str×Unit=>Yx x.1))),(50,.own (XY ZH [] [] (fun(s:PS) (_:Unit)=>ZV s)) (WF Xb [] [] Jl))]
theorem e3d{G:AV×List AObj×List AObj->Prop}(s:PS)(m:Int)(h:EB [(.ptr 0 0),(.pv (.int .i64 0))] [(ZJ s)] fun e a=>((Go.Pl.preT (fun(x:Str×Unit)=>decide (List.length (Str.s x.1)<=1048576)) [(.str (Str.s (Tok.t e)))])=true∧(∃ b:Int×Bool,AV.pv (Zm (fun(x:Str×Unit)=>Yx x.1) [(.str (Str.s (Tok.t e)))])=AV.pv (enc b)∧(if (Tok.k e != 3)=true then a0n [(.ptr 0 0)] [(ZJ a)] fun y2 j=>(G (((.pv (.int .i64 0)),([(ZJ j)],[]))))else(if (!Prod.snd b)=true then a0n [(.ptr 0 0)] [(ZJ a)] fun y3 g=>(G (((.pv (.int .i64 0)),([(ZJ g)],[]))))else(if (decide (b.1>m))=true then a0n [(.ptr 0 0)] [(ZJ a)] fun y4 q=>(G (((.pv (.int .i64 0)),([(ZJ q)],[]))))else(G (((.pv (.int .i64 b.1)),([(.box [(.pv (.sl 4 false (List.map enc (PS.l a)))),(.pv (.int .i64 (IntKind.wrap IntKind.i64 ((↑(PS.i a):Int)+1)))),(.pv (.int .i64 (PS.sz a))),(.pv (.bool (PS.bad a))),(.pv (.int .i64 (PS.wr a))),(.pv (.bool (PS.big a)))])],[])))))))))):Zb b5t 1 (Zz 1 OW G) a2f [] (Ya 38 [.ptr 0 0,.pv (.int .i64 m)] [ZJ s]):=Zb.tf (dm [dv Tok,dO PS,dv (Int×Bool),dv Unit] 50 0x2068100442222068122220084220681222222200b4271651) h
noncomputable def ED:IC:=XG Proofs.Tryz.f69
def ET:List IRes:=[(.cell true 2 6)]
abbrev d7u:Nat:=19
noncomputable def b9w:ZC:=YG []
theorem e1c{G:AV×List AObj×List AObj->Prop}(s:PS)(l:Lin)(e:Int)(h:if (PS.big s)=true then G (((.pv (.agg [(.int .i64 l.k),(.sl 2 false (List.map enc l.t))])),([(.box [(.pv (.sl 4 false (List.map enc (PS.l s)))),(.pv (.int .i64 (↑(PS.i s):Int))),(.pv (.int .i64 (PS.sz s))),(.pv (.bool (PS.bad s))),(.pv (.int .i64 (PS.wr s))),(.pv (.bool true))])],[])))else(G (((.pv (.agg [(.int .i64 l.k),(.sl 2 false (List.map enc l.t))])),([(.box [(.pv (.sl 4 false (List.map enc (PS.l s)))),(.pv (.int .i64 (↑(PS.i s):Int))),(.pv (.int .i64 (PS.sz s))),(.pv (.bool (PS.bad s))),(.pv (.int .i64 (PS.wr s))),(.pv (.bool (e != 0)))])],[]))))):Zb b9w 1 (Zz 1 ET G) ED [] (Ya 19 [.ptr 0 0,.pv (.agg [enc l.k,enc l.t]),.pv (.int .i64 e)] [ZJ s]):=Zb.tf (dm [] 12 0x2220220034) h
noncomputable def EH:IC:=XG Proofs.Tryz.f68
def EW:List IRes:=[(.cell true 2 2)]
abbrev d4n:Nat:=35
noncomputable def b6a:ZC:=YG [(33,.own (XY ZH [] [] (fun(s:PS) (a:Int×Unit)=>ZV s&&(decide (0<=a.1)&&decide (a.1<=1000)))) (WF Xb [] [] Q7)),(29,.own (XY ZH [] [] (fun(s:PS) (_:Unit)=>ZV s)) (WF Xb [] [] Ri)),(104,.pure (preT (fun _:Str×Unit=>true)) (Zm (fun x:Str×Unit=>Ui x.1))),(105,.own (XY ZH [] [] (fun(s:PS) (_:Int×Unit)=>ZV s)) (WF Xb [] [] a9j)),(69,.own (XY ZH [] [] (fun(s:PS) (_:Lin×Int×Unit)=>ZV s)) (WF Xb [] [] Aa)),(70,.pure (preT (fun x:Lin×Int×Unit=>Zp x.1)) (Zm (fun x:Lin×Int×Unit=>YL x.1 x.2.1))),(106,.pure (preT (fun _:Int×Unit=>true)) (Zm (fun x:Int×Unit=>(⟨x.1,[]⟩:Lin))))]
theorem e4f{G:AV×List AObj×List AObj->Prop}(s:PS)(h:EB [(.ptr 0 0),(.pv (.int .i64 0))] [(ZJ s)] fun y u=>(if (Tok.k y==1)=true then b2f [(.ptr 0 0)] [(ZJ u)] fun E F=>(∃ l:Lin,AV.pv (Zm (fun(x:Str×Unit)=>Ui x.1) [(.str (Str.s E))])=AV.pv (enc l)∧(G (((.pv (.agg [(.int .i64 l.k),(.sl 2 false (List.map enc l.t))])),([(ZJ F)],[])))))else(d8f [(.ptr 0 0),(.pv (.int .i64 2147483648))] [(ZJ u)] fun g B=>(EB [(.ptr 0 0),(.pv (.int .i64 0))] [(ZJ B)] fun D j=>(if (Tok.k D==1)=true then if (!PS.bad j)=true then b2f [(.ptr 0 0)] [(ZJ j)] fun A C=>(∃ b:Lin,AV.pv (Zm (fun(x:Str×Unit)=>Ui x.1) [(.str (Str.s A))])=AV.pv (enc b)∧((Go.Pl.preT (fun(x:Lin×Int×Unit)=>Zp x.1) [(.agg [(.int .i64 b.k),(.sl 2 false (List.map enc b.t))]),(.int .i64 g)])=true∧(∃ e:Lin×Int,AV.pv (Zm (fun(x:Lin×Int×Unit)=>YL x.1 x.2.1) [(.agg [(.int .i64 b.k),(.sl 2 false (List.map enc b.t))]),(.int .i64 g)])=AV.pv (enc e)∧(Pg [(.ptr 0 0),(.pv (.agg [(.int .i64 e.1.k),(.sl 2 false (List.map enc e.1.t))])),(.pv (.int .i64 e.2))] [(ZJ C)] fun r z=>(G (((.pv (.agg [(.int .i64 r.k),(.sl 2 false (List.map enc r.t))])),([(ZJ z)],[]))))))))else(∃ q:Lin,AV.pv (Zm (fun(x:Int×Unit)=>Lin.mk x.1 []) [(.int .i64 g)])=AV.pv (enc q)∧(G (((.pv (.agg [(.int .i64 q.k),(.sl 2 false (List.map enc q.t))])),([(ZJ j)],[])))))else(∃ a:Lin,AV.pv (Zm (fun(x:Int×Unit)=>Lin.mk x.1 []) [(.int .i64 g)])=AV.pv (enc a)∧(G (((.pv (.agg [(.int .i64 a.k),(.sl 2 false (List.map enc a.t))])),([(ZJ j)],[])))))))))):Zb b6a 1 (Zz 1 EW G) EH [] (Ya 35 [.ptr 0 0] [ZJ s]):=Zb.tf (dm [dv Tok,dO PS,dv Str,dv Lin,dv Int,dv (Lin×Int)] 58 0x822222220820681a18267100b4222220174265169108267100642651) h
noncomputable def QV:IC:=XG Proofs.Tryz.f42
def QD:List IRes:=[(.cell true 2 2)]
abbrev d8o:Nat:=57
noncomputable def HZ:ZC:=YG [(30,.own (XY ZH [] [] (fun(s:PS) (_:Str×Unit)=>ZV s)) (WF Xb [] [] TQ)),(68,.own (XY ZH [] [] (fun(s:PS) (_:Unit)=>ZV s)) (WF Xb [] [] TI)),(69,.own (XY ZH [] [] (fun(s:PS) (_:Lin×Int×Unit)=>ZV s)) (WF Xb [] [] Aa)),(70,.pure (preT (fun x:Lin×Int×Unit=>Zp x.1)) (Zm (fun x:Lin×Int×Unit=>YL x.1 x.2.1))),(71,.pure (preT (fun x:Lin×Lin×Unit=>Zp x.1&&Zp x.2.1)) (Zm (fun x:Lin×Lin×Unit=>Zi x.1 x.2.1 1))),(72,.pure (preT (fun x:Lin×Lin×Unit=>Zp x.1&&Zp x.2.1)) (Zm (fun x:Lin×Lin×Unit=>Zi x.1 x.2.1 (-1)))),(43,.pure (preT (fun x:Lin×Unit=>Zp x.1)) (Zm (fun x:Lin×Unit=>Zd x.1)))]
theorem e0s{G:AV×List AObj×List AObj->Prop}(s:PS)(h:EN [(.ptr 0 0),(.pv (.str [(45:UInt8)]))] [(ZJ s)] fun l q=>(a0z [(.ptr 0 0)] [(ZJ q)] fun a g=>(if (l)=true then(Go.Pl.preT (fun(x:Lin×Int×Unit)=>Zp x.1) [(.agg [(.int .i64 a.k),(.sl 2 false (List.map enc a.t))]),(.int .i64 (-1))])=true∧(∃ b:Lin×Int,AV.pv (Zm (fun(x:Lin×Int×Unit)=>YL x.1 x.2.1) [(.agg [(.int .i64 a.k),(.sl 2 false (List.map enc a.t))]),(.int .i64 (-1))])=AV.pv (enc b)∧(Pg [(.ptr 0 0),(.pv (.agg [(.int .i64 b.1.k),(.sl 2 false (List.map enc b.1.t))])),(.pv (.int .i64 b.2))] [(ZJ g)] fun e j=>(At HZ 1 (Zz 1 QD G) QV 0 57 [(0,(.ptr 0 0)),(2,(.ptr 1 0)),(4,(.ptr 2 0))] [(.obj (ZJ j)),(.obj (.box [(.pv (.int .i64 0)),(.pv (.sl 0 true []))])),(.obj (.box [(.pv (.int .i64 e.k)),(.pv (.sl 2 false (List.map enc e.t)))]))])))else(At HZ 1 (Zz 1 QD G) QV 0 57 [(0,(.ptr 0 0)),(2,(.ptr 1 0)),(4,(.ptr 2 0))] [(.obj (ZJ g)),(.obj (.box [(.pv (.int .i64 0)),(.pv (.sl 0 true []))])),(.obj (.box [(.pv (.int .i64 a.k)),(.pv (.sl 2 false (List.map enc a.t)))]))])))):Zb HZ 1 (Zz 1 QD G) QV [] (Ya 57 [.ptr 0 0] [ZJ s]):=Zb.tf (dm [dv Bool,dO PS,dv Lin,dv (Lin×Int)] 18 0x671810064671651) h
theorem d9l{G:AV×List AObj×List AObj->Prop}(s:PS)(l:Lin)(h:if (!PS.bad s)=true then EN [(.ptr 0 0),(.pv (.str [(43:UInt8)]))] [(ZJ s)] fun A y=>(if (A)=true then a0z [(.ptr 0 0)] [(ZJ y)] fun j E=>((Go.Pl.preT (fun(x:Lin×Lin×Unit)=>Zp x.1&&Zp x.2.1) [(.agg [(.int .i64 l.k),(.sl 2 false (List.map enc l.t))]),(.agg [(.int .i64 j.k),(.sl 2 false (List.map enc j.t))])])=true∧(∃ g:Lin×Int,AV.pv (Zm (fun(x:Lin×Lin×Unit)=>Zi x.1 x.2.1 1) [(.agg [(.int .i64 l.k),(.sl 2 false (List.map enc l.t))]),(.agg [(.int .i64 j.k),(.sl 2 false (List.map enc j.t))])])=AV.pv (enc g)∧(Pg [(.ptr 0 0),(.pv (.agg [(.int .i64 g.1.k),(.sl 2 false (List.map enc g.1.t))])),(.pv (.int .i64 g.2))] [(ZJ E)] fun u B=>(At HZ 1 (Zz 1 QD G) QV 0 57 [(0,(.ptr 0 0)),(2,(.ptr 1 0)),(4,(.ptr 2 0))] [(.obj (ZJ B)),(.obj (.box [(.pv (.int .i64 0)),(.pv (.sl 0 true []))])),(.obj (.box [(.pv (.int .i64 u.k)),(.pv (.sl 2 false (List.map enc u.t)))]))]))))else(EN [(.ptr 0 0),(.pv (.str [(45:UInt8)]))] [(ZJ y)] fun D a=>(if (D)=true then a0z [(.ptr 0 0)] [(ZJ a)] fun b C=>((Go.Pl.preT (fun(x:Lin×Lin×Unit)=>Zp x.1&&Zp x.2.1) [(.agg [(.int .i64 l.k),(.sl 2 false (List.map enc l.t))]),(.agg [(.int .i64 b.k),(.sl 2 false (List.map enc b.t))])])=true∧(∃ e:Lin×Int,AV.pv (Zm (fun(x:Lin×Lin×Unit)=>Zi x.1 x.2.1 (-1:Int)) [(.agg [(.int .i64 l.k),(.sl 2 false (List.map enc l.t))]),(.agg [(.int .i64 b.k),(.sl 2 false (List.map enc b.t))])])=AV.pv (enc e)∧(Pg [(.ptr 0 0),(.pv (.agg [(.int .i64 e.1.k),(.sl 2 false (List.map enc e.1.t))])),(.pv (.int .i64 e.2))] [(ZJ C)] fun q z=>(At HZ 1 (Zz 1 QD G) QV 0 57 [(0,(.ptr 0 0)),(2,(.ptr 1 0)),(4,(.ptr 2 0))] [(.obj (ZJ z)),(.obj (.box [(.pv (.int .i64 0)),(.pv (.sl 0 true []))])),(.obj (.box [(.pv (.int .i64 q.k)),(.pv (.sl 2 false (List.map enc q.t)))]))]))))else(if (PS.big a)=true then G (((.pv (.agg [(.int .i64 l.k),(.sl 2 false (List.map enc l.t))])),([(.box [(.pv (.sl 4 false (List.map enc (PS.l a)))),(.pv (.int .i64 (↑(PS.i a):Int))),(.pv (.int .i64 (PS.sz a))),(.pv (.bool (PS.bad a))),(.pv (.int .i64 (PS.wr a))),(.pv (.bool true))])],[])))else((Go.Pl.preT (fun(x:Lin×Unit)=>Zp x.1) [(.agg [(.int .i64 l.k),(.sl 2 false (List.map enc l.t))])])=true∧(∃ r:Bool,AV.pv (Zm (fun(x:Lin×Unit)=>Zd x.1) [(.agg [(.int .i64 l.k),(.sl 2 false (List.map enc l.t))])])=AV.pv (enc r)∧(G (((.pv (.agg [(.int .i64 l.k),(.sl 2 false (List.map enc l.t))])),([(.box [(.pv (.sl 4 false (List.map enc (PS.l a)))),(.pv (.int .i64 (↑(PS.i a):Int))),(.pv (.int .i64 (PS.sz a))),(.pv (.bool (PS.bad a))),(.pv (.int .i64 (PS.wr a))),(.pv (.bool !r))])],[]))))))))))else(G (((.pv (.agg [(.int .i64 l.k),(.sl 2 false (List.map enc l.t))])),([(ZJ s)],[]))))):At HZ 1 (Zz 1 QD G) QV 0 57 [(0,.ptr 0 0),(2,.ptr 1 0),(4,.ptr 2 0)] [.obj (ZJ s),.obj (.box [.pv (.int .i64 0),.pv (.sl 0 true [])]),.obj (.box [.pv (enc l.k),.pv (enc l.t)])]:=At.tf (dm [dv Bool,dO PS,dv Lin,dv (Lin×Int)] 52 0x22512022200440671816710094651067181671009465102e4) h
theorem XC(l:Lin):Zk l (.agg [.int .i64 l.k,.sl 2 false (l.t.map enc)]):=ZX (x:=l) rfl
theorem d1b: ∀ (s:PS) (a:Int×Unit),ZV s=true->Zb b5t 1 (Zz 1 OW (Z9 [] [] (a9j s a).1 (a9j s a).2)) a2f [] (Ya d8i (ZH a) ([]++[ZJ s])):=by
 rintro s ⟨m,⟨⟩⟩ hs
 have b:=Vy hs
 show Zb b5t 1 (Zz 1 OW (Z9 [] [] (s.num m).1 (s.num m).2)) a2f [] _
 unfold PS.num
 refine e3d s m (KZ hs ⟨Zf ((s.peek 0).t,()) rfl (decide_eq_true (by have:=FI hs 0;show(s.peek 0).t.s.length<=_;omega)),Zc ((s.peek 0).t,()) rfl (Nl (fun h=>Bp hs ?_) fun h=>YN (fun h2=>Bp hs ?_) fun h2=>Y4 (fun h3=>Bp hs ?_) fun h3=> ?_)⟩)
 ·rw[if_neg (fun k=>h k.1)];exact ZA (Wq rfl)
 ·have h2:(Yx (s.peek 0).t).2=false:=h2
  rw[if_neg (fun k=>by rw[h2]at k;cases k.2.1)];exact ZA (Wq rfl)
 ·have h3:(Yx (s.peek 0).t).1>m:=h3
  rw[if_neg (fun k=>by omega)];exact ZA (Wq rfl)
 ·have h2:(Yx (s.peek 0).t).2=true:=h2
  have h3 : ¬ (Yx (s.peek 0).t).1>m:=h3
  rw[if_pos ⟨h,h2,by omega⟩]
  exact Xr (Wq rfl) (PX (Xd (by omega)) b.1)
theorem e1v{s:PS}{m:Int}{K:Int->PS->Prop}(hs:ZV s=true)(h:K (s.num m).1 (s.num m).2):UF ZH Xb [] [] (fun(s:PS) (_:Int×Unit)=>ZV s) a9j [.ptr 0 0,.pv (.int .i64 m)] [ZJ s] K:=Xt ZQ s (m,()) rfl rfl hs h
theorem c4u: ∀ (s:PS) (a:Lin×Int×Unit),ZV s=true->Zb b9w 1 (Zz 1 ET (Z9 [] [] (Aa s a).1 (Aa s a).2)) ED [] (Ya d7u (ZH a) ([]++[ZJ s])):=by
 rintro s ⟨l,e,⟨⟩⟩ hs
 show Zb b9w 1 (Zz 1 ET (Z9 [] [] l (s.wide (decide (e≠0))))) ED [] _
 have b:(e != 0)=decide (e≠0):=by rw[Bool.eq_iff_iff];simp
 refine e1c s l e (ZW (fun h=>Xr (XC l) ?_) fun h=>Xr (XC l) ?_)
 ·show _=[_,_,_,_,_,AV.pv (.bool (s.big||decide (e≠0)))]
  rw[h];rfl
 ·show _=[_,_,_,_,_,AV.pv (.bool (s.big||decide (e≠0)))]
  rw[h,b];rfl
theorem P6{s:PS}{l:Lin}{e:Int}{K:Lin->PS->Prop}(hs:ZV s=true)(h:K l (s.wide (decide (e≠0)))):UF ZH Xb [] [] (fun(s:PS) (_:Lin×Int×Unit)=>ZV s) Aa [.ptr 0 0,.pv (.agg [.int .i64 l.k,.sl 2 false (l.t.map enc)]),.pv (.int .i64 e)] [ZJ s] K:=Xt ZQ s (l,e,()) rfl rfl hs h
theorem c5h: ∀ (s:PS) (a:Unit),ZV s=true->Zb b6a 1 (Zz 1 EW (Z9 [] [] (TI s a).1 (TI s a).2)) EH [] (Ya d4n (ZH a) ([]++[ZJ s])):=by
 rintro s ⟨⟩ hs
 have e:=Vy hs
 show Zb b6a 1 (Zz 1 EW (Z9 [] [] s.item.1 s.item.2)) EH [] _
 unfold PS.item
 have k1:=Ge.num (m:=2147483648) e.2
 have b:=k1.ok hs
 refine e4f s (KZ hs (Z7 (fun h=>c3a hs ?_) fun h=>e1v hs (KZ b ?_)))
 ·rw[if_pos h]
  exact Zc (s.name.1,()) rfl (ZA (XC _))
 rw[if_neg h]
 refine Z7 (fun h2=>YN (fun h3=>c3a b ?_) fun h3=> ?_) fun h2=> ?_
 ·rw[if_pos ⟨h2,h3⟩]
  have g:=Ge.name k1.hi
  refine Zc ((s.num 2147483648).2.name.1,()) rfl ⟨Zf (Ui (s.num 2147483648).2.name.1,(s.num 2147483648).1,()) rfl (CE (Ro b)),Zc (Ui (s.num 2147483648).2.name.1,(s.num 2147483648).1,()) rfl (P6 (g.ok b) ?_)⟩
  exact ZA (XC _)
 ·rw[if_neg (fun k=>by rw[k.2]at h3;cases h3)]
  exact Zc ((s.num 2147483648).1,()) rfl (ZA (XC ⟨(s.num 2147483648).1,[]⟩))
 ·rw[if_neg (fun k=>h2 k.1)]
  exact Zc ((s.num 2147483648).1,()) rfl (ZA (XC ⟨(s.num 2147483648).1,[]⟩))
theorem Ph{s:PS}{K:Lin->PS->Prop}(hs:ZV s=true)(h:K s.item.1 s.item.2):UF ZH Xb [] [] (fun(s:PS) (_:Unit)=>ZV s) TI [.ptr 0 0] [ZJ s] K:=Xt ZQ s () rfl rfl hs h
theorem CQ{a b:Lin}(ha:Zp a=true)(hb:Zp b=true):(Zp a&&Zp b)=true:=by rw[ha,hb];rfl
theorem Ls(R:Lin×PS): ∀ (n:Nat) (s:PS) (l:Lin),ZV s=true->s.l.length<s.i+n->Zp l=true->R=linLoop n s l ->
  At HZ 1 (Zz 1 QD (Z9 [] [] R.1 R.2)) QV 0 57 [(0,.ptr 0 0),(2,.ptr 1 0),(4,.ptr 2 0)] [.obj (ZJ s),.obj (.box [.pv (.int .i64 0),.pv (.sl 0 true [])]),.obj (.box [.pv (enc l.k),.pv (enc l.t)])]:=by
 intro n
 induction n with
 | zero=>intro s l hs hi;have:=Vy hs;omega
 | succ n ih=>
  intro s l hs hi q g
  have hl:=Vy hs
  rw[linLoop]at g
  refine d9l s l (YN (fun hb=>OM hs (fun h=> ?_) fun h=>Y1 (by simp) (OM hs (fun h2=> ?_) fun h2=> ?_)) fun hb=> ?_)
  ·rw[if_neg (by rw[hb];simp),if_pos h]at g
   have k1:=Ge.step (Z4 h)
   have a:=k1.ok hs
   have j:=Ge.item k1.hi
   have e:=j.ok a
   have hm:=HV a
   refine YP rfl (Ph a ⟨Zf (l,s.step.item.1,()) rfl (CQ q hm),Zc (l,s.step.item.1,()) rfl (P6 e ?_)⟩)
   have k3:=Ge.wide (b:=decide ((Zi l s.step.item.1 1).2≠0)) j.hi
   refine ih _ _ (k3.ok e) ?_ (YC _ _ _) g
   have z:=j.le
   have y:s.step.i=s.i+1:=rfl
   have r:(s.step.item.2.wide (decide ((Zi l s.step.item.1 1).2≠0))).i=s.step.item.2.i:=rfl
   rw[r,k3.l,j.l,k1.l]
   omega
  ·rw[if_neg (by rw[hb];simp),if_neg (by rw[h];simp),if_pos h2]at g
   have k1:=Ge.step (Z4 h2)
   have a:=k1.ok hs
   have j:=Ge.item k1.hi
   have e:=j.ok a
   have hm:=HV a
   refine YP rfl (Ph a ⟨Zf (l,s.step.item.1,()) rfl (CQ q hm),Zc (l,s.step.item.1,()) rfl (P6 e ?_)⟩)
   have k3:=Ge.wide (b:=decide ((Zi l s.step.item.1 (-1)).2≠0)) j.hi
   refine ih _ _ (k3.ok e) ?_ (YC _ _ _) g
   have z:=j.le
   have y:s.step.i=s.i+1:=rfl
   have r:(s.step.item.2.wide (decide ((Zi l s.step.item.1 (-1)).2≠0))).i=s.step.item.2.i:=rfl
   rw[r,k3.l,j.l,k1.l]
   omega
  ·rw[if_neg (by rw[hb];simp),if_neg (by rw[h];simp),if_neg (by rw[h2];simp)]at g
   rw[g]
   refine Y1 (by simp) (ZW (fun u=>Xr (XC l) ?_) fun u=>⟨Zf (l,()) rfl q,Zc (l,()) rfl (Xr (XC l) ?_)⟩)
   ·show _=[_,_,_,_,_,AV.pv (.bool (s.big || !Zd l))]
    rw[u];rfl
   ·show _=[_,_,_,_,_,AV.pv (.bool (s.big || !Zd l))]
    rw[u];rfl
  ·rw[if_pos hb]at g
   rw[g]
   exact ZA (XC l)
theorem d0b: ∀ (s:PS) (a:Unit),ZV s=true->Zb HZ 1 (Zz 1 QD (Z9 [] [] (a6u s a).1 (a6u s a).2)) QV [] (Ya d8o (ZH a) ([]++[ZJ s])):=by
 rintro s ⟨⟩ hs
 have k:=Vy hs
 show Zb HZ 1 (Zz 1 QD (Z9 [] [] s.linear.1 s.linear.2)) QV [] _
 unfold PS.linear PS.lin0
 refine e0s s (OM hs (fun h=> ?_) fun h=> ?_)
 ·rw[if_pos h]
  have k1:=Ge.step (Z4 h)
  have g:=k1.ok hs
  have j:=Ge.item k1.hi
  have e:=j.ok g
  have hm:=HV g
  have k3:=Ge.wide (b:=decide ((YL s.step.item.1 (-1)).2≠0)) j.hi
  refine Ph g (YP rfl ⟨Zf (s.step.item.1,-1,()) rfl hm,Zc (s.step.item.1,-1,()) rfl (P6 e ?_)⟩)
  refine Ls _ (s.l.length+1) _ (YL s.step.item.1 (-1)).1 (k3.ok e) ?_ (YC _ _ _) rfl
  rw[k3.l,j.l,k1.l]
  omega
 ·rw[if_neg (by rw[h];simp)]
  have j:=Ge.item k.2
  have e:=j.ok hs
  refine Ph hs (Y1 (by simp) ?_)
  refine Ls _ (s.l.length+1) _ s.item.1 e ?_ (HV hs) rfl
  rw[j.l]
  omega
theorem e2l{s:PS}{K:Lin->PS->Prop}(hs:ZV s=true)(h:K s.linear.1 s.linear.2):UF ZH Xb [] [] (fun(s:PS) (_:Unit)=>ZV s) a6u [.ptr 0 0] [ZJ s] K:=Xt ZQ s () rfl rfl hs h
theorem e4d{α:Type}[Enc α](o:List α)(x:α):List.map (enc:α->PV) o++List.drop 0 (List.take 1 [enc x])=(o++[x]).map enc:=by rw[List.map_append];rfl
theorem e2q{α:Type}[Enc α](o:List α){L:Nat}(h:L=o.length):List.drop 0 (List.take L (List.map (enc:α->PV) o))=o.map enc:=by rw[List.drop_zero,List.take_of_length_le (by simp[h])]
structure TS where
 n:Nd
 k:List Tm
instance:Enc TS where
 sz:=10
 enc x:=.agg [enc x.n.kind,enc x.n.line,enc x.n.name,enc x.n.num,enc x.n.elem,enc x.n.dims,enc x.n.data,enc x.n.sizes,enc x.n.ranks,enc x.k]
 dec | .agg [a,b,c,d,e,f,g,h,i,k]=>⟨⟨dec a,dec b,dec c,dec d,dec e,dec f,dec g,dec h,dec i⟩,dec k⟩|_=>⟨nd0,[]⟩
 is | .agg [a,b,c,d,e,f,g,h,i,k]=>is Int a&&is Int b&&is Str c&&is Int d&&is Str e&&is (List Int) f&&is (List Int) g&&is (List Lin) h&&is (List Int) i&&is (List Tm) k|_=>false
 is_enc v:=by simp
 dec_enc v:=by simp
 sub p h:=by
  cases p with
  | agg xs=>
   match xs,h with
   | [a,b,c,d,e,f,g,h',i,k],h=>
    simp only[Bool.and_eq_true]at h
    obtain⟨⟨⟨⟨⟨⟨⟨⟨⟨h1,h2⟩,h3⟩,h4⟩,h5⟩,h6⟩,h7⟩,h8⟩,h9⟩,h10⟩:=h
    exact .agg (.cons (Enc.sub a h1).2 (.cons (Enc.sub b h2).2 (.cons (Enc.sub c h3).2 (.cons (Enc.sub d h4).2 (.cons (Enc.sub e h5).2 (.cons (Enc.sub f h6).2 (.cons (Enc.sub g h7).2 (.cons (Enc.sub h' h8).2 (.cons (Enc.sub i h9).2 (.cons (Enc.sub k h10).2 .nil))))))))))
  | _=>cases h
def ndK(k ln:Int):Nd:={nd0 with kind:=k,line:=ln}
def Sj(k ln:Int)(s:Str):Nd:={nd0 with kind:=k,line:=ln,name:=s}
def numsP:Nat->PS->List Int->List Int×PS
 | 0,s,o=>(o,s)
 | n+1,s,o=>if (s.peek 0).k=3 then numsP n (s.num 2147483648).2 (o++[(s.num 2147483648).1])else(o,s)
def PS.sgn(s:PS):Int:=if s.next ⟨[45]⟩then -1 else 1
def PS.sgs(s:PS):PS:=if s.next ⟨[45]⟩then s.step else s
def datP:Nat->PS->List Int->List Int×PS
 | 0,s,o=>(o,s)
 | n+1,s,o=>if s.bad then(o,s)else if s.next ⟨[93]⟩then(o,s)else datP n (s.sgs.num 2147483648).2 (o++[IntKind.i64.wrap (s.sgn*(s.sgs.num 2147483648).1)])
def PS.arB(s:PS):Bool:=decide ((s.peek 0).k=1)&&decide ((s.peek 0).t=⟨[98]⟩)
def PS.ar1(s:PS):PS:=(if s.arB then s.step else s).need ⟨[91]⟩
def PS.ar2(s:PS):List Int×PS:=numsP (s.l.length+1) s.ar1 []
def PS.ar3(s:PS):List Int×PS:=datP (s.l.length+1) (s.ar2.2.need ⟨[58]⟩) []
def PS.arr(s:PS):Arr×PS:=(⟨⟨if s.arB then WL else U7⟩,s.ar2.1,s.ar3.1⟩,s.ar3.2.need ⟨[93]⟩)
def PS.sizesN(s:PS):List Lin×PS:=if s.next ⟨[91]⟩then((listL PS.linear s.step).1,(listL PS.linear s.step).2.need ⟨[93]⟩)else([],s)
def PS.frameN(s:PS):Int×PS:=if s.next ⟨[123]⟩then((s.step.num 2147483648).1,(s.step.num 2147483648).2.need ⟨[125]⟩)else(0,s)
def PS.numM(s:PS):Int×PS:=s.num 2147483648
def PS.ranksN(s:PS):List Int×PS:=if s.next ⟨[64]⟩then((listL PS.numM (s.step.need ⟨[40]⟩)).1,(listL PS.numM (s.step.need ⟨[40]⟩)).2.need ⟨[41]⟩)else([],s)
def a6j(ex:PS->Tm×PS)(s:PS):List Tm×PS:=
 if (s.need ⟨[40]⟩).bad then([],(s.need ⟨[40]⟩).need ⟨[41]⟩)
 else if (s.need ⟨[40]⟩).next ⟨[41]⟩then([],(s.need ⟨[40]⟩).need ⟨[41]⟩)
 else((listL ex (s.need ⟨[40]⟩)).1,(listL ex (s.need ⟨[40]⟩)).2.need ⟨[41]⟩)
def PS.plain(s:PS)(n:Str):Bool:= !(fullI n.s)&&(!(s.next ⟨[91]⟩)&&(!(s.next ⟨[123]⟩)&&(!(s.next ⟨[64]⟩)&& !(s.next ⟨[40]⟩))))
def b3i(ex:PS->Tm×PS)(ln:Int)(n:Str)(s:PS):Tm×PS:=
 (.mk {nd0 with kind:=6,line:=ln,name:=n,num:=s.sizesN.2.frameN.1,sizes:=s.sizesN.1,ranks:=s.sizesN.2.frameN.2.ranksN.1} (a6j ex s.sizesN.2.frameN.2.ranksN.2).1,(a6j ex s.sizesN.2.frameN.2.ranksN.2).2)
def Ol(ex:PS->Tm×PS)(s:PS):Tm×PS:=if s.func.2.plain s.func.1 then(.mk (Sj 1 (s.peek 0).ln s.func.1) [],s.func.2)else b3i ex (s.peek 0).ln s.func.1 s.func.2
def d2q(ex:PS->Tm×PS)(ln:Int)(s:PS):Tm×PS:=
 let a:=(s.need ⟨[40]⟩).func
 let b:=ex (a.2.need ⟨[44]⟩)
 let c:=ex (b.2.need ⟨[44]⟩)
 (.mk (Sj 8 ln a.1) [b.1,c.1],c.2.need ⟨[41]⟩)
def d1l(ex:PS->Tm×PS)(ln:Int)(s:PS):Tm×PS:=
 let a:=(s.need ⟨[40]⟩).func
 let b:=ex (a.2.need ⟨[44]⟩)
 (.mk (Sj 9 ln a.1) [b.1],b.2.need ⟨[41]⟩)
def b5q(ln:Int)(s:PS):Tm×PS:=(.mk {ndK 4 ln with sizes:=[(s.need ⟨[91]⟩).linear.1]} [],(s.need ⟨[91]⟩).linear.2.need ⟨[93]⟩)
def a2v(ex:PS->Tm×PS)(s:PS):Tm×PS:=
 let ln:=(s.peek 0).ln
 if (s.peek 0).k=3 then(.mk {Sj 2 ln ⟨U7⟩with num:=(s.num 2147483647).1} [],(s.num 2147483647).2)
 else if (s.peek 0).k=1 then Ol ex s
 else if s.next ⟨[116,114,117,101]⟩then(.mk {Sj 2 ln ⟨WL⟩with num:=1} [],s.step)
 else if s.next ⟨[102,97,108,115,101]⟩then(.mk (Sj 2 ln ⟨WL⟩) [],s.step)
 else if s.next ⟨[40]⟩then((ex s.step).1,(ex s.step).2.need ⟨[41]⟩)
 else if s.next ⟨[91]⟩then(.mk (ndK 7 ln) (listL ex s.step).1,(listL ex s.step).2.need ⟨[93]⟩)
 else if s.next ⟨[102,111,108,100]⟩then d2q ex ln s.step
 else if s.next ⟨[115,99,97,110]⟩then d1l ex ln s.step
 else if s.next ⟨[115,105,122,101]⟩then b5q ln s.step
 else if s.next ⟨[35]⟩then(.mk {ndK 3 ln with elem:=s.step.arr.1.e,dims:=s.step.arr.1.d,data:=s.step.arr.1.x} [],s.step.arr.2)
 else(.mk (ndK 0 ln) [],s.fail)
def c0u(ex:PS->Tm×PS)(un:PS->(Tm×Int)×PS)(s:PS):(Tm×Int)×PS:=
 let ln:=(s.peek 0).ln
 if s.next ⟨[45]⟩&&decide ((s.peek 1).k=3)then((.mk {Sj 2 ln ⟨U7⟩with num:=IntKind.i64.wrap (-(s.step.num 2147483648).1)} [],ln),(s.step.num 2147483648).2)
 else if s.next ⟨[45]⟩||s.next ⟨[33]⟩then((.mk (Sj 6 ln (MV (s.peek 0).t true).a) [(un s.step).1.1],ln),(un s.step).2)
 else(((a2v ex s).1,ln),(a2v ex s).2)
def opLoop(fr:PS->(Tm×Int)×PS)(lev ln:Int):Nat->PS->Tm->(Tm×Int)×PS
 | 0,s,l=>((l,ln),s)
 | n+1,s,l=>
  if s.bad then((l,ln),s)
  else if s.oper.1.2≠lev then((l,ln),s)
  else if lev=3 then((.mk (Sj 6 ln s.oper.1.1) [l,(fr s.step).1.1],ln),(fr s.step).2)
  else opLoop fr lev ln n (fr s.step).2 (.mk (Sj 6 ln s.oper.1.1) [l,(fr s.step).1.1])
def D8(un:PS->(Tm×Int)×PS):Nat->PS->(Tm×Int)×PS
 | 0,s=>un s
 | d+1,s=>opLoop (D8 un d) (5 - (d:Int)) (D8 un d s).1.2 (s.l.length+1) (D8 un d s).2 (D8 un d s).1.1
def exB(ex:PS->Tm×PS)(un:PS->(Tm×Int)×PS)(s:PS):Tm×PS:=
 if s.next ⟨[108,101,116]⟩then
  let ln:=(s.peek 0).ln
  let a:=s.step.name
  let b:=ex (a.2.need ⟨[61]⟩)
  let c:=ex (b.2.need ⟨[105,110]⟩)
  (.mk (Sj 5 ln a.1) [b.1,c.1],c.2)
 else((D8 un 5 s).1.1,(D8 un 5 s).2)
def EI:Nat->(PS->Tm×PS)×(PS->(Tm×Int)×PS)
 | 0=>(fun s=>(.mk nd0 [],s),fun s=>((.mk nd0 [],0),s))
 | N+1=>(exB (EI N).1 (c0u (EI N).1 (EI N).2),c0u (EI N).1 (EI N).2)
def a3y(N:Nat):PS->Tm×PS:=(EI N).1
def unP(N:Nat):PS->(Tm×Int)×PS:=(EI N).2
theorem OQ(N:Nat)(s:PS):a3y (N+1) s=exB (a3y N) (unP (N+1)) s:=rfl
theorem c3y(N:Nat)(s:PS):unP (N+1) s=c0u (a3y N) (unP N) s:=rfl
end Go.Pl
namespace Go.Pl
open Go.RowKit
section
def BQ(N:Nat)(s:PS):Prop:=s.l.length - s.i<N
theorem BQ.ge{N:Nat}{s t:PS}(h:BQ N s)(k:Ge s t):BQ N t:=by
 unfold BQ at *
 have:=k.le
 rw[k.l]
 omega
theorem BQ.step{N:Nat}{s:PS}(h:BQ (N+1) s)(hi:s.i<s.l.length):BQ N s.step:=by
 unfold BQ at *
 show s.l.length - (s.i+1)<N
 omega
def GeX(N:Nat)(ex:PS->Tm×PS):Prop:= ∀ t,BQ N t->t.i<=t.l.length->Ge t (ex t).2
def GeU(N:Nat)(un:PS->(Tm×Int)×PS):Prop:= ∀ t,BQ N t->t.i<=t.l.length->Ge t (un t).2
theorem Ge.numsP: ∀ (n:Nat) {s:PS} {o:List Int},s.i<=s.l.length->Ge s (numsP n s o).2
 | 0,s,o,h=>Ge.refl h
 | n+1,s,o,h=>by
  rw[Go.Pl.numsP]
  split
  ·have h1:=Ge.num (m:=2147483648) h
   exact h1.trans (Ge.numsP n h1.hi)
  ·exact Ge.refl h
theorem Ge.sgs{s:PS}(h:s.i<=s.l.length):Ge s s.sgs:=by
 unfold PS.sgs
 split
 ·exact Ge.step (Z4 ‹_›)
 ·exact Ge.refl h
theorem Ge.datP: ∀ (n:Nat) {s:PS} {o:List Int},s.i<=s.l.length->Ge s (datP n s o).2
 | 0,s,o,h=>Ge.refl h
 | n+1,s,o,h=>by
  rw[Go.Pl.datP]
  split
  ·exact Ge.refl h
  ·split
   ·exact Ge.refl h
   ·have h1:=Ge.sgs h
    have h2:=Ge.num (m:=2147483648) h1.hi
    exact h1.trans (h2.trans (Ge.datP n h2.hi))
theorem d4z{s:PS}(h:s.arB=true):s.i<s.l.length:=by
 unfold PS.arB at h
 simp only[Bool.and_eq_true,decide_eq_true_eq]at h
 exact Xd (by omega)
theorem Ge.ar0{s:PS}(h:s.i<=s.l.length):Ge s (if s.arB=true then s.step else s):=by
 split
 ·exact Ge.step (d4z ‹_›)
 ·exact Ge.refl h
theorem Ge.ar1{s:PS}(h:s.i<=s.l.length):Ge s s.ar1:=(Ge.ar0 h).trans (Ge.need (Ge.ar0 h).hi)
theorem Ge.ar2{s:PS}(h:s.i<=s.l.length):Ge s s.ar2.2:=(Ge.ar1 h).trans (Ge.numsP _ (Ge.ar1 h).hi)
theorem Ge.ar3{s:PS}(h:s.i<=s.l.length):Ge s s.ar3.2:=by
 have h1:=Ge.ar2 h
 have h2:=Ge.need (w:=⟨[58]⟩) h1.hi
 exact h1.trans (h2.trans (Ge.datP _ h2.hi))
theorem Ge.arr{s:PS}(h:s.i<=s.l.length):Ge s s.arr.2:=(Ge.ar3 h).trans (Ge.need (Ge.ar3 h).hi)
theorem Ge.sizesN{s:PS}(h:s.i<=s.l.length):Ge s s.sizesN.2:=by
 unfold PS.sizesN
 split
 ·have h1:=Ge.step (Z4 ‹_›)
  have h2:=Ge.list (one:=PS.linear) (fun s h=>Ge.linear h) h1.hi
  exact h1.trans (h2.trans (Ge.need h2.hi))
 ·exact Ge.refl h
theorem Ge.frameN{s:PS}(h:s.i<=s.l.length):Ge s s.frameN.2:=by
 unfold PS.frameN
 split
 ·have h1:=Ge.step (Z4 ‹_›)
  have h2:=Ge.num (m:=2147483648) h1.hi
  exact h1.trans (h2.trans (Ge.need h2.hi))
 ·exact Ge.refl h
theorem Ge.ranksN{s:PS}(h:s.i<=s.l.length):Ge s s.ranksN.2:=by
 unfold PS.ranksN
 split
 ·have h1:=Ge.step (Z4 ‹_›)
  have h2:=Ge.need (w:=⟨[40]⟩) h1.hi
  have h3:=Ge.list (one:=PS.numM) (fun s h=>Ge.num h) h2.hi
  exact h1.trans (h2.trans (h3.trans (Ge.need h3.hi)))
 ·exact Ge.refl h
section
variable {N:Nat} {ex:PS->Tm×PS}
theorem Ge.kids(a:GeX N ex){s:PS}(b:BQ N s)(h:s.i<=s.l.length):Ge s (a6j ex s).2:=by
 have h1:=Ge.need (w:=⟨[40]⟩) h
 unfold a6j
 split
 ·exact h1.trans (Ge.need h1.hi)
 ·split
  ·exact h1.trans (Ge.need h1.hi)
  ·have h2:=Ge.listL (B:=BQ N) (fun s t h k=>h.ge k) (fun s h k=>a s h k) (b.ge h1) h1.hi
   exact h1.trans (h2.trans (Ge.need h2.hi))
theorem Ge.callB(a:GeX N ex){ln:Int}{n:Str}{s:PS}(b:BQ N s)(h:s.i<=s.l.length):Ge s (b3i ex ln n s).2:=by
 have h1:=Ge.sizesN h
 have h2:=Ge.frameN h1.hi
 have h3:=Ge.ranksN h2.hi
 have k3:=h1.trans (h2.trans h3)
 exact k3.trans (Ge.kids a (b.ge k3) h3.hi)
theorem d1f{s:PS}(h:(s.peek 0).k=1):s.name=((s.peek 0).t,s.step):=if_pos h
theorem Ge.func1{s:PS}(h:(s.peek 0).k=1):Ge s.step s.func.2:=by
 have h1:s.step.i<=s.step.l.length:=(Ge.step (Xd (s:=s) (by omega))).hi
 unfold PS.func
 rw[d1f h]
 split
 ·have h2:=Ge.step (Z4 ‹_›)
  exact h2.trans (Ge.name h2.hi)
 ·exact Ge.refl h1
theorem Ge.named(e:GeX N ex){s:PS}(b:BQ (N+1) s)(h:(s.peek 0).k=1):Ge s (Ol ex s).2:=by
 have hi:=Xd (s:=s) (by omega)
 have a:=Ge.step hi
 have h1:=Ge.func1 h
 unfold Ol
 split
 ·exact a.trans h1
 ·exact a.trans (h1.trans (Ge.callB e ((b.step hi).ge h1) h1.hi))
theorem Ge.fold(g:GeX N ex){ln:Int}{s:PS}(j:BQ N s)(h:s.i<=s.l.length):Ge s (d2q ex ln s).2:=by
 have h1:=Ge.need (w:=⟨[40]⟩) h
 have h2:=Ge.func h1.hi
 have h3:=Ge.need (w:=⟨[44]⟩) h2.hi
 have k3:=h1.trans (h2.trans h3)
 have b:=g _ (j.ge k3) h3.hi
 have k:=Ge.need (w:=⟨[44]⟩) b.hi
 have a:=k3.trans (b.trans k)
 have e:=g _ (j.ge a) k.hi
 exact a.trans (e.trans (Ge.need e.hi))
theorem Ge.scan(b:GeX N ex){ln:Int}{s:PS}(e:BQ N s)(h:s.i<=s.l.length):Ge s (d1l ex ln s).2:=by
 have h1:=Ge.need (w:=⟨[40]⟩) h
 have h2:=Ge.func h1.hi
 have h3:=Ge.need (w:=⟨[44]⟩) h2.hi
 have k3:=h1.trans (h2.trans h3)
 have a:=b _ (e.ge k3) h3.hi
 exact k3.trans (a.trans (Ge.need a.hi))
theorem Ge.size0{ln:Int}{s:PS}(h:s.i<=s.l.length):Ge s (b5q ln s).2:=by
 have h1:=Ge.need (w:=⟨[91]⟩) h
 have h2:=Ge.linear h1.hi
 exact h1.trans (h2.trans (Ge.need h2.hi))
theorem Ge.prim(a:GeX N ex){s:PS}(b:BQ (N+1) s)(h:s.i<=s.l.length):Ge s (a2v ex s).2:=by
 unfold a2v
 dsimp only
 split
 ·exact Ge.num h
 ·split
  ·exact Ge.named a b ‹_›
  ·split
   ·exact Ge.step (Z4 ‹_›)
   ·split
    ·exact Ge.step (Z4 ‹_›)
    ·split
     ·have hi:=Z4 ‹_›
      have h1:=Ge.step hi
      have h2:=a _ (b.step hi) h1.hi
      exact h1.trans (h2.trans (Ge.need h2.hi))
     ·split
      ·have hi:=Z4 ‹_›
       have h1:=Ge.step hi
       have h2:=Ge.listL (B:=BQ N) (fun s t h k=>h.ge k) (fun s h k=>a s h k) (b.step hi) h1.hi
       exact h1.trans (h2.trans (Ge.need h2.hi))
      ·split
       ·have hi:=Z4 ‹_›
        have h1:=Ge.step hi
        exact h1.trans (Ge.fold a (b.step hi) h1.hi)
       ·split
        ·have hi:=Z4 ‹_›
         have h1:=Ge.step hi
         exact h1.trans (Ge.scan a (b.step hi) h1.hi)
        ·split
         ·have h1:=Ge.step (Z4 ‹_›)
          exact h1.trans (Ge.size0 h1.hi)
         ·split
          ·have h1:=Ge.step (Z4 ‹_›)
           exact h1.trans (Ge.arr h1.hi)
          ·exact Ge.fail h
theorem Ge.una(b:GeX N ex){un:PS->(Tm×Int)×PS}(hu:GeU N un){s:PS}(a:BQ (N+1) s)(h:s.i<=s.l.length):Ge s (c0u ex un s).2:=by
 unfold c0u
 dsimp only
 split
 ·have hb:= ‹(s.next ⟨[45]⟩&&decide ((s.peek 1).k=3))=true›
  simp only[Bool.and_eq_true]at hb
  have h1:=Ge.step (Z4 hb.1)
  exact h1.trans (Ge.num h1.hi)
 ·split
  ·have hb:= ‹(s.next ⟨[45]⟩||s.next ⟨[33]⟩)=true›
   have hi:s.i<s.l.length:=by
    simp only[Bool.or_eq_true]at hb
    rcases hb with hb|hb
    ·exact Z4 hb
    ·exact Z4 hb
   have h1:=Ge.step hi
   exact h1.trans (hu _ (a.step hi) h1.hi)
  ·exact Ge.prim b a h
theorem d0t{s:PS}(h:s.oper.1.2≠0):s.i<s.l.length:=by
 refine Xd fun e=>h ?_
 unfold PS.oper
 rw[if_neg (by omega)]
theorem Ge.opLoop{fr:PS->(Tm×Int)×PS}{lev ln:Int}(b:lev≠0)(hu:GeU (N+1) fr): ∀ (n:Nat) {s:PS} {l:Tm},BQ (N+1) s->s.i<=s.l.length->Ge s (opLoop fr lev ln n s l).2
 | 0,s,l,_,h=>Ge.refl h
 | n+1,s,l,hf,h=>by
  rw[Go.Pl.opLoop]
  split
  ·exact Ge.refl h
  ·split
   ·exact Ge.refl h
   ·have hi:=d0t (s:=s) (by omega)
    have h1:=Ge.step hi
    have a:=hf.ge h1
    have h2:=hu _ a h1.hi
    split
    ·exact h1.trans h2
    ·exact h1.trans (h2.trans (Ge.opLoop b hu n (a.ge h2) h2.hi))
theorem Ge.from{un:PS->(Tm×Int)×PS}(hu:GeU (N+1) un): ∀ d:Nat,d<=5->GeU (N+1) (D8 un d)
 | 0,_=>hu
 | d+1,hd=>fun s a h=>by
  have h1:=Ge.from hu d (by omega) s a h
  rw[D8]
  exact h1.trans (Ge.opLoop (by omega) (Ge.from hu d (by omega)) _ (a.ge h1) h1.hi)
theorem Ge.exp1(e:GeX N ex){un:PS->(Tm×Int)×PS}(hu:GeU (N+1) un){s:PS}(j:BQ (N+1) s)(h:s.i<=s.l.length):Ge s (exB ex un s).2:=by
 unfold exB
 dsimp only
 split
 ·have hi:=Z4 ‹_›
  have h1:=Ge.step hi
  have g:=j.step hi
  have h2:=Ge.name h1.hi
  have h3:=Ge.need (w:=⟨[61]⟩) h2.hi
  have k3:=h2.trans h3
  have b:=e _ (g.ge k3) h3.hi
  have k:=Ge.need (w:=⟨[105,110]⟩) b.hi
  have a:=k3.trans (b.trans k)
  exact h1.trans (a.trans (e _ (g.ge a) k.hi))
 ·exact Ge.from hu 5 (by omega) s j h
end
theorem d0e: ∀ N,GeX N (a3y N)∧GeU N (unP N)
 | 0=>⟨fun t a=>by unfold BQ at a;omega,fun t a=>by unfold BQ at a;omega⟩
 | N+1=>by
  obtain⟨e,hu⟩:=d0e N
  have b:GeU (N+1) (unP (N+1)):=fun t a h=>by rw[c3y];exact Ge.una e hu a h
  exact⟨fun t a h=>by rw[OQ];exact Ge.exp1 e b a h,b⟩
end
open Enc (enc dec is)
open EncL (encL decL isL)
structure P2 where
 a:List Int
 b:List Int
instance:Enc P2 where
 sz:=2
 enc x:=.agg [enc x.a,enc x.b]
 dec | .agg [a,b]=>⟨dec a,dec b⟩|_=>⟨[],[]⟩
 is | .agg [a,b]=>is (List Int) a&&is (List Int) b|_=>false
 is_enc v:=by simp
 dec_enc v:=by simp
 sub p h:=by
  cases p with
  | agg xs=>
   match xs,h with
   | [a,b],h=>
    simp only[Bool.and_eq_true]at h
    exact .agg (.cons (Enc.sub a h.1).2 (.cons (Enc.sub b h.2).2 .nil))
  | _=>cases h
theorem U9{α:Type}[Enc α]:Zk ([]:List α) (.sl 0 true []):=⟨rfl,rfl⟩
theorem d6u{α β:Type}[Enc α][Enc β]{a:α}{b:β}{p q:PV}(h:Zk a p)(k:Zk b q):Zk (a,b) (.tup [p,q]):=by
 refine⟨?_,?_⟩
 ·show(is α p&&is β q)=true
  rw[h.1,k.1];rfl
 ·show((dec p:α),(dec q:β))=(a,b)
  rw[h.2,k.2]
theorem e1u{α:Type}[Enc α](l:List α){sz:Nat}(h:Enc.sz α=sz):Zk l (.sl sz false (l.map enc)):=by subst h;exact ZX (x:=l) rfl
section
section
variable {s0 s:PS} {row:Str} {dims:List Lin} {r d:PV}
end
end
section
section
variable {ex:PS->Tm×PS} {s:PS}
variable (h1:(s.peek 0).k≠3) (h2:(s.peek 0).k≠1)
include h1 h2
variable (h3:s.next ⟨[116,114,117,101]⟩=false)
include h3
variable (h4:s.next ⟨[102,97,108,115,101]⟩=false)
include h4
variable (h5:s.next ⟨[40]⟩=false)
include h5
variable (h6:s.next ⟨[91]⟩=false)
include h6
variable (h7:s.next ⟨[102,111,108,100]⟩=false)
include h7
variable (h8:s.next ⟨[115,99,97,110]⟩=false)
include h8
variable (h9:s.next ⟨[115,105,122,101]⟩=false)
include h9
end
end
section
section
variable {ex:PS->Tm×PS} {un:PS->(Tm×Int)×PS} {s:PS}
end
end
def Zg:List (List UInt8):=[[46,46],[61,61],[33,61],[60,61],[62,61],[45,62],[38,38],[124,124],[40],[41],[91],[93],[123],[125],[44],[58],[46],[64],[35],[61],[60],[62],[43],[45],[42],[47],[37],[33]]
def Yv:PV:=.agg (Zg.map .str)
def Cx:List PV->Bool
 | []=>true
 | _=>false
def PP:List PV->PV:=fun _=>Yv
def ZF:Nat->List UInt8->Nat->Nat
 | 0,s,n=>n
 | f+1,s,n=>
  if s.length<=n then n
  else if s.getD n 0=32∨s.getD n 0=9∨s.getD n 0=10 then ZF f s (n+1)
  else if List.isPrefixOf [47,47] (s.drop n)then(if Lib.indexByte (s.drop n) 10<0 then s.length else ZF f s (n+(Lib.indexByte (s.drop n) 10).toNat))
  else n
def VZ(s:Str):Int:=(ZF (s.s.length+1) s.s 0:Nat)
def Zl:List (List UInt8)->List UInt8->Int×Str
 | [],_=>(0,⟨[]⟩)
 | x::l,s=>if x.isPrefixOf s then(4,⟨x⟩)else Zl l s
def ZB(s:Str):Int×Str:=match s.s with
 | []=>(0,⟨[]⟩)
 | c::_=>
  if lowB c then(if Wu.contains (Yr s true).s then(2,Yr s true)else if nameI (Yr s true).s then(1,Yr s true)else(0,⟨[]⟩))
  else if digB c then(if (Yx (Yr s false)).2 then(3,Yr s false)else(0,⟨[]⟩))
  else Zl Zg s.s
def Gn:Nat->List UInt8->Nat->Int->List Tok->R3 (List Tok) Int Int
 | 0,s,i,ln,o=>⟨o,0,0⟩
 | f+1,s,i,ln,o=>
  let k:=(VZ ⟨s.drop i⟩).toNat
  let a:=ln+Lib.countByte ((s.drop i).take k) 10
  if i+k=s.length then⟨o,0,0⟩
  else if (ZB ⟨s.drop (i+k)⟩).1=0 then⟨[],(i+k:Nat),6⟩
  else if o.length=4000 then⟨[],(i+k:Nat),3⟩
  else Gn f s (i+k+(ZB ⟨s.drop (i+k)⟩).2.s.length) a (o++[⟨(ZB ⟨s.drop (i+k)⟩).1,(ZB ⟨s.drop (i+k)⟩).2,a,(i+k:Nat)⟩])
def Wj(s:Str):R3 (List Tok) Int Int:=if 20000<s.s.length then⟨[],0,3⟩else Gn (s.s.length+1) s.s 0 1 []
theorem Yz{x:List UInt8}{l:List (List UInt8)}{s:List UInt8}(h:x.isPrefixOf s=true):Zl (x::l) s=(4,⟨x⟩):=if_pos h
theorem YB{x:List UInt8}{l:List (List UInt8)}{s:List UInt8}(h:x.isPrefixOf s=false):Zl (x::l) s=Zl l s:=if_neg (by rw[h];decide)
theorem Oc(c:UInt8): ∀ l:List UInt8,Lib.indexByte l c = -1∨(0<=Lib.indexByte l c∧Lib.indexByte l c<l.length)
 | []=>Or.inl (by rw[Lib.indexByte])
 | a::r=>by
  rw[Lib.indexByte]
  have h:=Oc c r
  split
  ·right;simp
  ·split
   ·exact Or.inl rfl
   ·rename_i h1 h2
    have h2:Lib.indexByte r c ≠ -1:=by simpa using h2
    right
    simp only[List.length_cons]
    omega
theorem b9f{c:UInt8}: ∀ {l:List UInt8},l.getD 0 0≠c->l≠[]->0<=Lib.indexByte l c->0<Lib.indexByte l c
 | [],_,h,_=>absurd rfl h
 | a::r,h1,_,h=>by
  have h1:a≠c:=h1
  rw[Lib.indexByte,if_neg (by simpa using h1)]at h ⊢
  have h3:=Oc c r
  split at h
  ·omega
  ·rename_i h2
   have h2':Lib.indexByte r c ≠ -1:=by simpa using h2
   rw[if_neg h2]
   omega
theorem Kj: ∀ (f:Nat) (s:List UInt8) (n:Nat),n<=s.length->n<=ZF f s n∧ZF f s n<=s.length
 | 0,s,n,h=>⟨Nat.le_refl _,h⟩
 | f+1,s,n,h=>by
  rw[ZF]
  split
  ·exact⟨Nat.le_refl _,h⟩
  ·split
   ·have:=Kj f s (n+1) (by omega)
    omega
   ·split
    ·split
     ·omega
     ·have h2:=Oc 10 (s.drop n)
      rw[List.length_drop]at h2
      have:=Kj f s (n+(Lib.indexByte (s.drop n) 10).toNat) (by omega)
      omega
    ·exact⟨Nat.le_refl _,h⟩
theorem BM(s:Str)(b:Bool):(Yr s b).s.length<=s.s.length:=(List.takeWhile_sublist _).length_le
theorem a6i: ∀ (l:List (List UInt8)) (s:List UInt8),(Zl l s).2.s.length<=s.length
 | [],s=>Nat.zero_le _
 | x::l,s=>by
  rw[Zl]
  split
  ·exact(List.isPrefixOf_iff_prefix.1 ‹_›).length_le
  ·exact a6i l s
theorem KO(s:Str):(ZB s).2.s.length<=s.s.length:=by
 unfold ZB
 split
 ·simp
 ·split
  ·split
   ·exact BM _ _
   ·split
    ·exact BM _ _
    ·simp
  ·split
   ·split
    ·exact BM _ _
    ·simp
   ·exact a6i _ _
set_option maxRecDepth 100000
noncomputable def Uq:IC:=XG Proofs.Tryz.f79
def Uy:List IRes:=[(.tmp 2)]
abbrev d9d:Nat:=46
noncomputable def KG:ZC:=YG [(108,.pure (preT (fun _:Str×Str×Unit=>true)) (Zm (fun x:Str×Str×Unit=>x.2.1.s.isPrefixOf x.1.s))),(117,.pure (preT (fun x:Str×UInt8×Unit=>decide (x.1.s.length<=1048576))) (Zm (fun x:Str×UInt8×Unit=>Lib.indexByte x.1.s x.2.1)))]
theorem e3w{G:PV->Prop}(s:List UInt8)(h:At KG 0 (Za Uy G) Uq 0 46 [(0,(.pv (.str s))),(3,(.pv (.int .i64 0)))] []):Zb KG 0 (Za Uy G) Uq [] (Yh 46 [.str s]):=Zb.tp (.nil) h
theorem d5e{G:PV->Prop}(s:List UInt8)(n:Nat)(h:if (decide ((↑n:Int)<(↑(List.length s):Int)))=true then(decide (0<=(↑n:Int))&&decide (Int.toNat (↑n:Int)<List.length s))=true∧(if ((↑(UInt8.toNat (List.getD s (Int.toNat (↑n:Int)) (0:UInt8))):Int)==32)=true then At KG 0 (Za Uy G) Uq 0 46 [(0,(.pv (.str s))),(3,(.pv (.int .i64 (IntKind.wrap IntKind.i64 ((↑n:Int)+1)))))] []else((decide (0<=(↑n:Int))&&decide (Int.toNat (↑n:Int)<List.length s))=true∧(if ((↑(UInt8.toNat (List.getD s (Int.toNat (↑n:Int)) (0:UInt8))):Int)==9)=true then At KG 0 (Za Uy G) Uq 0 46 [(0,(.pv (.str s))),(3,(.pv (.int .i64 (IntKind.wrap IntKind.i64 ((↑n:Int)+1)))))] []else((decide (0<=(↑n:Int))&&decide (Int.toNat (↑n:Int)<List.length s))=true∧(if ((↑(UInt8.toNat (List.getD s (Int.toNat (↑n:Int)) (0:UInt8))):Int)==10)=true then At KG 0 (Za Uy G) Uq 0 46 [(0,(.pv (.str s))),(3,(.pv (.int .i64 (IntKind.wrap IntKind.i64 ((↑n:Int)+1)))))] []else((decide (0<=(↑n:Int))&&true&&decide (Int.toNat (↑n:Int)<=List.length s)&&decide (List.length s<=List.length s))=true∧(∃ b:Bool,AV.pv (Zm (fun(x:Str×Str×Unit)=>List.isPrefixOf (Str.s x.2.1) (Str.s x.1)) [(.str (List.drop (Int.toNat (↑n:Int)) (List.take (List.length s) s))),(.str [(47:UInt8),(47:UInt8)])])=AV.pv (enc b)∧(if (b)=true then(decide (0<=(↑n:Int))&&true&&decide (Int.toNat (↑n:Int)<=List.length s)&&decide (List.length s<=List.length s))=true∧((Go.Pl.preT (fun(x:Str×UInt8×Unit)=>decide (List.length (Str.s x.1)<=1048576)) [(.str (List.drop (Int.toNat (↑n:Int)) (List.take (List.length s) s))),(.int IntKind.u8 10)])=true∧(∃ a:Int,AV.pv (Zm (fun(x:Str×UInt8×Unit)=>Lib.indexByte (Str.s x.1) x.2.1) [(.str (List.drop (Int.toNat (↑n:Int)) (List.take (List.length s) s))),(.int IntKind.u8 10)])=AV.pv (enc a)∧(if (decide (a<0))=true then G ((.int .i64 (↑(List.length s):Int)))else(At KG 0 (Za Uy G) Uq 0 46 [(0,(.pv (.str s))),(3,(.pv (.int .i64 (IntKind.wrap IntKind.i64 ((↑n:Int)+a)))))] []))))else(G ((.int .i64 (↑n:Int))))))))))))else(G ((.int .i64 (↑n:Int))))):At KG 0 (Za Uy G) Uq 0 46 [(0,.pv (.str s)),(3,.pv (.int .i64 (n:Int)))] []:=At.tp (dm [dv Bool,dv Int] 73 0x200014261100b45210200242221220222222007422212202222222222200c42104242) h
noncomputable def Zo:IC:=XG Proofs.Tryz.f81
def Zn:List IRes:=[(.tmp 2),(.tmp 3)]
abbrev d6k:Nat:=49
noncomputable def Zx:ZC:=YG [(121,.pure (preT (fun _:UInt8×Unit=>true)) (Zm (fun x:UInt8×Unit=>lowB x.1))),(122,.pure (preT (fun x:Str×Bool×Unit=>decide (x.1.s.length<=1048576))) (Zm (fun x:Str×Bool×Unit=>Yr x.1 x.2.1))),(123,.pure (preT (fun _:Str×Unit=>true)) (Zm (fun x:Str×Unit=>Wu.contains x.1.s))),(87,.pure (preT (fun x:Str×Unit=>decide (x.1.s.length<=1048576))) (Zm (fun x:Str×Unit=>nameI x.1.s))),(124,.pure (preT (fun _:UInt8×Unit=>true)) (Zm (fun x:UInt8×Unit=>digB x.1))),(125,.pure (preT (fun x:Str×Unit=>decide (x.1.s.length<=1048576))) (Zm (fun x:Str×Unit=>Yx x.1))),(108,.pure (preT (fun _:Str×Str×Unit=>true)) (Zm (fun x:Str×Str×Unit=>x.2.1.s.isPrefixOf x.1.s))),(126,.pure Cx PP)]
theorem d2o{G:PV->Prop}(s:List UInt8)(h:if (s==[])=true then G ((.tup [(.int .i64 0),(.str [])]))else((decide (0<=0)&&decide (Int.toNat 0<List.length s))=true∧((Go.Pl.preT (fun(x:UInt8×Unit)=>true) [(.int IntKind.u8 (↑(UInt8.toNat (List.getD s (Int.toNat 0) (0:UInt8))):Int))])=true∧(∃ k:Bool,AV.pv (Zm (fun(x:UInt8×Unit)=>lowB x.1) [(.int IntKind.u8 (↑(UInt8.toNat (List.getD s (Int.toNat 0) (0:UInt8))):Int))])=AV.pv (enc k)∧(if (k)=true then(Go.Pl.preT (fun(x:Str×Bool×Unit)=>decide (List.length (Str.s x.1)<=1048576)) [(.str s),(.bool true)])=true∧(∃ a:Str,AV.pv (Zm (fun(x:Str×Bool×Unit)=>Yr x.1 x.2.1) [(.str s),(.bool true)])=AV.pv (enc a)∧(∃ g:Bool,AV.pv (Zm (fun(x:Str×Unit)=>List.contains Wu (Str.s x.1)) [(.str (Str.s a))])=AV.pv (enc g)∧(if (g)=true then G ((.tup [(.int .i64 2),(.str (Str.s a))]))else((Go.Pl.preT (fun(x:Str×Unit)=>decide (List.length (Str.s x.1)<=1048576)) [(.str (Str.s a))])=true∧(∃ l:Bool,AV.pv (Zm (fun(x:Str×Unit)=>nameI (Str.s x.1)) [(.str (Str.s a))])=AV.pv (enc l)∧(if (l)=true then G ((.tup [(.int .i64 1),(.str (Str.s a))]))else(G ((.tup [(.int .i64 0),(.str [])])))))))))else((decide (0<=0)&&decide (Int.toNat 0<List.length s))=true∧((Go.Pl.preT (fun(x:UInt8×Unit)=>true) [(.int IntKind.u8 (↑(UInt8.toNat (List.getD s (Int.toNat 0) (0:UInt8))):Int))])=true∧(∃ j:Bool,AV.pv (Zm (fun(x:UInt8×Unit)=>digB x.1) [(.int IntKind.u8 (↑(UInt8.toNat (List.getD s (Int.toNat 0) (0:UInt8))):Int))])=AV.pv (enc j)∧(if (j)=true then(Go.Pl.preT (fun(x:Str×Bool×Unit)=>decide (List.length (Str.s x.1)<=1048576)) [(.str s),(.bool false)])=true∧(∃ b:Str,AV.pv (Zm (fun(x:Str×Bool×Unit)=>Yr x.1 x.2.1) [(.str s),(.bool false)])=AV.pv (enc b)∧((Go.Pl.preT (fun(x:Str×Unit)=>decide (List.length (Str.s x.1)<=1048576)) [(.str (Str.s b))])=true∧(∃ e:Int×Bool,AV.pv (Zm (fun(x:Str×Unit)=>Yx x.1) [(.str (Str.s b))])=AV.pv (enc e)∧(if e.2=true then G ((.tup [(.int .i64 3),(.str (Str.s b))]))else(G ((.tup [(.int .i64 0),(.str [])])))))))else(At Zx 0 (Za Zn G) Zo 0 49 [(0,(.pv (.str s))),(10,(.pv (.agg (List.map PV.str Zg)))),(11,(.pv (.int .i64 0)))] [])))))))))):Zb Zx 0 (Za Zn G) Zo [] (Yh 49 [.str s]):=Zb.tp (dm [dv Bool,dv Str,dv (Int×Bool)] 51 0x32000014716100a4511000014510001452610114511000142) h
theorem b5g{G:PV->Prop}(s:List UInt8)(h : ∃ a:Bool,AV.pv (Zm (fun(x:Str×Str×Unit)=>List.isPrefixOf (Str.s x.2.1) (Str.s x.1)) [(.str s),(.str [(46:UInt8),(46:UInt8)])])=AV.pv (enc a)∧(if (a)=true then G ((.tup [(.int .i64 4),(.str [(46:UInt8),(46:UInt8)])]))else(At Zx 0 (Za Zn G) Zo 0 49 [(0,(.pv (.str s))),(10,(.pv (.agg (List.map PV.str Zg)))),(11,(.pv (.int .i64 1)))] []))):At Zx 0 (Za Zn G) Zo 0 49 [(0,.pv (.str s)),(10,.pv Yv),(11,.pv (.int .i64 0))] []:=At.tp (dm [dv Bool] 13 0x20001452222) h
theorem b1m{G:PV->Prop}(s:List UInt8)(h : ∃ a:Bool,AV.pv (Zm (fun(x:Str×Str×Unit)=>List.isPrefixOf (Str.s x.2.1) (Str.s x.1)) [(.str s),(.str [(61:UInt8),(61:UInt8)])])=AV.pv (enc a)∧(if (a)=true then G ((.tup [(.int .i64 4),(.str [(61:UInt8),(61:UInt8)])]))else(At Zx 0 (Za Zn G) Zo 0 49 [(0,(.pv (.str s))),(10,(.pv (.agg (List.map PV.str Zg)))),(11,(.pv (.int .i64 2)))] []))):At Zx 0 (Za Zn G) Zo 0 49 [(0,.pv (.str s)),(10,.pv Yv),(11,.pv (.int .i64 1))] []:=At.tp (dm [dv Bool] 13 0x20001452222) h
theorem b5p{G:PV->Prop}(s:List UInt8)(h : ∃ a:Bool,AV.pv (Zm (fun(x:Str×Str×Unit)=>List.isPrefixOf (Str.s x.2.1) (Str.s x.1)) [(.str s),(.str [(33:UInt8),(61:UInt8)])])=AV.pv (enc a)∧(if (a)=true then G ((.tup [(.int .i64 4),(.str [(33:UInt8),(61:UInt8)])]))else(At Zx 0 (Za Zn G) Zo 0 49 [(0,(.pv (.str s))),(10,(.pv (.agg (List.map PV.str Zg)))),(11,(.pv (.int .i64 3)))] []))):At Zx 0 (Za Zn G) Zo 0 49 [(0,.pv (.str s)),(10,.pv Yv),(11,.pv (.int .i64 2))] []:=At.tp (dm [dv Bool] 13 0x20001452222) h
theorem b8w{G:PV->Prop}(s:List UInt8)(h : ∃ a:Bool,AV.pv (Zm (fun(x:Str×Str×Unit)=>List.isPrefixOf (Str.s x.2.1) (Str.s x.1)) [(.str s),(.str [(60:UInt8),(61:UInt8)])])=AV.pv (enc a)∧(if (a)=true then G ((.tup [(.int .i64 4),(.str [(60:UInt8),(61:UInt8)])]))else(At Zx 0 (Za Zn G) Zo 0 49 [(0,(.pv (.str s))),(10,(.pv (.agg (List.map PV.str Zg)))),(11,(.pv (.int .i64 4)))] []))):At Zx 0 (Za Zn G) Zo 0 49 [(0,.pv (.str s)),(10,.pv Yv),(11,.pv (.int .i64 3))] []:=At.tp (dm [dv Bool] 13 0x20001452222) h
theorem b1k{G:PV->Prop}(s:List UInt8)(h : ∃ a:Bool,AV.pv (Zm (fun(x:Str×Str×Unit)=>List.isPrefixOf (Str.s x.2.1) (Str.s x.1)) [(.str s),(.str [(62:UInt8),(61:UInt8)])])=AV.pv (enc a)∧(if (a)=true then G ((.tup [(.int .i64 4),(.str [(62:UInt8),(61:UInt8)])]))else(At Zx 0 (Za Zn G) Zo 0 49 [(0,(.pv (.str s))),(10,(.pv (.agg (List.map PV.str Zg)))),(11,(.pv (.int .i64 5)))] []))):At Zx 0 (Za Zn G) Zo 0 49 [(0,.pv (.str s)),(10,.pv Yv),(11,.pv (.int .i64 4))] []:=At.tp (dm [dv Bool] 13 0x20001452222) h
theorem c2l{G:PV->Prop}(s:List UInt8)(h : ∃ a:Bool,AV.pv (Zm (fun(x:Str×Str×Unit)=>List.isPrefixOf (Str.s x.2.1) (Str.s x.1)) [(.str s),(.str [(45:UInt8),(62:UInt8)])])=AV.pv (enc a)∧(if (a)=true then G ((.tup [(.int .i64 4),(.str [(45:UInt8),(62:UInt8)])]))else(At Zx 0 (Za Zn G) Zo 0 49 [(0,(.pv (.str s))),(10,(.pv (.agg (List.map PV.str Zg)))),(11,(.pv (.int .i64 6)))] []))):At Zx 0 (Za Zn G) Zo 0 49 [(0,.pv (.str s)),(10,.pv Yv),(11,.pv (.int .i64 5))] []:=At.tp (dm [dv Bool] 13 0x20001452222) h
theorem c0p{G:PV->Prop}(s:List UInt8)(h : ∃ a:Bool,AV.pv (Zm (fun(x:Str×Str×Unit)=>List.isPrefixOf (Str.s x.2.1) (Str.s x.1)) [(.str s),(.str [(38:UInt8),(38:UInt8)])])=AV.pv (enc a)∧(if (a)=true then G ((.tup [(.int .i64 4),(.str [(38:UInt8),(38:UInt8)])]))else(At Zx 0 (Za Zn G) Zo 0 49 [(0,(.pv (.str s))),(10,(.pv (.agg (List.map PV.str Zg)))),(11,(.pv (.int .i64 7)))] []))):At Zx 0 (Za Zn G) Zo 0 49 [(0,.pv (.str s)),(10,.pv Yv),(11,.pv (.int .i64 6))] []:=At.tp (dm [dv Bool] 13 0x20001452222) h
theorem c2g{G:PV->Prop}(s:List UInt8)(h : ∃ a:Bool,AV.pv (Zm (fun(x:Str×Str×Unit)=>List.isPrefixOf (Str.s x.2.1) (Str.s x.1)) [(.str s),(.str [(124:UInt8),(124:UInt8)])])=AV.pv (enc a)∧(if (a)=true then G ((.tup [(.int .i64 4),(.str [(124:UInt8),(124:UInt8)])]))else(At Zx 0 (Za Zn G) Zo 0 49 [(0,(.pv (.str s))),(10,(.pv (.agg (List.map PV.str Zg)))),(11,(.pv (.int .i64 8)))] []))):At Zx 0 (Za Zn G) Zo 0 49 [(0,.pv (.str s)),(10,.pv Yv),(11,.pv (.int .i64 7))] []:=At.tp (dm [dv Bool] 13 0x20001452222) h
theorem b8p{G:PV->Prop}(s:List UInt8)(h : ∃ a:Bool,AV.pv (Zm (fun(x:Str×Str×Unit)=>List.isPrefixOf (Str.s x.2.1) (Str.s x.1)) [(.str s),(.str [(40:UInt8)])])=AV.pv (enc a)∧(if (a)=true then G ((.tup [(.int .i64 4),(.str [(40:UInt8)])]))else(At Zx 0 (Za Zn G) Zo 0 49 [(0,(.pv (.str s))),(10,(.pv (.agg (List.map PV.str Zg)))),(11,(.pv (.int .i64 9)))] []))):At Zx 0 (Za Zn G) Zo 0 49 [(0,.pv (.str s)),(10,.pv Yv),(11,.pv (.int .i64 8))] []:=At.tp (dm [dv Bool] 13 0x20001452222) h
theorem b6k{G:PV->Prop}(s:List UInt8)(h : ∃ a:Bool,AV.pv (Zm (fun(x:Str×Str×Unit)=>List.isPrefixOf (Str.s x.2.1) (Str.s x.1)) [(.str s),(.str [(41:UInt8)])])=AV.pv (enc a)∧(if (a)=true then G ((.tup [(.int .i64 4),(.str [(41:UInt8)])]))else(At Zx 0 (Za Zn G) Zo 0 49 [(0,(.pv (.str s))),(10,(.pv (.agg (List.map PV.str Zg)))),(11,(.pv (.int .i64 10)))] []))):At Zx 0 (Za Zn G) Zo 0 49 [(0,.pv (.str s)),(10,.pv Yv),(11,.pv (.int .i64 9))] []:=At.tp (dm [dv Bool] 13 0x20001452222) h
theorem b8c{G:PV->Prop}(s:List UInt8)(h : ∃ a:Bool,AV.pv (Zm (fun(x:Str×Str×Unit)=>List.isPrefixOf (Str.s x.2.1) (Str.s x.1)) [(.str s),(.str [(91:UInt8)])])=AV.pv (enc a)∧(if (a)=true then G ((.tup [(.int .i64 4),(.str [(91:UInt8)])]))else(At Zx 0 (Za Zn G) Zo 0 49 [(0,(.pv (.str s))),(10,(.pv (.agg (List.map PV.str Zg)))),(11,(.pv (.int .i64 11)))] []))):At Zx 0 (Za Zn G) Zo 0 49 [(0,.pv (.str s)),(10,.pv Yv),(11,.pv (.int .i64 10))] []:=At.tp (dm [dv Bool] 13 0x20001452222) h
theorem b5k{G:PV->Prop}(s:List UInt8)(h : ∃ a:Bool,AV.pv (Zm (fun(x:Str×Str×Unit)=>List.isPrefixOf (Str.s x.2.1) (Str.s x.1)) [(.str s),(.str [(93:UInt8)])])=AV.pv (enc a)∧(if (a)=true then G ((.tup [(.int .i64 4),(.str [(93:UInt8)])]))else(At Zx 0 (Za Zn G) Zo 0 49 [(0,(.pv (.str s))),(10,(.pv (.agg (List.map PV.str Zg)))),(11,(.pv (.int .i64 12)))] []))):At Zx 0 (Za Zn G) Zo 0 49 [(0,.pv (.str s)),(10,.pv Yv),(11,.pv (.int .i64 11))] []:=At.tp (dm [dv Bool] 13 0x20001452222) h
theorem b9r{G:PV->Prop}(s:List UInt8)(h : ∃ a:Bool,AV.pv (Zm (fun(x:Str×Str×Unit)=>List.isPrefixOf (Str.s x.2.1) (Str.s x.1)) [(.str s),(.str [(123:UInt8)])])=AV.pv (enc a)∧(if (a)=true then G ((.tup [(.int .i64 4),(.str [(123:UInt8)])]))else(At Zx 0 (Za Zn G) Zo 0 49 [(0,(.pv (.str s))),(10,(.pv (.agg (List.map PV.str Zg)))),(11,(.pv (.int .i64 13)))] []))):At Zx 0 (Za Zn G) Zo 0 49 [(0,.pv (.str s)),(10,.pv Yv),(11,.pv (.int .i64 12))] []:=At.tp (dm [dv Bool] 13 0x20001452222) h
theorem b8l{G:PV->Prop}(s:List UInt8)(h : ∃ a:Bool,AV.pv (Zm (fun(x:Str×Str×Unit)=>List.isPrefixOf (Str.s x.2.1) (Str.s x.1)) [(.str s),(.str [(125:UInt8)])])=AV.pv (enc a)∧(if (a)=true then G ((.tup [(.int .i64 4),(.str [(125:UInt8)])]))else(At Zx 0 (Za Zn G) Zo 0 49 [(0,(.pv (.str s))),(10,(.pv (.agg (List.map PV.str Zg)))),(11,(.pv (.int .i64 14)))] []))):At Zx 0 (Za Zn G) Zo 0 49 [(0,.pv (.str s)),(10,.pv Yv),(11,.pv (.int .i64 13))] []:=At.tp (dm [dv Bool] 13 0x20001452222) h
theorem b6v{G:PV->Prop}(s:List UInt8)(h : ∃ a:Bool,AV.pv (Zm (fun(x:Str×Str×Unit)=>List.isPrefixOf (Str.s x.2.1) (Str.s x.1)) [(.str s),(.str [(44:UInt8)])])=AV.pv (enc a)∧(if (a)=true then G ((.tup [(.int .i64 4),(.str [(44:UInt8)])]))else(At Zx 0 (Za Zn G) Zo 0 49 [(0,(.pv (.str s))),(10,(.pv (.agg (List.map PV.str Zg)))),(11,(.pv (.int .i64 15)))] []))):At Zx 0 (Za Zn G) Zo 0 49 [(0,.pv (.str s)),(10,.pv Yv),(11,.pv (.int .i64 14))] []:=At.tp (dm [dv Bool] 13 0x20001452222) h
theorem b7j{G:PV->Prop}(s:List UInt8)(h : ∃ a:Bool,AV.pv (Zm (fun(x:Str×Str×Unit)=>List.isPrefixOf (Str.s x.2.1) (Str.s x.1)) [(.str s),(.str [(58:UInt8)])])=AV.pv (enc a)∧(if (a)=true then G ((.tup [(.int .i64 4),(.str [(58:UInt8)])]))else(At Zx 0 (Za Zn G) Zo 0 49 [(0,(.pv (.str s))),(10,(.pv (.agg (List.map PV.str Zg)))),(11,(.pv (.int .i64 16)))] []))):At Zx 0 (Za Zn G) Zo 0 49 [(0,.pv (.str s)),(10,.pv Yv),(11,.pv (.int .i64 15))] []:=At.tp (dm [dv Bool] 13 0x20001452222) h
theorem c3w{G:PV->Prop}(s:List UInt8)(h : ∃ a:Bool,AV.pv (Zm (fun(x:Str×Str×Unit)=>List.isPrefixOf (Str.s x.2.1) (Str.s x.1)) [(.str s),(.str [(46:UInt8)])])=AV.pv (enc a)∧(if (a)=true then G ((.tup [(.int .i64 4),(.str [(46:UInt8)])]))else(At Zx 0 (Za Zn G) Zo 0 49 [(0,(.pv (.str s))),(10,(.pv (.agg (List.map PV.str Zg)))),(11,(.pv (.int .i64 17)))] []))):At Zx 0 (Za Zn G) Zo 0 49 [(0,.pv (.str s)),(10,.pv Yv),(11,.pv (.int .i64 16))] []:=At.tp (dm [dv Bool] 13 0x20001452222) h
theorem b1u{G:PV->Prop}(s:List UInt8)(h : ∃ a:Bool,AV.pv (Zm (fun(x:Str×Str×Unit)=>List.isPrefixOf (Str.s x.2.1) (Str.s x.1)) [(.str s),(.str [(64:UInt8)])])=AV.pv (enc a)∧(if (a)=true then G ((.tup [(.int .i64 4),(.str [(64:UInt8)])]))else(At Zx 0 (Za Zn G) Zo 0 49 [(0,(.pv (.str s))),(10,(.pv (.agg (List.map PV.str Zg)))),(11,(.pv (.int .i64 18)))] []))):At Zx 0 (Za Zn G) Zo 0 49 [(0,.pv (.str s)),(10,.pv Yv),(11,.pv (.int .i64 17))] []:=At.tp (dm [dv Bool] 13 0x20001452222) h
theorem b2z{G:PV->Prop}(s:List UInt8)(h : ∃ a:Bool,AV.pv (Zm (fun(x:Str×Str×Unit)=>List.isPrefixOf (Str.s x.2.1) (Str.s x.1)) [(.str s),(.str [(35:UInt8)])])=AV.pv (enc a)∧(if (a)=true then G ((.tup [(.int .i64 4),(.str [(35:UInt8)])]))else(At Zx 0 (Za Zn G) Zo 0 49 [(0,(.pv (.str s))),(10,(.pv (.agg (List.map PV.str Zg)))),(11,(.pv (.int .i64 19)))] []))):At Zx 0 (Za Zn G) Zo 0 49 [(0,.pv (.str s)),(10,.pv Yv),(11,.pv (.int .i64 18))] []:=At.tp (dm [dv Bool] 13 0x20001452222) h
theorem b2n{G:PV->Prop}(s:List UInt8)(h : ∃ a:Bool,AV.pv (Zm (fun(x:Str×Str×Unit)=>List.isPrefixOf (Str.s x.2.1) (Str.s x.1)) [(.str s),(.str [(61:UInt8)])])=AV.pv (enc a)∧(if (a)=true then G ((.tup [(.int .i64 4),(.str [(61:UInt8)])]))else(At Zx 0 (Za Zn G) Zo 0 49 [(0,(.pv (.str s))),(10,(.pv (.agg (List.map PV.str Zg)))),(11,(.pv (.int .i64 20)))] []))):At Zx 0 (Za Zn G) Zo 0 49 [(0,.pv (.str s)),(10,.pv Yv),(11,.pv (.int .i64 19))] []:=At.tp (dm [dv Bool] 13 0x20001452222) h
theorem c2h{G:PV->Prop}(s:List UInt8)(h : ∃ a:Bool,AV.pv (Zm (fun(x:Str×Str×Unit)=>List.isPrefixOf (Str.s x.2.1) (Str.s x.1)) [(.str s),(.str [(60:UInt8)])])=AV.pv (enc a)∧(if (a)=true then G ((.tup [(.int .i64 4),(.str [(60:UInt8)])]))else(At Zx 0 (Za Zn G) Zo 0 49 [(0,(.pv (.str s))),(10,(.pv (.agg (List.map PV.str Zg)))),(11,(.pv (.int .i64 21)))] []))):At Zx 0 (Za Zn G) Zo 0 49 [(0,.pv (.str s)),(10,.pv Yv),(11,.pv (.int .i64 20))] []:=At.tp (dm [dv Bool] 13 0x20001452222) h
theorem b5j{G:PV->Prop}(s:List UInt8)(h : ∃ a:Bool,AV.pv (Zm (fun(x:Str×Str×Unit)=>List.isPrefixOf (Str.s x.2.1) (Str.s x.1)) [(.str s),(.str [(62:UInt8)])])=AV.pv (enc a)∧(if (a)=true then G ((.tup [(.int .i64 4),(.str [(62:UInt8)])]))else(At Zx 0 (Za Zn G) Zo 0 49 [(0,(.pv (.str s))),(10,(.pv (.agg (List.map PV.str Zg)))),(11,(.pv (.int .i64 22)))] []))):At Zx 0 (Za Zn G) Zo 0 49 [(0,.pv (.str s)),(10,.pv Yv),(11,.pv (.int .i64 21))] []:=At.tp (dm [dv Bool] 13 0x20001452222) h
theorem b6t{G:PV->Prop}(s:List UInt8)(h : ∃ a:Bool,AV.pv (Zm (fun(x:Str×Str×Unit)=>List.isPrefixOf (Str.s x.2.1) (Str.s x.1)) [(.str s),(.str [(43:UInt8)])])=AV.pv (enc a)∧(if (a)=true then G ((.tup [(.int .i64 4),(.str [(43:UInt8)])]))else(At Zx 0 (Za Zn G) Zo 0 49 [(0,(.pv (.str s))),(10,(.pv (.agg (List.map PV.str Zg)))),(11,(.pv (.int .i64 23)))] []))):At Zx 0 (Za Zn G) Zo 0 49 [(0,.pv (.str s)),(10,.pv Yv),(11,.pv (.int .i64 22))] []:=At.tp (dm [dv Bool] 13 0x20001452222) h
theorem b3c{G:PV->Prop}(s:List UInt8)(h : ∃ a:Bool,AV.pv (Zm (fun(x:Str×Str×Unit)=>List.isPrefixOf (Str.s x.2.1) (Str.s x.1)) [(.str s),(.str [(45:UInt8)])])=AV.pv (enc a)∧(if (a)=true then G ((.tup [(.int .i64 4),(.str [(45:UInt8)])]))else(At Zx 0 (Za Zn G) Zo 0 49 [(0,(.pv (.str s))),(10,(.pv (.agg (List.map PV.str Zg)))),(11,(.pv (.int .i64 24)))] []))):At Zx 0 (Za Zn G) Zo 0 49 [(0,.pv (.str s)),(10,.pv Yv),(11,.pv (.int .i64 23))] []:=At.tp (dm [dv Bool] 13 0x20001452222) h
theorem b3q{G:PV->Prop}(s:List UInt8)(h : ∃ a:Bool,AV.pv (Zm (fun(x:Str×Str×Unit)=>List.isPrefixOf (Str.s x.2.1) (Str.s x.1)) [(.str s),(.str [(42:UInt8)])])=AV.pv (enc a)∧(if (a)=true then G ((.tup [(.int .i64 4),(.str [(42:UInt8)])]))else(At Zx 0 (Za Zn G) Zo 0 49 [(0,(.pv (.str s))),(10,(.pv (.agg (List.map PV.str Zg)))),(11,(.pv (.int .i64 25)))] []))):At Zx 0 (Za Zn G) Zo 0 49 [(0,.pv (.str s)),(10,.pv Yv),(11,.pv (.int .i64 24))] []:=At.tp (dm [dv Bool] 13 0x20001452222) h
theorem c2n{G:PV->Prop}(s:List UInt8)(h : ∃ a:Bool,AV.pv (Zm (fun(x:Str×Str×Unit)=>List.isPrefixOf (Str.s x.2.1) (Str.s x.1)) [(.str s),(.str [(47:UInt8)])])=AV.pv (enc a)∧(if (a)=true then G ((.tup [(.int .i64 4),(.str [(47:UInt8)])]))else(At Zx 0 (Za Zn G) Zo 0 49 [(0,(.pv (.str s))),(10,(.pv (.agg (List.map PV.str Zg)))),(11,(.pv (.int .i64 26)))] []))):At Zx 0 (Za Zn G) Zo 0 49 [(0,.pv (.str s)),(10,.pv Yv),(11,.pv (.int .i64 25))] []:=At.tp (dm [dv Bool] 13 0x20001452222) h
theorem b1i{G:PV->Prop}(s:List UInt8)(h : ∃ a:Bool,AV.pv (Zm (fun(x:Str×Str×Unit)=>List.isPrefixOf (Str.s x.2.1) (Str.s x.1)) [(.str s),(.str [(37:UInt8)])])=AV.pv (enc a)∧(if (a)=true then G ((.tup [(.int .i64 4),(.str [(37:UInt8)])]))else(At Zx 0 (Za Zn G) Zo 0 49 [(0,(.pv (.str s))),(10,(.pv (.agg (List.map PV.str Zg)))),(11,(.pv (.int .i64 27)))] []))):At Zx 0 (Za Zn G) Zo 0 49 [(0,.pv (.str s)),(10,.pv Yv),(11,.pv (.int .i64 26))] []:=At.tp (dm [dv Bool] 13 0x20001452222) h
theorem b2j{G:PV->Prop}(s:List UInt8)(h : ∃ a:Bool,AV.pv (Zm (fun(x:Str×Str×Unit)=>List.isPrefixOf (Str.s x.2.1) (Str.s x.1)) [(.str s),(.str [(33:UInt8)])])=AV.pv (enc a)∧(if (a)=true then G ((.tup [(.int .i64 4),(.str [(33:UInt8)])]))else(At Zx 0 (Za Zn G) Zo 0 49 [(0,(.pv (.str s))),(10,(.pv (.agg (List.map PV.str Zg)))),(11,(.pv (.int .i64 28)))] []))):At Zx 0 (Za Zn G) Zo 0 49 [(0,.pv (.str s)),(10,.pv Yv),(11,.pv (.int .i64 27))] []:=At.tp (dm [dv Bool] 13 0x20001452222) h
theorem b4c{G:PV->Prop}(s:List UInt8)(h:G ((.tup [(.int .i64 0),(.str [])]))):At Zx 0 (Za Zn G) Zo 0 49 [(0,.pv (.str s)),(10,.pv Yv),(11,.pv (.int .i64 28))] []:=At.tp (.lit (.lit (.nil))) h
noncomputable def U3:IC:=XG Proofs.Tryz.f48
def U5:List IRes:=[(.tmp 2),(.tmp 3),(.tmp 4)]
abbrev d7x:Nat:=59
noncomputable def Jo:ZC:=YG [(79,.pure (preT (fun x:Str×Unit=>decide (x.1.s.length<=1048576))) (Zm (fun x:Str×Unit=>VZ x.1))),(80,.pure (preT (fun x:Str×Str×Unit=>decide (x.1.s.length<=1048576)&&decide (x.2.1.s=[10]))) (Zm (fun x:Str×Str×Unit=>(Lib.countByte x.1.s 10:Int)))),(81,.pure (preT (fun x:Str×Unit=>decide (x.1.s.length<=1048576))) (Zm (fun x:Str×Unit=>ZB x.1)))]
theorem e2a{G:PV->Prop}(s:List UInt8)(h:if (decide ((↑(List.length s):Int)>20000))=true then G ((.tup [(.sl 0 true []),(.int .i64 0),(.int .i64 3)]))else(At Jo 0 (Za U5 G) U3 0 59 [(0,(.pv (.str s))),(2,(.pv (.sl 0 true []))),(3,(.pv (.int .i64 0))),(5,(.pv (.int .i64 1)))] [])):Zb Jo 0 (Za U5 G) U3 [] (Yh 59 [.str s]):=Zb.tp (dm [] 8 0x142) h
theorem c6u{G:PV->Prop}(s:List UInt8)(n ln:Int)(h:(decide (0<=n)&&true&&decide (Int.toNat n<=List.length s)&&decide (List.length s<=List.length s))=true∧((Go.Pl.preT (fun(x:Str×Unit)=>decide (List.length (Str.s x.1)<=1048576)) [(.str (List.drop (Int.toNat n) (List.take (List.length s) s)))])=true∧(∃ a:Int,AV.pv (Zm (fun(x:Str×Unit)=>VZ x.1) [(.str (List.drop (Int.toNat n) (List.take (List.length s) s)))])=AV.pv (enc a)∧((decide (0<=n)&&decide (0<=IntKind.wrap IntKind.i64 (n+a))&&decide (Int.toNat n<=Int.toNat (IntKind.wrap IntKind.i64 (n+a)))&&decide (Int.toNat (IntKind.wrap IntKind.i64 (n+a))<=List.length s))=true∧((Go.Pl.preT (fun(x:Str×Str×Unit)=>decide (List.length (Str.s x.1)<=1048576)&&decide (Str.s x.2.1=[(10:UInt8)])) [(.str (List.drop (Int.toNat n) (List.take (Int.toNat (IntKind.wrap IntKind.i64 (n+a))) s))),(.str [(10:UInt8)])])=true∧(∃ e:Int,AV.pv (Zm (fun(x:Str×Str×Unit)=>(↑(Lib.countByte (Str.s x.1) (10:UInt8)):Int)) [(.str (List.drop (Int.toNat n) (List.take (Int.toNat (IntKind.wrap IntKind.i64 (n+a))) s))),(.str [(10:UInt8)])])=AV.pv (enc e)∧(if (IntKind.wrap IntKind.i64 (n+a)==(↑(List.length s):Int))=true then G ((.tup [(.sl 0 true []),(.int .i64 0),(.int .i64 0)]))else((decide (0<=IntKind.wrap IntKind.i64 (n+a))&&true&&decide (Int.toNat (IntKind.wrap IntKind.i64 (n+a))<=List.length s)&&decide (List.length s<=List.length s))=true∧((Go.Pl.preT (fun(x:Str×Unit)=>decide (List.length (Str.s x.1)<=1048576)) [(.str (List.drop (Int.toNat (IntKind.wrap IntKind.i64 (n+a))) (List.take (List.length s) s)))])=true∧(∃ b:Int×Str,AV.pv (Zm (fun(x:Str×Unit)=>ZB x.1) [(.str (List.drop (Int.toNat (IntKind.wrap IntKind.i64 (n+a))) (List.take (List.length s) s)))])=AV.pv (enc b)∧(if (b.1==0)=true then G ((.tup [(.sl 0 true []),(.int .i64 (IntKind.wrap IntKind.i64 (n+a))),(.int .i64 6)]))else(At Jo 0 (Za U5 G) U3 0 59 [(0,(.pv (.str s))),(2,(.row 0 1 0 1)),(3,(.pv (.int .i64 (IntKind.wrap IntKind.i64 (IntKind.wrap IntKind.i64 (n+a)+(↑(List.length (Str.s b.2)):Int)))))),(5,(.pv (.int .i64 (IntKind.wrap IntKind.i64 (ln+e)))))] [(.obj (.row false 78 4 [(.agg [(.int .i64 b.1),(.str (Str.s b.2)),(.int .i64 (IntKind.wrap IntKind.i64 (ln+e))),(.int .i64 (IntKind.wrap IntKind.i64 (n+a)))])]))])))))))))))):At Jo 0 (Za U5 G) U3 0 59 [(0,.pv (.str s)),(2,.pv (.sl 0 true [])),(3,.pv (.int .i64 n)),(5,.pv (.int .i64 ln))] []:=At.tp (dm [dv Int,dv (Int×Str)] 34 0x22222222000142611000142225112511) h
theorem d0c{G:PV->Prop}(s:List UInt8)(n ln:Int)(o:List Tok)(L:Nat)(h:(decide (0<=n)&&true&&decide (Int.toNat n<=List.length s)&&decide (List.length s<=List.length s))=true∧((Go.Pl.preT (fun(x:Str×Unit)=>decide (List.length (Str.s x.1)<=1048576)) [(.str (List.drop (Int.toNat n) (List.take (List.length s) s)))])=true∧(∃ a:Int,AV.pv (Zm (fun(x:Str×Unit)=>VZ x.1) [(.str (List.drop (Int.toNat n) (List.take (List.length s) s)))])=AV.pv (enc a)∧((decide (0<=n)&&decide (0<=IntKind.wrap IntKind.i64 (n+a))&&decide (Int.toNat n<=Int.toNat (IntKind.wrap IntKind.i64 (n+a)))&&decide (Int.toNat (IntKind.wrap IntKind.i64 (n+a))<=List.length s))=true∧((Go.Pl.preT (fun(x:Str×Str×Unit)=>decide (List.length (Str.s x.1)<=1048576)&&decide (Str.s x.2.1=[(10:UInt8)])) [(.str (List.drop (Int.toNat n) (List.take (Int.toNat (IntKind.wrap IntKind.i64 (n+a))) s))),(.str [(10:UInt8)])])=true∧(∃ e:Int,AV.pv (Zm (fun(x:Str×Str×Unit)=>(↑(Lib.countByte (Str.s x.1) (10:UInt8)):Int)) [(.str (List.drop (Int.toNat n) (List.take (Int.toNat (IntKind.wrap IntKind.i64 (n+a))) s))),(.str [(10:UInt8)])])=AV.pv (enc e)∧(if (IntKind.wrap IntKind.i64 (n+a)==(↑(List.length s):Int))=true then(List.length (List.map enc o)==L)=true∧(G ((.tup [(.sl 4 false (List.drop 0 (List.take L (List.map enc o)))),(.int .i64 0),(.int .i64 0)])))else((decide (0<=IntKind.wrap IntKind.i64 (n+a))&&true&&decide (Int.toNat (IntKind.wrap IntKind.i64 (n+a))<=List.length s)&&decide (List.length s<=List.length s))=true∧((Go.Pl.preT (fun(x:Str×Unit)=>decide (List.length (Str.s x.1)<=1048576)) [(.str (List.drop (Int.toNat (IntKind.wrap IntKind.i64 (n+a))) (List.take (List.length s) s)))])=true∧(∃ b:Int×Str,AV.pv (Zm (fun(x:Str×Unit)=>ZB x.1) [(.str (List.drop (Int.toNat (IntKind.wrap IntKind.i64 (n+a))) (List.take (List.length s) s)))])=AV.pv (enc b)∧(if (b.1==0)=true then G ((.tup [(.sl 0 true []),(.int .i64 (IntKind.wrap IntKind.i64 (n+a))),(.int .i64 6)]))else(if ((↑(L - 0):Int)==4000)=true then G ((.tup [(.sl 0 true []),(.int .i64 (IntKind.wrap IntKind.i64 (n+a))),(.int .i64 3)]))else((List.length (List.map enc o)==L&&L==L&&decide ((L+List.length (List.drop 0 (List.take 1 [PV.agg [enc b.1,enc b.2,PV.int .i64 (IntKind.wrap IntKind.i64 (ln+e)),PV.int .i64 (IntKind.wrap IntKind.i64 (n+a))]])))*40<=1099511627776)&&decide (L+List.length (List.drop 0 (List.take 1 [PV.agg [enc b.1,enc b.2,PV.int .i64 (IntKind.wrap IntKind.i64 (ln+e)),PV.int .i64 (IntKind.wrap IntKind.i64 (n+a))]]))<=1099511627776))=true∧(At Jo 0 (Za U5 G) U3 0 59 [(0,(.pv (.str s))),(2,(.row 0 (L+List.length (List.drop 0 (List.take 1 [PV.agg [enc b.1,enc b.2,PV.int .i64 (IntKind.wrap IntKind.i64 (ln+e)),PV.int .i64 (IntKind.wrap IntKind.i64 (n+a))]]))) 0 (L+List.length (List.drop 0 (List.take 1 [PV.agg [enc b.1,enc b.2,PV.int .i64 (IntKind.wrap IntKind.i64 (ln+e)),PV.int .i64 (IntKind.wrap IntKind.i64 (n+a))]]))))),(3,(.pv (.int .i64 (IntKind.wrap IntKind.i64 (IntKind.wrap IntKind.i64 (n+a)+(↑(List.length (Str.s b.2)):Int)))))),(5,(.pv (.int .i64 (IntKind.wrap IntKind.i64 (ln+e)))))] [(.obj (.row false 78 4 (List.map enc o++List.drop 0 (List.take 1 [PV.agg [enc b.1,enc b.2,PV.int .i64 (IntKind.wrap IntKind.i64 (ln+e)),PV.int .i64 (IntKind.wrap IntKind.i64 (n+a))]]))))])))))))))))))):At Jo 0 (Za U5 G) U3 0 59 [(0,.pv (.str s)),(2,.row 0 L 0 L),(3,.pv (.int .i64 n)),(5,.pv (.int .i64 ln))] [.obj (.row false 78 4 (o.map enc))]:=At.tp (dm [dv Int,dv (Int×Str)] 37 0x21220001420001426110100242225112511) h
theorem X5{k:Int}{w:List UInt8}:Zk ((k,⟨w⟩):Int×Str) (.tup [.int .i64 k,.str w]):=⟨rfl,rfl⟩
theorem d7k(s:List UInt8):At Zx 0 (Za Zn (Zk (Zl [] s))) Zo 0 49 [(0,.pv (.str s)),(10,.pv Yv),(11,.pv (.int .i64 28))] []:=b4c s X5
theorem d3s(s:List UInt8):At Zx 0 (Za Zn (Zk (Zl (Zg.drop 27) s))) Zo 0 49 [(0,.pv (.str s)),(10,.pv Yv),(11,.pv (.int .i64 27))] []:=b2j s (Zc ((⟨s⟩:Str),(⟨[33]⟩:Str),()) rfl (ZW (fun h=>by rw[show Zl (Zg.drop 27) s=(4,⟨[33]⟩)from Yz h];exact X5) fun h=>by rw[show Zl (Zg.drop 27) s=Zl (Zg.drop 28) s from YB h];exact d7k s))
theorem e0h(s:List UInt8):At Zx 0 (Za Zn (Zk (Zl (Zg.drop 26) s))) Zo 0 49 [(0,.pv (.str s)),(10,.pv Yv),(11,.pv (.int .i64 26))] []:=b1i s (Zc ((⟨s⟩:Str),(⟨[37]⟩:Str),()) rfl (ZW (fun h=>by rw[show Zl (Zg.drop 26) s=(4,⟨[37]⟩)from Yz h];exact X5) fun h=>by rw[show Zl (Zg.drop 26) s=Zl (Zg.drop 27) s from YB h];exact d3s s))
theorem d3u(s:List UInt8):At Zx 0 (Za Zn (Zk (Zl (Zg.drop 25) s))) Zo 0 49 [(0,.pv (.str s)),(10,.pv Yv),(11,.pv (.int .i64 25))] []:=c2n s (Zc ((⟨s⟩:Str),(⟨[47]⟩:Str),()) rfl (ZW (fun h=>by rw[show Zl (Zg.drop 25) s=(4,⟨[47]⟩)from Yz h];exact X5) fun h=>by rw[show Zl (Zg.drop 25) s=Zl (Zg.drop 26) s from YB h];exact e0h s))
theorem d6x(s:List UInt8):At Zx 0 (Za Zn (Zk (Zl (Zg.drop 24) s))) Zo 0 49 [(0,.pv (.str s)),(10,.pv Yv),(11,.pv (.int .i64 24))] []:=b3q s (Zc ((⟨s⟩:Str),(⟨[42]⟩:Str),()) rfl (ZW (fun h=>by rw[show Zl (Zg.drop 24) s=(4,⟨[42]⟩)from Yz h];exact X5) fun h=>by rw[show Zl (Zg.drop 24) s=Zl (Zg.drop 25) s from YB h];exact d3u s))
theorem d9t(s:List UInt8):At Zx 0 (Za Zn (Zk (Zl (Zg.drop 23) s))) Zo 0 49 [(0,.pv (.str s)),(10,.pv Yv),(11,.pv (.int .i64 23))] []:=b3c s (Zc ((⟨s⟩:Str),(⟨[45]⟩:Str),()) rfl (ZW (fun h=>by rw[show Zl (Zg.drop 23) s=(4,⟨[45]⟩)from Yz h];exact X5) fun h=>by rw[show Zl (Zg.drop 23) s=Zl (Zg.drop 24) s from YB h];exact d6x s))
theorem d7a(s:List UInt8):At Zx 0 (Za Zn (Zk (Zl (Zg.drop 22) s))) Zo 0 49 [(0,.pv (.str s)),(10,.pv Yv),(11,.pv (.int .i64 22))] []:=b6t s (Zc ((⟨s⟩:Str),(⟨[43]⟩:Str),()) rfl (ZW (fun h=>by rw[show Zl (Zg.drop 22) s=(4,⟨[43]⟩)from Yz h];exact X5) fun h=>by rw[show Zl (Zg.drop 22) s=Zl (Zg.drop 23) s from YB h];exact d9t s))
theorem d8d(s:List UInt8):At Zx 0 (Za Zn (Zk (Zl (Zg.drop 21) s))) Zo 0 49 [(0,.pv (.str s)),(10,.pv Yv),(11,.pv (.int .i64 21))] []:=b5j s (Zc ((⟨s⟩:Str),(⟨[62]⟩:Str),()) rfl (ZW (fun h=>by rw[show Zl (Zg.drop 21) s=(4,⟨[62]⟩)from Yz h];exact X5) fun h=>by rw[show Zl (Zg.drop 21) s=Zl (Zg.drop 22) s from YB h];exact d7a s))
theorem d3n(s:List UInt8):At Zx 0 (Za Zn (Zk (Zl (Zg.drop 20) s))) Zo 0 49 [(0,.pv (.str s)),(10,.pv Yv),(11,.pv (.int .i64 20))] []:=c2h s (Zc ((⟨s⟩:Str),(⟨[60]⟩:Str),()) rfl (ZW (fun h=>by rw[show Zl (Zg.drop 20) s=(4,⟨[60]⟩)from Yz h];exact X5) fun h=>by rw[show Zl (Zg.drop 20) s=Zl (Zg.drop 21) s from YB h];exact d8d s))
theorem d5g(s:List UInt8):At Zx 0 (Za Zn (Zk (Zl (Zg.drop 19) s))) Zo 0 49 [(0,.pv (.str s)),(10,.pv Yv),(11,.pv (.int .i64 19))] []:=b2n s (Zc ((⟨s⟩:Str),(⟨[61]⟩:Str),()) rfl (ZW (fun h=>by rw[show Zl (Zg.drop 19) s=(4,⟨[61]⟩)from Yz h];exact X5) fun h=>by rw[show Zl (Zg.drop 19) s=Zl (Zg.drop 20) s from YB h];exact d3n s))
theorem d8g(s:List UInt8):At Zx 0 (Za Zn (Zk (Zl (Zg.drop 18) s))) Zo 0 49 [(0,.pv (.str s)),(10,.pv Yv),(11,.pv (.int .i64 18))] []:=b2z s (Zc ((⟨s⟩:Str),(⟨[35]⟩:Str),()) rfl (ZW (fun h=>by rw[show Zl (Zg.drop 18) s=(4,⟨[35]⟩)from Yz h];exact X5) fun h=>by rw[show Zl (Zg.drop 18) s=Zl (Zg.drop 19) s from YB h];exact d5g s))
theorem d9n(s:List UInt8):At Zx 0 (Za Zn (Zk (Zl (Zg.drop 17) s))) Zo 0 49 [(0,.pv (.str s)),(10,.pv Yv),(11,.pv (.int .i64 17))] []:=b1u s (Zc ((⟨s⟩:Str),(⟨[64]⟩:Str),()) rfl (ZW (fun h=>by rw[show Zl (Zg.drop 17) s=(4,⟨[64]⟩)from Yz h];exact X5) fun h=>by rw[show Zl (Zg.drop 17) s=Zl (Zg.drop 18) s from YB h];exact d8g s))
theorem d7y(s:List UInt8):At Zx 0 (Za Zn (Zk (Zl (Zg.drop 16) s))) Zo 0 49 [(0,.pv (.str s)),(10,.pv Yv),(11,.pv (.int .i64 16))] []:=c3w s (Zc ((⟨s⟩:Str),(⟨[46]⟩:Str),()) rfl (ZW (fun h=>by rw[show Zl (Zg.drop 16) s=(4,⟨[46]⟩)from Yz h];exact X5) fun h=>by rw[show Zl (Zg.drop 16) s=Zl (Zg.drop 17) s from YB h];exact d9n s))
theorem d4o(s:List UInt8):At Zx 0 (Za Zn (Zk (Zl (Zg.drop 15) s))) Zo 0 49 [(0,.pv (.str s)),(10,.pv Yv),(11,.pv (.int .i64 15))] []:=b7j s (Zc ((⟨s⟩:Str),(⟨[58]⟩:Str),()) rfl (ZW (fun h=>by rw[show Zl (Zg.drop 15) s=(4,⟨[58]⟩)from Yz h];exact X5) fun h=>by rw[show Zl (Zg.drop 15) s=Zl (Zg.drop 16) s from YB h];exact d7y s))
theorem d9g(s:List UInt8):At Zx 0 (Za Zn (Zk (Zl (Zg.drop 14) s))) Zo 0 49 [(0,.pv (.str s)),(10,.pv Yv),(11,.pv (.int .i64 14))] []:=b6v s (Zc ((⟨s⟩:Str),(⟨[44]⟩:Str),()) rfl (ZW (fun h=>by rw[show Zl (Zg.drop 14) s=(4,⟨[44]⟩)from Yz h];exact X5) fun h=>by rw[show Zl (Zg.drop 14) s=Zl (Zg.drop 15) s from YB h];exact d4o s))
theorem d8y(s:List UInt8):At Zx 0 (Za Zn (Zk (Zl (Zg.drop 13) s))) Zo 0 49 [(0,.pv (.str s)),(10,.pv Yv),(11,.pv (.int .i64 13))] []:=b8l s (Zc ((⟨s⟩:Str),(⟨[125]⟩:Str),()) rfl (ZW (fun h=>by rw[show Zl (Zg.drop 13) s=(4,⟨[125]⟩)from Yz h];exact X5) fun h=>by rw[show Zl (Zg.drop 13) s=Zl (Zg.drop 14) s from YB h];exact d9g s))
theorem d6r(s:List UInt8):At Zx 0 (Za Zn (Zk (Zl (Zg.drop 12) s))) Zo 0 49 [(0,.pv (.str s)),(10,.pv Yv),(11,.pv (.int .i64 12))] []:=b9r s (Zc ((⟨s⟩:Str),(⟨[123]⟩:Str),()) rfl (ZW (fun h=>by rw[show Zl (Zg.drop 12) s=(4,⟨[123]⟩)from Yz h];exact X5) fun h=>by rw[show Zl (Zg.drop 12) s=Zl (Zg.drop 13) s from YB h];exact d8y s))
theorem d9x(s:List UInt8):At Zx 0 (Za Zn (Zk (Zl (Zg.drop 11) s))) Zo 0 49 [(0,.pv (.str s)),(10,.pv Yv),(11,.pv (.int .i64 11))] []:=b5k s (Zc ((⟨s⟩:Str),(⟨[93]⟩:Str),()) rfl (ZW (fun h=>by rw[show Zl (Zg.drop 11) s=(4,⟨[93]⟩)from Yz h];exact X5) fun h=>by rw[show Zl (Zg.drop 11) s=Zl (Zg.drop 12) s from YB h];exact d6r s))
theorem d4q(s:List UInt8):At Zx 0 (Za Zn (Zk (Zl (Zg.drop 10) s))) Zo 0 49 [(0,.pv (.str s)),(10,.pv Yv),(11,.pv (.int .i64 10))] []:=b8c s (Zc ((⟨s⟩:Str),(⟨[91]⟩:Str),()) rfl (ZW (fun h=>by rw[show Zl (Zg.drop 10) s=(4,⟨[91]⟩)from Yz h];exact X5) fun h=>by rw[show Zl (Zg.drop 10) s=Zl (Zg.drop 11) s from YB h];exact d9x s))
theorem e4h(s:List UInt8):At Zx 0 (Za Zn (Zk (Zl (Zg.drop 9) s))) Zo 0 49 [(0,.pv (.str s)),(10,.pv Yv),(11,.pv (.int .i64 9))] []:=b6k s (Zc ((⟨s⟩:Str),(⟨[41]⟩:Str),()) rfl (ZW (fun h=>by rw[show Zl (Zg.drop 9) s=(4,⟨[41]⟩)from Yz h];exact X5) fun h=>by rw[show Zl (Zg.drop 9) s=Zl (Zg.drop 10) s from YB h];exact d4q s))
theorem e2i(s:List UInt8):At Zx 0 (Za Zn (Zk (Zl (Zg.drop 8) s))) Zo 0 49 [(0,.pv (.str s)),(10,.pv Yv),(11,.pv (.int .i64 8))] []:=b8p s (Zc ((⟨s⟩:Str),(⟨[40]⟩:Str),()) rfl (ZW (fun h=>by rw[show Zl (Zg.drop 8) s=(4,⟨[40]⟩)from Yz h];exact X5) fun h=>by rw[show Zl (Zg.drop 8) s=Zl (Zg.drop 9) s from YB h];exact e4h s))
theorem e0l(s:List UInt8):At Zx 0 (Za Zn (Zk (Zl (Zg.drop 7) s))) Zo 0 49 [(0,.pv (.str s)),(10,.pv Yv),(11,.pv (.int .i64 7))] []:=c2g s (Zc ((⟨s⟩:Str),(⟨[124,124]⟩:Str),()) rfl (ZW (fun h=>by rw[show Zl (Zg.drop 7) s=(4,⟨[124,124]⟩)from Yz h];exact X5) fun h=>by rw[show Zl (Zg.drop 7) s=Zl (Zg.drop 8) s from YB h];exact e2i s))
theorem e1q(s:List UInt8):At Zx 0 (Za Zn (Zk (Zl (Zg.drop 6) s))) Zo 0 49 [(0,.pv (.str s)),(10,.pv Yv),(11,.pv (.int .i64 6))] []:=c0p s (Zc ((⟨s⟩:Str),(⟨[38,38]⟩:Str),()) rfl (ZW (fun h=>by rw[show Zl (Zg.drop 6) s=(4,⟨[38,38]⟩)from Yz h];exact X5) fun h=>by rw[show Zl (Zg.drop 6) s=Zl (Zg.drop 7) s from YB h];exact e0l s))
theorem e3x(s:List UInt8):At Zx 0 (Za Zn (Zk (Zl (Zg.drop 5) s))) Zo 0 49 [(0,.pv (.str s)),(10,.pv Yv),(11,.pv (.int .i64 5))] []:=c2l s (Zc ((⟨s⟩:Str),(⟨[45,62]⟩:Str),()) rfl (ZW (fun h=>by rw[show Zl (Zg.drop 5) s=(4,⟨[45,62]⟩)from Yz h];exact X5) fun h=>by rw[show Zl (Zg.drop 5) s=Zl (Zg.drop 6) s from YB h];exact e1q s))
theorem e1w(s:List UInt8):At Zx 0 (Za Zn (Zk (Zl (Zg.drop 4) s))) Zo 0 49 [(0,.pv (.str s)),(10,.pv Yv),(11,.pv (.int .i64 4))] []:=b1k s (Zc ((⟨s⟩:Str),(⟨[62,61]⟩:Str),()) rfl (ZW (fun h=>by rw[show Zl (Zg.drop 4) s=(4,⟨[62,61]⟩)from Yz h];exact X5) fun h=>by rw[show Zl (Zg.drop 4) s=Zl (Zg.drop 5) s from YB h];exact e3x s))
theorem e4u(s:List UInt8):At Zx 0 (Za Zn (Zk (Zl (Zg.drop 3) s))) Zo 0 49 [(0,.pv (.str s)),(10,.pv Yv),(11,.pv (.int .i64 3))] []:=b8w s (Zc ((⟨s⟩:Str),(⟨[60,61]⟩:Str),()) rfl (ZW (fun h=>by rw[show Zl (Zg.drop 3) s=(4,⟨[60,61]⟩)from Yz h];exact X5) fun h=>by rw[show Zl (Zg.drop 3) s=Zl (Zg.drop 4) s from YB h];exact e1w s))
theorem e2y(s:List UInt8):At Zx 0 (Za Zn (Zk (Zl (Zg.drop 2) s))) Zo 0 49 [(0,.pv (.str s)),(10,.pv Yv),(11,.pv (.int .i64 2))] []:=b5p s (Zc ((⟨s⟩:Str),(⟨[33,61]⟩:Str),()) rfl (ZW (fun h=>by rw[show Zl (Zg.drop 2) s=(4,⟨[33,61]⟩)from Yz h];exact X5) fun h=>by rw[show Zl (Zg.drop 2) s=Zl (Zg.drop 3) s from YB h];exact e4u s))
theorem e4j(s:List UInt8):At Zx 0 (Za Zn (Zk (Zl (Zg.drop 1) s))) Zo 0 49 [(0,.pv (.str s)),(10,.pv Yv),(11,.pv (.int .i64 1))] []:=b1m s (Zc ((⟨s⟩:Str),(⟨[61,61]⟩:Str),()) rfl (ZW (fun h=>by rw[show Zl (Zg.drop 1) s=(4,⟨[61,61]⟩)from Yz h];exact X5) fun h=>by rw[show Zl (Zg.drop 1) s=Zl (Zg.drop 2) s from YB h];exact e2y s))
theorem e3o(s:List UInt8):At Zx 0 (Za Zn (Zk (Zl (Zg.drop 0) s))) Zo 0 49 [(0,.pv (.str s)),(10,.pv Yv),(11,.pv (.int .i64 0))] []:=b5g s (Zc ((⟨s⟩:Str),(⟨[46,46]⟩:Str),()) rfl (ZW (fun h=>by rw[show Zl (Zg.drop 0) s=(4,⟨[46,46]⟩)from Yz h];exact X5) fun h=>by rw[show Zl (Zg.drop 0) s=Zl (Zg.drop 1) s from YB h];exact e4j s))
theorem c8h: ∀ x:Str×Unit,decide (x.1.s.length<=1048576)=true->Zb Zx 0 (Za Zn (Zk (ZB x.1))) Zo [] (Yh d6k (encL x)):=by
 rintro⟨⟨s⟩,⟨⟩⟩ hs
 have hs:s.length<=1048576:=by simpa using hs
 show Zb Zx 0 (Za Zn (Zk (ZB ⟨s⟩))) Zo [] _
 cases s with
 | nil=>exact d2o [] (YP rfl X5)
 | cons c r=>
  have e:=BM ⟨c::r⟩ true
  have g:=BM ⟨c::r⟩ false
  unfold ZB
  dsimp only
  refine d2o (c::r) (Y1 (by simp) ⟨by simp,⟨Zf (c,()) rfl rfl,?_⟩⟩)
  have b : ∀ {P:Bool->Prop} {F:UInt8->Bool},P (F c)-> ∃ y,AV.pv (Zm (fun x:UInt8×Unit=>F x.1) [.int .u8 ((List.getD (c::r) (Int.toNat 0) 0).toNat:Int)])=AV.pv (enc y)∧P y:=fun {P F} h=>Zc (c,()) rfl h
  refine b (ZW (fun h=>⟨Zf ((⟨c::r⟩:Str),true,()) rfl (decide_eq_true hs),Zc ((⟨c::r⟩:Str),true,()) rfl (Zc (Yr ⟨c::r⟩ true,()) rfl (ZW (fun h2=> ?_) fun h2=>⟨Zf (Yr ⟨c::r⟩ true,()) rfl (decide_eq_true (Nat.le_trans e hs)),Zc (Yr ⟨c::r⟩ true,()) rfl (ZW (fun h3=> ?_) fun h3=> ?_)⟩))⟩) fun h=>⟨by simp,⟨Zf (c,()) rfl rfl,?_⟩⟩)
  ·rw[if_pos h,if_pos h2];exact X5
  ·rw[if_pos h,if_neg (by rw[h2];decide),if_pos h3];exact X5
  ·rw[if_pos h,if_neg (by rw[h2];decide),if_neg (by rw[h3];decide)];exact X5
  rw[if_neg (by rw[h];decide)]
  refine b (ZW (fun a=>⟨Zf ((⟨c::r⟩:Str),false,()) rfl (decide_eq_true hs),Zc ((⟨c::r⟩:Str),false,()) rfl ⟨Zf (Yr ⟨c::r⟩ false,()) rfl (decide_eq_true (Nat.le_trans g hs)),Zc (Yr ⟨c::r⟩ false,()) rfl (ZW (fun h2=> ?_) fun h2=> ?_)⟩⟩) fun a=> ?_)
  ·rw[if_pos a,if_pos h2];exact X5
  ·rw[if_pos a,if_neg (by rw[h2];decide)];exact X5
  ·rw[if_neg (by rw[a];decide)]
   exact e3o (c::r)
theorem b4h(s:List UInt8)(hs:s.length<=1048576)(R:Nat): ∀ (f n:Nat),n<=s.length->s.length<n+f->R=ZF f s n ->
  At KG 0 (Za Uy (Zk ((R:Nat):Int))) Uq 0 46 [(0,.pv (.str s)),(3,.pv (.int .i64 (n:Int)))] []:=by
 intro f
 induction f with
 | zero=>intro n h1 h2;omega
 | succ f ih=>
  intro n h1 h2 a
  have u:List.drop n (List.take s.length s)=s.drop n:=by rw[List.take_length]
  have wr:IntKind.wrap IntKind.i64 ((n:Int)+1)=((n+1:Nat):Int):=by rw[Xi (by omega) (by omega)];omega
  rw[ZF]at a
  refine d5e s n ?_
  rw[Int.toNat_natCast,u,wr]
  refine Y4 (fun r=> ?_) fun r=> ?_
  ·have r:n<s.length:=by omega
   have hi:(decide (0<=(n:Int))&&decide (n<s.length))=true:=by simp;omega
   have j:(decide (0<=(n:Int))&&true&&decide (n<=s.length)&&decide (s.length<=s.length))=true:=by simp;omega
   rw[if_neg (by omega)]at a
   have g : ∀ k:UInt8,((s.getD n 0).toNat:Int)=(k.toNat:Int) ↔ s.getD n 0=k:=fun k=>⟨fun h=>UInt8.toNat_inj.1 (by omega),fun h=>by rw[h]⟩
   have go:(s.getD n 0=32∨s.getD n 0=9∨s.getD n 0=10)->At KG 0 (Za Uy (Zk ((R:Nat):Int))) Uq 0 46 [(0,.pv (.str s)),(3,.pv (.int .i64 ((n+1:Nat):Int)))] []:=fun h=>by
    rw[if_pos h]at a
    exact ih (n+1) (by omega) (by omega) a
   refine⟨hi,Z7 (fun q=>go (Or.inl ((g 32).1 q))) fun A=>⟨hi,Z7 (fun q=>go (Or.inr (Or.inl ((g 9).1 q)))) fun y=>⟨hi,Z7 (fun q=>go (Or.inr (Or.inr ((g 10).1 q)))) fun z=>⟨j,?_⟩⟩⟩⟩
   have l : ¬ (s.getD n 0=32∨s.getD n 0=9∨s.getD n 0=10):=fun h=>by
    rcases h with h|h|h
    ·exact A ((g 32).2 h)
    ·exact y ((g 9).2 h)
    ·exact z ((g 10).2 h)
   rw[if_neg l]at a
   have hb:=Oc 10 (s.drop n)
   rw[List.length_drop]at hb
   have hd:(s.drop n).length<=1048576:=by rw[List.length_drop];omega
   refine Zc ((⟨s.drop n⟩:Str),(⟨[47,47]⟩:Str),()) rfl (ZW (fun b=>⟨j,Zf ((⟨s.drop n⟩:Str),(10:UInt8),()) rfl (decide_eq_true hd),Zc ((⟨s.drop n⟩:Str),(10:UInt8),()) rfl (Y4 (fun e=> ?_) fun e=> ?_)⟩) fun b=> ?_)
   ·have e:Lib.indexByte (s.drop n) 10<0:=e
    have b:List.isPrefixOf [47,47] (s.drop n)=true:=b
    rw[if_pos b,if_pos e]at a
    rw[a];exact Wq rfl
   ·have e : ¬ Lib.indexByte (s.drop n) 10<0:=e
    have b:List.isPrefixOf [47,47] (s.drop n)=true:=b
    rw[if_pos b,if_neg e]at a
    have hg:0<Lib.indexByte (s.drop n) 10:=b9f (by
     rw[List.getD_eq_getElem?_getD,List.getElem?_drop,Nat.add_zero,<- List.getD_eq_getElem?_getD]
     exact fun h=>l (Or.inr (Or.inr h))) (by intro h;rw[h]at b;exact absurd b (by decide)) (by omega)
    show At KG 0 (Za Uy (Zk ((R:Nat):Int))) Uq 0 46 [(0,.pv (.str s)),(3,.pv (.int .i64 (IntKind.wrap IntKind.i64 ((n:Int)+Lib.indexByte (s.drop n) 10))))] []
    rw[show IntKind.wrap IntKind.i64 ((n:Int)+Lib.indexByte (s.drop n) 10)=((n+(Lib.indexByte (s.drop n) 10).toNat:Nat):Int) by rw[Xi (by omega) (by omega)];omega]
    exact ih _ (by omega) (by omega) a
   ·have b:List.isPrefixOf [47,47] (s.drop n)=false:=b
    rw[if_neg (by rw[b];decide)]at a
    rw[a];exact Wq rfl
  ·rw[if_pos (by omega)]at a
   rw[a];exact Wq rfl
theorem c7h: ∀ x:Str×Unit,decide (x.1.s.length<=1048576)=true->Zb KG 0 (Za Uy (Zk (VZ x.1))) Uq [] (Yh d9d (encL x)):=by
 rintro⟨⟨s⟩,⟨⟩⟩ hs
 have hs:s.length<=1048576:=by simpa using hs
 exact e3w s (b4h s hs _ (s.length+1) 0 (Nat.zero_le _) (by omega) rfl)
theorem P9{c:UInt8}{r:List UInt8}{b:Bool}(h:digB c=true∨(b=true∧lowB c=true)):1<=(Yr ⟨c::r⟩ b).s.length:=by
 unfold Yr
 dsimp only
 rw[List.takeWhile_cons_of_pos (by rcases h with h|⟨h1,h2⟩;rw[h];rfl;rw[h1,h2];simp)]
 simp
theorem Lv: ∀ {l:List (List UInt8)} {s:List UInt8},(∀ x∈l,1<=x.length)->(Zl l s).1≠0->1<=(Zl l s).2.s.length
 | [],s,_,h=>absurd rfl h
 | x::l,s,hl,h=>by
  rw[Zl]at h ⊢
  split
  ·exact hl x (List.mem_cons_self ..)
  ·rename_i h1
   rw[if_neg h1]at h
   exact Lv (fun y a=>hl y (List.mem_cons_of_mem _ a)) h
theorem TJ{s:Str}(h:(ZB s).1≠0):1<=(ZB s).2.s.length:=by
 obtain⟨s⟩:=s
 cases s with
 | nil=>exact absurd rfl h
 | cons c r=>
  unfold ZB at h ⊢
  dsimp only at h ⊢
  split at h
  ·rename_i h1
   rw[if_pos h1]
   split at h
   ·rename_i h2;rw[if_pos h2];exact P9 (Or.inr ⟨rfl,h1⟩)
   ·rename_i h2
    split at h
    ·rename_i h3;rw[if_neg h2,if_pos h3];exact P9 (Or.inr ⟨rfl,h1⟩)
    ·exact absurd rfl h
  ·rename_i h1
   rw[if_neg h1]
   split at h
   ·rename_i h2
    rw[if_pos h2]
    split at h
    ·rename_i h3;rw[if_pos h3];exact P9 (Or.inl h2)
    ·exact absurd rfl h
   ·rename_i h2
    rw[if_neg h2]
    exact Lv (by decide) h
theorem M7(l:List UInt8)(c:UInt8):Lib.countByte l c<=l.length:=List.count_le_length
theorem SF{l:List Tok}{a b:Int}{p:PV}(h:Zk l p):Zk (⟨l,a,b⟩:R3 (List Tok) Int Int) (.tup [p,.int .i64 a,.int .i64 b]):=by
 refine⟨?_,?_⟩
 ·show(is (List Tok) p&&true&&true)=true
  rw[h.1];rfl
 ·show(⟨dec p,a,b⟩:R3 (List Tok) Int Int)=⟨l,a,b⟩
  rw[h.2]
theorem KR(t:List UInt8):VZ ⟨t⟩=((ZF (t.length+1) t 0:Nat):Int):=rfl
theorem e1z(s:List UInt8)(hs:s.length<=20000)(R:R3 (List Tok) Int Int): ∀ (f i:Nat) (ln:Int) (o:List Tok) (L:Nat),i<=s.length->s.length<i+f->1<=ln->ln<=i+1->L=o.length->L<=i->R=Gn f s i ln o ->
  At Jo 0 (Za U5 (Zk R)) U3 0 59 [(0,.pv (.str s)),(2,.row 0 L 0 L),(3,.pv (.int .i64 (i:Int))),(5,.pv (.int .i64 ln))] [.obj (.row false 78 4 (o.map enc))]:=by
 intro f
 induction f with
 | zero=>intro i ln o L h1 h2;omega
 | succ f ih=>
  intro i ln o L h1 h2 hn hm u hi a
  have C:List.drop i (List.take s.length s)=s.drop i:=by rw[List.take_length]
  have hb:=Kj ((s.drop i).length+1) (s.drop i) 0 (Nat.zero_le _)
  rw[List.length_drop]at hb
  rw[Gn]at a
  try dsimp only at a
  rw[KR,Int.toNat_natCast,List.length_drop]at a
  generalize F:ZF (s.length - i+1) (s.drop i) 0=k at a hb
  have A:VZ ⟨s.drop i⟩=(k:Int):=by rw[KR,List.length_drop,F]
  have H:IntKind.wrap IntKind.i64 ((i:Int)+(k:Int))=((i+k:Nat):Int):=by rw[Xi (by omega) (by omega)];omega
  have B:List.drop i (List.take (i+k) s)=(s.drop i).take k:=by rw[List.drop_take,Nat.add_sub_cancel_left]
  have y:List.drop (i+k) (List.take s.length s)=s.drop (i+k):=by rw[List.take_length]
  have hc:Lib.countByte ((s.drop i).take k) 10<=k:=Nat.le_trans (M7 _ _) (by rw[List.length_take];omega)
  have l:(s.drop i).length<=1048576:=by rw[List.length_drop];omega
  have g:((s.drop i).take k).length<=1048576:=by rw[List.length_take];omega
  have h:(s.drop (i+k)).length<=1048576:=by rw[List.length_drop];omega
  have e:=KO ⟨s.drop (i+k)⟩
  have b:= @TJ ⟨s.drop (i+k)⟩
  rw[List.length_drop]at e
  generalize z:Lib.countByte ((s.drop i).take k) 10=c at a hc
  have D:IntKind.wrap IntKind.i64 (ln+(c:Int))=ln+(c:Int):=Xi (by omega) (by omega)
  refine d0c s (i:Int) ln o L ⟨by simp;omega,?_⟩
  rw[Int.toNat_natCast,C]
  refine⟨Zf ((⟨s.drop i⟩:Str),()) rfl (decide_eq_true l),Zc ((⟨s.drop i⟩:Str),()) rfl ?_⟩
  try dsimp only
  rw[A,H,Int.toNat_natCast,B,y]
  refine⟨by simp;omega,Zf ((⟨(s.drop i).take k⟩:Str),(⟨[10]⟩:Str),()) rfl (by rw[decide_eq_true g];rfl),Zc ((⟨(s.drop i).take k⟩:Str),(⟨[10]⟩:Str),()) rfl ?_⟩
  try dsimp only
  rw[z,D]
  refine Z7 (fun q=> ?_) fun q=>⟨by simp;omega,Zf ((⟨s.drop (i+k)⟩:Str),()) rfl (decide_eq_true h),Zc ((⟨s.drop (i+k)⟩:Str),()) rfl ?_⟩
  ·rw[if_pos (by omega)]at a
   subst a
   exact⟨by simp[u],by rw[e2q o u];exact SF (ZX rfl)⟩
  rw[if_neg (by omega)]at a
  try dsimp only
  generalize ZB ⟨s.drop (i+k)⟩=w at a e b
  obtain⟨wk,⟨j⟩⟩:=w
  refine Z7 (fun r=> ?_) fun r=> ?_
  ·rw[if_pos r]at a
   subst a
   exact SF U9
  rw[if_neg r]at a
  have b:=b r
  dsimp only at e b a ⊢
  rw[show IntKind.wrap IntKind.i64 (((i+k:Nat):Int)+(j.length:Int))=((i+k+j.length:Nat):Int) by rw[Xi (by omega) (by omega)];omega]
  refine Z7 (fun E=> ?_) fun E=>⟨by simp[u];omega,?_⟩
  ·rw[if_pos (by omega)]at a
   subst a
   exact SF U9
  rw[if_neg (by omega)]at a
  rw[show List.map (enc:Tok->PV) o++List.drop 0 (List.take 1 [PV.agg [enc wk,enc (⟨j⟩:Str),PV.int .i64 (ln+(c:Int)),PV.int .i64 ((i+k:Nat):Int)]])=(o++[(⟨wk,⟨j⟩,ln+(c:Int),((i+k:Nat):Int)⟩:Tok)]).map enc from e4d o (⟨wk,⟨j⟩,ln+(c:Int),((i+k:Nat):Int)⟩:Tok)]
  exact ih _ _ _ _ (by omega) (by omega) (by omega) (by omega) (by simp[u]) (by simp;omega) a
theorem e5c(s:List UInt8)(hs:s.length<=20000)(R:R3 (List Tok) Int Int)(f i:Nat)(ln:Int)(h1:i<=s.length)(h2:s.length<i+(f+1))(hn:1<=ln)(hm:ln<=i+1)(a:R=Gn (f+1) s i ln []):
  At Jo 0 (Za U5 (Zk R)) U3 0 59 [(0,.pv (.str s)),(2,.pv (.sl 0 true [])),(3,.pv (.int .i64 (i:Int))),(5,.pv (.int .i64 ln))] []:=by
 have B:List.drop i (List.take s.length s)=s.drop i:=by rw[List.take_length]
 have hb:=Kj ((s.drop i).length+1) (s.drop i) 0 (Nat.zero_le _)
 rw[List.length_drop]at hb
 rw[Gn]at a
 try dsimp only at a
 rw[KR,Int.toNat_natCast,List.length_drop]at a
 generalize D:ZF (s.length - i+1) (s.drop i) 0=k at a hb
 have y:VZ ⟨s.drop i⟩=(k:Int):=by rw[KR,List.length_drop,D]
 have E:IntKind.wrap IntKind.i64 ((i:Int)+(k:Int))=((i+k:Nat):Int):=by rw[Xi (by omega) (by omega)];omega
 have z:List.drop i (List.take (i+k) s)=(s.drop i).take k:=by rw[List.drop_take,Nat.add_sub_cancel_left]
 have u:List.drop (i+k) (List.take s.length s)=s.drop (i+k):=by rw[List.take_length]
 have hc:Lib.countByte ((s.drop i).take k) 10<=k:=Nat.le_trans (M7 _ _) (by rw[List.length_take];omega)
 have j:(s.drop i).length<=1048576:=by rw[List.length_drop];omega
 have g:((s.drop i).take k).length<=1048576:=by rw[List.length_take];omega
 have h:(s.drop (i+k)).length<=1048576:=by rw[List.length_drop];omega
 have e:=KO ⟨s.drop (i+k)⟩
 have b:= @TJ ⟨s.drop (i+k)⟩
 rw[List.length_drop]at e
 generalize A:Lib.countByte ((s.drop i).take k) 10=c at a hc
 have C:IntKind.wrap IntKind.i64 (ln+(c:Int))=ln+(c:Int):=Xi (by omega) (by omega)
 refine c6u s (i:Int) ln ⟨by simp;omega,?_⟩
 rw[Int.toNat_natCast,B]
 refine⟨Zf ((⟨s.drop i⟩:Str),()) rfl (decide_eq_true j),Zc ((⟨s.drop i⟩:Str),()) rfl ?_⟩
 try dsimp only
 rw[y,E,Int.toNat_natCast,z,u]
 refine⟨by simp;omega,Zf ((⟨(s.drop i).take k⟩:Str),(⟨[10]⟩:Str),()) rfl (by rw[decide_eq_true g];rfl),Zc ((⟨(s.drop i).take k⟩:Str),(⟨[10]⟩:Str),()) rfl ?_⟩
 try dsimp only
 rw[A,C]
 refine Z7 (fun q=> ?_) fun q=>⟨by simp;omega,Zf ((⟨s.drop (i+k)⟩:Str),()) rfl (decide_eq_true h),Zc ((⟨s.drop (i+k)⟩:Str),()) rfl ?_⟩
 ·rw[if_pos (by omega)]at a
  subst a
  exact SF U9
 rw[if_neg (by omega)]at a
 try dsimp only
 generalize ZB ⟨s.drop (i+k)⟩=w at a e b
 obtain⟨wk,⟨l⟩⟩:=w
 refine Z7 (fun r=> ?_) fun r=> ?_
 ·rw[if_pos r]at a
  subst a
  exact SF U9
 rw[if_neg r]at a
 have b:=b r
 dsimp only at e b a ⊢
 rw[show IntKind.wrap IntKind.i64 (((i+k:Nat):Int)+(l.length:Int))=((i+k+l.length:Nat):Int) by rw[Xi (by omega) (by omega)];omega]
 rw[if_neg (by simp)]at a
 exact e1z s hs R f (i+k+l.length) (ln+(c:Int)) [⟨wk,⟨l⟩,ln+(c:Int),((i+k:Nat):Int)⟩] 1 (by omega) (by omega) (by omega) (by omega) rfl (by omega) a
theorem c5a: ∀ x:Str×Unit,decide (x.1.s.length<=1048576)=true->Zb Jo 0 (Za U5 (Zk (Wj x.1))) U3 [] (Yh d7x (encL x)):=by
 rintro⟨⟨s⟩,⟨⟩⟩ _
 show Zb Jo 0 (Za U5 (Zk (Wj ⟨s⟩))) U3 [] _
 unfold Wj
 refine e2a s (Y4 (fun h=> ?_) fun h=> ?_)
 ·rw[if_pos (show 20000<s.length by omega)]
  exact SF U9
 ·rw[if_neg (show ¬ 20000<s.length by omega)]
  exact e5c s (by omega) _ s.length 0 1 (Nat.zero_le _) (by omega) (by omega) (by omega) rfl
def PS.endp(s:PS):PS:=if s.i<s.l.length then s.fail else s
def Re(s:PS)(_:Unit):Unit×PS:=((),s.endp)
def RF(s:List UInt8):PS:=⟨(Wj ⟨s⟩).a,0,s.length,false,0,false⟩
def U1:List AV->List AObj->Bool
 | [.pv (.str s)],[]=>decide (s.length<=1048576)
 | _,_=>false
def PK:List AV->List AObj->AV×List AObj×List AObj
 | [.pv (.str s)],[]=>(.tup [.ptr 0 0,.pv (.int .i64 (Wj ⟨s⟩).b),.pv (.int .i64 (Wj ⟨s⟩).c)],[],[ZJ (RF s)])
 | _,_=>default
def Vh(s:Str):R3 Lin Int Int:=
 if (Wj s).c≠0 then⟨⟨0,[]⟩,(Wj s).b,(Wj s).c⟩
 else if (RF s.s).linear.2.endp.bad then⟨⟨0,[]⟩,(RF s.s).linear.2.endp.wr,6⟩
 else if (RF s.s).linear.2.endp.big then⟨⟨0,[]⟩,0,3⟩
 else if Zd (RF s.s).linear.1 then⟨(RF s.s).linear.1,0,0⟩
 else⟨⟨0,[]⟩,0,3⟩
abbrev d3v(args:List AV)(os:List AObj):=UF (ZH) (Xb) ([]) ([]) (fun(s:PS) (x:Unit)=>ZV s) (Jl) args os
abbrev d7w(args:List AV)(os:List AObj):=UF (ZH) (Xb) ([]) ([]) (fun(s:PS) (x:Unit)=>ZV s) (Re) args os
abbrev d4j(args:List AV)(os:List AObj):=UF (ZH) (Xb) ([]) ([]) (fun(s:PS) (x:Unit)=>ZV s) (a6u) args os
noncomputable def a1s:IC:=XG Proofs.Tryz.f22
def Ed:List IRes:=[]
abbrev d4k:Nat:=14
noncomputable def b6x:ZC:=YG [(50,.own (XY ZH [] [] (fun(s:PS) (_:Unit)=>ZV s)) (WF Xb [] [] Jl))]
theorem e3z{G:AV×List AObj×List AObj->Prop}(s:PS)(h:if (decide ((↑(PS.i s):Int)<(↑(List.length (List.map enc (PS.l s))):Int)))=true then d3v [(.ptr 0 0)] [(ZJ s)] fun y0 a=>(G (((.pv (.tup [])),([(ZJ a)],[]))))else(G (((.pv (.tup [])),([(ZJ s)],[]))))):Zb b6x 1 (Zz 1 Ed G) a1s [] (Ya 14 [.ptr 0 0] [ZJ s]):=Zb.tf (dm [dv Unit,dO PS] 11 0x65100442) h
noncomputable def R4:IC:=XG Proofs.Tryz.f20
def RX:List IRes:=[(.tmp 2),(.tmp 3),(.tmp 4)]
abbrev c0e:Nat:=21
noncomputable def a3m:ZC:=YG [(48,.pure (preT (fun x:Str×Unit=>decide (x.1.s.length<=1048576))) (Zm (fun x:Str×Unit=>Wj x.1)))]
theorem e5h{G:AV×List AObj×List AObj->Prop}(s:List UInt8)(h:(Go.Pl.preT (fun(x:Str×Unit)=>decide (List.length (Str.s x.1)<=1048576)) [(.str s)])=true∧(∃ e:R3 (List Tok) Int Int,AV.pv (Zm (fun(x:Str×Unit)=>Wj x.1) [(.str s)])=AV.pv (enc e)∧(G (((.tup [(.ptr 0 0),(.pv (.int .i64 (R3.b e))),(.pv (.int .i64 (R3.c e)))]),([],[(.box [(.pv (.sl 4 false (List.map enc (R3.a e)))),(.pv (.int .i64 0)),(.pv (.int .i64 (↑(List.length s):Int))),(.pv (.bool false)),(.pv (.int .i64 0)),(.pv (.bool false))])])))))):Zb a3m 0 (Zv 0 RX G) R4 [] (Ya 21 [.pv (.str s)] []):=Zb.to (.req (.abs (R3 (List Tok) Int Int) (fun g=>AV.pv (enc g)) (.nil))) h
noncomputable def a0t:IC:=XG Proofs.Tryz.f14
def a0v:List IRes:=[(.cell true 2 2),(.tmp 3),(.tmp 4)]
abbrev d4i:Nat:=43
noncomputable def b8q:ZC:=YG [(20,.own U1 PK),(42,.own (XY ZH [] [] (fun(s:PS) (_:Unit)=>ZV s)) (WF Xb [] [] a6u)),(22,.own (XY ZH [] [] (fun(s:PS) (_:Unit)=>ZV s)) (WF Xb [] [] Re)),(43,.pure (preT (fun x:Lin×Unit=>Zp x.1)) (Zm (fun x:Lin×Unit=>Zd x.1)))]
theorem e2t{G:PV->Prop}(s:List UInt8)(h:(U1 [(.pv (.str s))] [])=true∧(if (R3.c (Wj (Str.mk s)) != 0)=true then G ((.tup [(.agg [(.int .i64 0),(.sl 0 true [])]),(.int .i64 (R3.b (Wj (Str.mk s)))),(.int .i64 (R3.c (Wj (Str.mk s))))]))else(d4j [(.ptr 0 0)] [(.box [(.pv (.sl 4 false (List.map enc (PS.l (RF s))))),(.pv (.int .i64 (↑(PS.i (RF s)):Int))),(.pv (.int .i64 (PS.sz (RF s)))),(.pv (.bool false)),(.pv (.int .i64 (PS.wr (RF s)))),(.pv (.bool false))])] fun a j=>(d7w [(.ptr 0 0)] [(ZJ j)] fun y1 e=>(if (PS.bad e)=true then G ((.tup [(.agg [(.int .i64 0),(.sl 0 true [])]),(.int .i64 (PS.wr e)),(.int .i64 6)]))else(if (PS.big e)=true then G ((.tup [(.agg [(.int .i64 0),(.sl 0 true [])]),(.int .i64 0),(.int .i64 3)]))else((Go.Pl.preT (fun(x:Lin×Unit)=>Zp x.1) [(.agg [(.int .i64 a.k),(.sl 2 false (List.map enc a.t))])])=true∧(∃ g:Bool,AV.pv (Zm (fun(x:Lin×Unit)=>Zd x.1) [(.agg [(.int .i64 a.k),(.sl 2 false (List.map enc a.t))])])=AV.pv (enc g)∧(if (!g)=true then G ((.tup [(.agg [(.int .i64 0),(.sl 0 true [])]),(.int .i64 0),(.int .i64 3)]))else(G ((.tup [(.agg [(.int .i64 a.k),(.sl 2 false (List.map enc a.t))]),(.int .i64 0),(.int .i64 0)])))))))))))):Zb b8q 0 (Za a0v G) a0t [] (Yh 43 [.str s]):=Zb.tp (dm [dv Lin,dO PS,dv Unit,dv Bool] 40 0x14228120222200540001467165100014231) h
end Go.Pl
namespace Go.Pl
open Go.RowKit
def a6w(t:Tok):Bool:=(decide (t.k≠1)||nameI t.t.s)&&((decide (t.k≠3)||(Yx t.t).2)&&((decide (t.t≠⟨[46,46]⟩)||decide (t.k=4))&&decide (t.t.s.length<=65536)))
def D9(l:List Tok):Bool:=l.all a6w
theorem Az{c:UInt8}{r:List UInt8}{b:Bool}(h:digB c=true∨lowB c=true):Yr ⟨c::r⟩ b≠⟨[46,46]⟩:=by
 intro e
 have e:(c::r).takeWhile (fun c=>digB c||(b&&lowB c))=[46,46]:=congrArg Str.s e
 rw[List.takeWhile_cons]at e
 split at e
 ·have a:c=46:=(List.cons.inj e).1
  subst a
  exact absurd h (by decide)
 ·cases e
theorem Rb: ∀ (l:List (List UInt8)) (s:List UInt8),(Zl l s).1=4∨Zl l s=(0,⟨[]⟩)
 | [],s=>Or.inr rfl
 | x::l,s=>by
  rw[Zl]
  split
  ·exact Or.inl rfl
  ·exact Rb l s
theorem b1x{s:Str}{k:Int}{w:Str}(h:ZB s=(k,w))(b:k≠0)(hs:s.s.length<=65536)(ln o:Int):a6w ⟨k,w,ln,o⟩=true:=by
 have g:w.s.length<=65536:=by
  have:=KO s
  rw[h]at this
  exact Nat.le_trans this hs
 have a:(k=1->nameI w.s=true)∧(k=3->(Yx w).2=true)∧(w=⟨[46,46]⟩->k=4):=by
  obtain⟨s⟩:=s
  cases s with
  | nil=>exact absurd (congrArg Prod.fst h).symm b
  | cons c r=>
   unfold ZB at h
   dsimp only at h
   split at h
   ·rename_i h1
    split at h
    ·obtain⟨rfl,rfl⟩:=Prod.mk.inj h
     exact⟨fun e=>absurd e (by decide),fun e=>absurd e (by decide),fun e=>absurd e (Az (Or.inr h1))⟩
    ·split at h
     ·obtain⟨rfl,rfl⟩:=Prod.mk.inj h
      exact⟨fun _=> ‹_›,fun e=>absurd e (by decide),fun e=>absurd e (Az (Or.inr h1))⟩
     ·exact absurd (congrArg Prod.fst h).symm b
   ·split at h
    ·rename_i h2
     split at h
     ·obtain⟨rfl,rfl⟩:=Prod.mk.inj h
      exact⟨fun e=>absurd e (by decide),fun _=> ‹_›,fun e=>absurd e (Az (Or.inl h2))⟩
     ·exact absurd (congrArg Prod.fst h).symm b
    ·rcases Rb Zg (c::r)with h3|h3
     ·rw[h]at h3
      have h3:k=4:=h3
      subst h3
      exact⟨fun e=>absurd e (by decide),fun e=>absurd e (by decide),fun _=>rfl⟩
     ·rw[h]at h3
      exact absurd (congrArg Prod.fst h3) b
 unfold a6w
 dsimp only
 simp only[Bool.and_eq_true,Bool.or_eq_true,decide_eq_true_eq]
 refine⟨?_,?_,?_,g⟩
 ·by_cases e:k=1
  ·exact Or.inr (a.1 e)
  ·exact Or.inl e
 ·by_cases e:k=3
  ·exact Or.inr (a.2.1 e)
  ·exact Or.inl e
 ·by_cases e:w=⟨[46,46]⟩
  ·exact Or.inr (a.2.2 e)
  ·exact Or.inl e
theorem a3n: ∀ (f:Nat) (s:List UInt8) (i:Nat) (ln:Int) (o:List Tok),s.length<=20000->D9 o=true->o.length<=4000->D9 (Gn f s i ln o).a=true∧(Gn f s i ln o).a.length<=4000
 | 0,s,i,ln,o,_,h1,h2=>⟨h1,h2⟩
 | f+1,s,i,ln,o,hs,h1,h2=>by
  rw[Gn]
  split
  ·exact⟨h1,h2⟩
  ·split
   ·exact⟨rfl,by simp⟩
   ·split
    ·exact⟨rfl,by simp⟩
    ·rename_i q1 b q3
     refine a3n f s _ _ _ hs ?_ (by simp;omega)
     unfold D9 at h1 ⊢
     rw[List.all_append,h1,List.all_cons,List.all_nil,Bool.and_true,Bool.true_and]
     exact b1x rfl b (by rw[List.length_drop];omega) _ _
theorem a4k(s:Str):D9 (Wj s).a=true∧(Wj s).a.length<=4000:=by
 unfold Wj
 split
 ·exact⟨rfl,by simp⟩
 ·exact a3n _ _ _ _ _ (by omega) rfl (by simp)
theorem Od(s:List UInt8):ZV (RF s)=true:=by
 have h:=a4k ⟨s⟩
 unfold ZV RF
 dsimp only
 simp only[Bool.and_eq_true,decide_eq_true_eq]
 refine⟨h.2,Nat.zero_le _,?_⟩
 rw[List.all_eq_true]
 intro t ht
 have h3:=List.all_eq_true.1 h.1 t ht
 unfold a6w at h3
 simp only[Bool.and_eq_true,decide_eq_true_eq]at h3
 exact decide_eq_true h3.2.2.2
section
section
variable {α:Type} {one:PS->α×PS} {B:PS->Prop} {f:α->Nat} {e:Nat}
end
end
section
section
variable {N:Nat} {ex:PS->Tm×PS}
end
section
variable {N:Nat} {ex:PS->Tm×PS}
end
end
open Enc (enc dec is)
open EncL (encL decL isL)
theorem c8n: ∀ (s:PS) (a:Unit),ZV s=true->Zb b6x 1 (Zz 1 Ed (Z9 [] [] (Re s a).1 (Re s a).2)) a1s [] (Ya d4k (ZH a) ([]++[ZJ s])):=by
 rintro s ⟨⟩ hs
 show Zb b6x 1 (Zz 1 Ed (Z9 [] [] () s.endp)) a1s [] _
 unfold PS.endp
 refine e3z s (Y4 (fun h=>Bp hs ?_) fun h=> ?_)
 ·rw[if_pos (by rw[List.length_map]at h;omega)];exact ZA c5y
 ·rw[if_neg (by rw[List.length_map]at h;omega)];exact ZA c5y
theorem e4k{s:PS}{K:Unit->PS->Prop}(hs:ZV s=true)(h:K () s.endp):UF ZH Xb [] [] (fun(s:PS) (_:Unit)=>ZV s) Re [.ptr 0 0] [ZJ s] K:=Xt ZQ s () rfl rfl hs h
theorem c8m(s:List UInt8)(hs:s.length<=1048576):Zb a3m 0 (Zv 0 RX (fun r=>r=PK [.pv (.str s)] [])) R4 [] (Ya c0e [.pv (.str s)] []):=
 e5h s ⟨Zf ((⟨s⟩:Str),()) rfl (decide_eq_true hs),Zc ((⟨s⟩:Str),()) rfl rfl⟩
theorem P8{α:Type}[Enc α]{x:α}{a b:Int}{p:PV}(h:Zk x p):Zk (⟨x,a,b⟩:R3 α Int Int) (.tup [p,.int .i64 a,.int .i64 b]):=by
 refine⟨?_,?_⟩
 ·show(is α p&&true&&true)=true
  rw[h.1];rfl
 ·show(⟨dec p,a,b⟩:R3 α Int Int)=⟨x,a,b⟩
  rw[h.2]
theorem BG:Zk (⟨0,[]⟩:Lin) (.agg [.int .i64 0,.sl 0 true []]):=⟨rfl,rfl⟩
theorem c7b: ∀ x:Str×Unit,decide (x.1.s.length<=1048576)=true->Zb b8q 0 (Za a0v (Zk (Vh x.1))) a0t [] (Yh d4i (encL x)):=by
 rintro⟨⟨s⟩,⟨⟩⟩ hs
 have hb:=Od s
 have b:=Vy hb
 have k1:=Ge.linear b.2
 have a:=k1.ok hb
 show Zb b8q 0 (Za a0v (Zk (Vh ⟨s⟩))) a0t [] _
 unfold Vh
 refine e2t s ⟨hs,Nl (fun h=> ?_) fun h=> ?_⟩
 ·rw[if_pos h];exact P8 BG
 rw[if_neg (fun k=>k h)]
 refine e2l hb (e4k a (ZW (fun h1=> ?_) fun h1=>ZW (fun h2=> ?_) fun h2=>⟨Zf ((RF s).linear.1,()) rfl (Tg hb),Zc ((RF s).linear.1,()) rfl (YN (fun h3=> ?_) fun h3=> ?_)⟩))
 ·rw[if_pos h1];exact P8 BG
 ·rw[if_neg (by rw[h1];decide),if_pos h2];exact P8 BG
 ·rw[if_neg (by rw[h1];decide),if_neg (by rw[h2];decide),if_neg (by have h3:Zd (RF s).linear.1=false:=h3;rw[h3];decide)];exact P8 BG
 ·rw[if_neg (by rw[h1];decide),if_neg (by rw[h2];decide),if_pos h3];exact P8 (XC _)
set_option maxRecDepth 100000
noncomputable def Ee:IC:=XG Proofs.Tryz.f104
def b4m:List IRes:=[(.cell true 2 2)]
abbrev d8n:Nat:=7
noncomputable def d1m:ZC:=YG []
theorem e5j{G:PV->Prop}(s:List UInt8)(h:G ((.agg [(.int .i64 0),(.sl 2 false [(.agg [(.str s),(.int .i64 1)])])]))):Zb d1m 0 (Za b4m G) Ee [] (Yh 7 [.str s]):=Zb.tp (.lit (.lit (.nil))) h
noncomputable def b3k:IC:=XG Proofs.Tryz.f125
def b3s:List IRes:=[(.tmp 2),(.tmp 3)]
abbrev d8j:Nat:=41
noncomputable def d2k:ZC:=YG [(122,.pure (preT (fun x:Str×Bool×Unit=>decide (x.1.s.length<=1048576))) (Zm (fun x:Str×Bool×Unit=>Yr x.1 x.2.1))),(109,.pure (preT (fun x:Str×Unit=>decide (x.1.s.length<=281474976710656))) (Zm (fun x:Str×Unit=>Yg x.1)))]
theorem e1b{G:PV->Prop}(s:List UInt8)(h:if (s==[])=true then G ((.tup [(.int .i64 0),(.bool false)]))else(if (decide ((↑(List.length s):Int)>10))=true then G ((.tup [(.int .i64 0),(.bool false)]))else((Go.Pl.preT (fun(x:Str×Bool×Unit)=>decide (List.length (Str.s x.1)<=1048576)) [(.str s),(.bool false)])=true∧(∃ e:Str,AV.pv (Zm (fun(x:Str×Bool×Unit)=>Yr x.1 x.2.1) [(.str s),(.bool false)])=AV.pv (enc e)∧(if (!Str.s e==s)=true then G ((.tup [(.int .i64 0),(.bool false)]))else((decide (0<=0)&&decide (Int.toNat 0<List.length s))=true∧(if ((↑(UInt8.toNat (List.getD s (Int.toNat 0) (0:UInt8))):Int)==48)=true then if (decide ((↑(List.length s):Int)>1))=true then G ((.tup [(.int .i64 0),(.bool false)]))else((Go.Pl.preT (fun(x:Str×Unit)=>decide (List.length (Str.s x.1)<=281474976710656)) [(.str s)])=true∧(∃ b:Int×Er,AV.pv (Zm (fun(x:Str×Unit)=>Yg x.1) [(.str s)])=AV.pv (enc b)∧((Jh (enc b.2)&&Prod.fst (true,PV.bool !XP (enc b.2)))=true∧(if (!XP (enc b.2))=true then G ((.tup [(.int .i64 0),(.bool false)]))else(if (decide (b.1>2147483648))=true then G ((.tup [(.int .i64 0),(.bool false)]))else(G ((.tup [(.int .i64 b.1),(.bool true)]))))))))else((Go.Pl.preT (fun(x:Str×Unit)=>decide (List.length (Str.s x.1)<=281474976710656)) [(.str s)])=true∧(∃ a:Int×Er,AV.pv (Zm (fun(x:Str×Unit)=>Yg x.1) [(.str s)])=AV.pv (enc a)∧((Jh (enc a.2)&&Prod.fst (true,PV.bool !XP (enc a.2)))=true∧(if (!XP (enc a.2))=true then G ((.tup [(.int .i64 0),(.bool false)]))else(if (decide (a.1>2147483648))=true then G ((.tup [(.int .i64 0),(.bool false)]))else(G ((.tup [(.int .i64 a.1),(.bool true)]))))))))))))))):Zb d2k 0 (Za b3s G) b3k [] (Yh 41 [.str s]):=Zb.tp (dm [dv Str,dv (Int×Er)] 126 0x1422202220044161222222000014222022200441610001422222201f42221202222220074222251202222222222200c42222022222222222222201042) h
noncomputable def c1j:IC:=Ee
def c1i:List IRes:=[(.cell true 2 2)]
abbrev d3r:Nat:=7
noncomputable def d2b:ZC:=YG []
theorem e5f{G:PV->Prop}(s:List UInt8)(h:G ((.agg [(.int .i64 0),(.sl 2 false [(.agg [(.str s),(.int .i64 1)])])]))):Zb d2b 0 (Za c1i G) c1j [] (Yh 7 [.str s]):=Zb.tp (.lit (.lit (.nil))) h
def El:IC:=(Kb [YJ 0 (.alloc (.agg [(.str []),(.str []),(.str []),(.str []),(.str []),(.str []),(.str []),(.str []),(.str []),(.str []),(.str []),(.str []),(.str []),(.str []),(.str []),(.str []),(.str []),(.str []),(.str []),(.str []),(.str []),(.str []),(.str []),(.str []),(.str []),(.str []),(.str []),(.str [])])) 0] (Kb [YJ 1 (.build [(.str []),(.str []),(.str []),(.str []),(.str []),(.str []),(.str []),(.str []),(.str []),(.str []),(.str []),(.str []),(.str []),(.str []),(.str []),(.str []),(.str []),(.str []),(.str []),(.str []),(.str []),(.str []),(.str []),(.str []),(.str []),(.str []),(.str []),(.str [])] [(0,(1,(.c (.str [46,46])))),(1,(1,(.c (.str [61,61])))),(2,(1,(.c (.str [33,61])))),(3,(1,(.c (.str [60,61])))),(4,(1,(.c (.str [62,61])))),(5,(1,(.c (.str [45,62])))),(6,(1,(.c (.str [38,38])))),(7,(1,(.c (.str [124,124])))),(8,(1,(.c (.str [40])))),(9,(1,(.c (.str [41])))),(10,(1,(.c (.str [91])))),(11,(1,(.c (.str [93])))),(12,(1,(.c (.str [123])))),(13,(1,(.c (.str [125])))),(14,(1,(.c (.str [44])))),(15,(1,(.c (.str [58])))),(16,(1,(.c (.str [46])))),(17,(1,(.c (.str [64])))),(18,(1,(.c (.str [35])))),(19,(1,(.c (.str [61])))),(20,(1,(.c (.str [60])))),(21,(1,(.c (.str [62])))),(22,(1,(.c (.str [43])))),(23,(1,(.c (.str [45])))),(24,(1,(.c (.str [42])))),(25,(1,(.c (.str [47])))),(26,(1,(.c (.str [37])))),(27,(1,(.c (.str [33]))))]) 0,o'' (.store 28 (.t 0) (.t 1)) 0] .ret))
def EU:List IRes:=[(.cell true 28 0)]
abbrev d6s:Nat:=2
noncomputable def b2s:ZC:=YG []
theorem e2s{G:PV->Prop}(h:G ((.agg [(.str [(46:UInt8),(46:UInt8)]),(.str [(61:UInt8),(61:UInt8)]),(.str [(33:UInt8),(61:UInt8)]),(.str [(60:UInt8),(61:UInt8)]),(.str [(62:UInt8),(61:UInt8)]),(.str [(45:UInt8),(62:UInt8)]),(.str [(38:UInt8),(38:UInt8)]),(.str [(124:UInt8),(124:UInt8)]),(.str [(40:UInt8)]),(.str [(41:UInt8)]),(.str [(91:UInt8)]),(.str [(93:UInt8)]),(.str [(123:UInt8)]),(.str [(125:UInt8)]),(.str [(44:UInt8)]),(.str [(58:UInt8)]),(.str [(46:UInt8)]),(.str [(64:UInt8)]),(.str [(35:UInt8)]),(.str [(61:UInt8)]),(.str [(60:UInt8)]),(.str [(62:UInt8)]),(.str [(43:UInt8)]),(.str [(45:UInt8)]),(.str [(42:UInt8)]),(.str [(47:UInt8)]),(.str [(37:UInt8)]),(.str [(33:UInt8)])]))):Zb b2s 0 (Za EU G) El [] (Yh 2 []):=Zb.tp (.nil) h
theorem c8g: ∀ x:Str×Unit,true=true->Zb d1m 0 (Za b4m (Zk (Ui x.1))) Ee [] (Yh d8n (encL x)):=by
 rintro⟨⟨s⟩,⟨⟩⟩ _
 exact e5j s (ZX (x:=Ui ⟨s⟩) rfl)
theorem c5b: ∀ x:Str×Unit,true=true->Zb d2b 0 (Za c1i (Zk (⟨0,[⟨x.1,1⟩]⟩:Lin))) c1j [] (Yh d3r (encL x)):=by
 rintro⟨⟨s⟩,⟨⟩⟩ _
 exact e5f s (ZX (x:=(⟨0,[⟨⟨s⟩,1⟩]⟩:Lin)) rfl)
theorem c8i(ps:List PV)(h:Cx ps=true):Zb b2s 0 (Za EU (fun p=>p=PP ps)) El [] (Yh d6s ps):=by
 unfold Cx at h
 split at h
 ·exact e2s rfl
 ·cases h
theorem c2c{d:List UInt8}(j:d≠[])(hd:d.all digB=true)(h:d.length<=10):Yg ⟨d⟩=(VI d,⟨false⟩):=by
 cases d with
 | nil=>exact absurd rfl j
 | cons c r=>
  have h1:=hd
  simp only[List.all_cons,Bool.and_eq_true,XZ]at h1
  have hv:=RN (c::r) 0 hd
  have hp:10 ^ (c::r).length<=10 ^ 10:=Nat.pow_le_pow_right (by omega) h
  have a:=G5 (c::r) 0 hd (by omega)
  have b:Lib.atoiAll (c::r) = .ok (Qn 0 (c::r):Int):=by
   have k : ¬ (c.toNat=43∨c.toNat=45):=by omega
   have g : ¬ c.toNat=45:=by omega
   simp only[Lib.atoiAll,if_neg k,Lib.parseMag,if_neg (show ¬ (c::r=[]) by simp),a]
   rw[if_neg (by omega),if_neg (fun e=>g e.1),if_neg g]
  simp only[Yg,b]
  rw[b5m _ _ rfl hd]
theorem SQ{p:UInt8->Bool}: ∀ {s:List UInt8},s.takeWhile p=s->s.all p=true
 | [],_=>rfl
 | c::s,h=>by
  rw[List.takeWhile_cons]at h
  split at h
  ·rename_i q
   rw[List.all_cons,q,SQ (List.cons.inj h).2];rfl
  ·cases h
theorem Tu{p:UInt8->Bool}: ∀ {s:List UInt8},s.all p=true->s.takeWhile p=s
 | [],_=>rfl
 | c::s,h=>by
  rw[List.all_cons,Bool.and_eq_true]at h
  rw[List.takeWhile_cons,if_pos h.1,Tu h.2]
theorem TK{n:Int}{b:Bool}:Zk ((n,b):Int×Bool) (.tup [.int .i64 n,.bool b]):=⟨rfl,rfl⟩
theorem c7m: ∀ x:Str×Unit,decide (x.1.s.length<=1048576)=true->Zb d2k 0 (Za b3s (Zk (Yx x.1))) b3k [] (Yh d8j (encL x)):=by
 rintro⟨⟨s⟩,⟨⟩⟩ hs
 have hw:s.length<=1048576:=of_decide_eq_true hs
 have j:UA s=false->Yx ⟨s⟩=(0,false):=fun h=>by unfold Yx;rw[h];rfl
 refine e1b s (Z7 (fun a=> ?_) fun a=>Y4 (fun h1=> ?_) fun h1=>⟨Zf ((⟨s⟩:Str),false,()) rfl hs,Zc ((⟨s⟩:Str),false,()) rfl (YN (fun h2=> ?_) fun h2=> ?_)⟩)
 ·have a:s=[]:=a
  subst a
  exact TK
 ·rw[show Yx ((⟨s⟩:Str),()).1=_ from j (by unfold UA;rw[decide_eq_false (show ¬ s.length<=10 by omega)];simp)]
  exact TK
 ·have h2:((Yr ⟨s⟩ false).s==s)=false:=h2
  have hd:s.all digB=false:=by
   cases e:s.all digB with
   | false=>rfl
   | true=>
    have q:(Yr ⟨s⟩ false).s=s:=Tu (p:=fun c=>digB c||(false&&lowB c)) (by
     rw[show(fun c=>digB c||(false&&lowB c))=digB from funext fun c=>by simp]
     exact e)
    rw[q]at h2
    simp at h2
  rw[show Yx ((⟨s⟩:Str),()).1=_ from j (by unfold UA;rw[hd];simp)]
  exact TK
 ·have a:s≠[]:=a
  have h2:((Yr ⟨s⟩ false).s==s)=true:=h2
  have hd:s.all digB=true:=by
   have h3:(Yr ⟨s⟩ false).s=s:=by simpa using h2
   have:=SQ (p:=fun c=>digB c||(false&&lowB c)) (s:=s) h3
   rw[show(fun c=>digB c||(false&&lowB c))=digB from funext fun c=>by simp]at this
   exact this
  have k:s.length<=10:=by omega
  have hp:0<s.length:=List.length_pos_iff.2 a
  have u:s.isEmpty=false:=by cases s with|nil=>exact absurd rfl a|cons _ _=>rfl
  have ha:=c2c a hd k
  have last:(decide (s.head? = some 48)&&decide (1<s.length))=false->preT (fun(x:Str×Unit)=>decide (List.length (Str.s (Prod.fst x))<=281474976710656)) [(.str s)]=true∧ ∃ b:Int×Er,AV.pv (Zm (fun(x:Str×Unit)=>Yg (Prod.fst x)) [(.str s)])=AV.pv (enc b)∧((Jh (enc (Prod.snd b))&&Prod.fst (true,PV.bool !XP (enc (Prod.snd b))))=true∧(if (!XP (enc (Prod.snd b)))=true then Zk (Yx ⟨s⟩) (.tup [.int .i64 0,.bool false])else if decide (Prod.fst b>2147483648)=true then Zk (Yx ⟨s⟩) (.tup [.int .i64 0,.bool false])else Zk (Yx ⟨s⟩) (.tup [.int .i64 (Prod.fst b),.bool true]))):=fun g=>by
   refine⟨Zf ((⟨s⟩:Str),()) rfl (decide_eq_true (by show s.length<=281474976710656;omega)),Zc ((⟨s⟩:Str),()) rfl ?_⟩
   rw[show Yg ((⟨s⟩:Str),()).1=(VI s,⟨false⟩)from ha]
   refine⟨rfl,Y1 (show ¬ (!XP (enc (⟨false⟩:Er)))=true by decide) (Y4 (fun h3=> ?_) fun h3=> ?_)⟩
   ·rw[j (by unfold UA;rw[decide_eq_false (show ¬ VI s<=2147483648 by omega),Bool.and_false])]
    exact TK
   ·rw[show Yx ⟨s⟩=(VI s,true) by
     unfold Yx UA
     rw[u,decide_eq_true k,hd,g,decide_eq_true (show VI s<=2147483648 by omega)]
     rfl]
    exact TK
  refine⟨by simp;omega,Z7 (fun h3=>Y4 (fun l=> ?_) fun l=>last (by rw[decide_eq_false (show ¬ 1<s.length by omega),Bool.and_false])) fun h3=>last ?_⟩
  ·have g:s.head? = some 48:=by
    cases s with
    | nil=>exact absurd rfl a
    | cons c r=>
     have h3:(c.toNat:Int)=48:=h3
     have:c=48:=UInt8.toNat_inj.1 (by show c.toNat=48;omega)
     rw[this];rfl
   rw[show Yx ((⟨s⟩:Str),()).1=_ from j (by unfold UA;rw[decide_eq_true g,decide_eq_true (show 1<s.length by omega)];simp)]
   exact TK
  ·have g:s.head? ≠ some 48:=by
    cases s with
    | nil=>exact absurd rfl a
    | cons c r=>
     have h3:(c.toNat:Int)≠48:=h3
     intro e
     have e:c=48:=by simpa using e
     rw[e]at h3
     exact h3 rfl
   rw[decide_eq_false g];rfl
end Go.Pl
namespace Go.Pl
open Go.RowKit
def Yf:List Str:=Zg.map Str.mk
theorem b1b(s:List UInt8)(a n:Nat):(s.drop a).getD n 0=s.getD (a+n) 0:=by
 rw[List.getD_eq_getElem?_getD,List.getD_eq_getElem?_getD,List.getElem?_drop]
theorem Ke: ∀ (f:Nat) (s:List UInt8) (a n:Nat),a<=s.length->ZF f (s.drop a) n+a=ZF f s (a+n)
 | 0,s,a,n,h=>by rw[ZF,ZF];omega
 | f+1,s,a,n,h=>by
  rw[ZF,ZF,List.length_drop,b1b,List.drop_drop]
  by_cases h1:s.length<=a+n
  ·rw[if_pos (show s.length - a<=n by omega),if_pos h1];omega
  ·rw[if_neg (show ¬ s.length - a<=n by omega),if_neg h1]
   split
   ·rw[Ke f s a (n+1) h];rfl
   ·split
    ·split
     ·omega
     ·rw[Ke f s a _ h,Nat.add_assoc]
    ·omega
theorem b1g{s:List UInt8}{n:Nat}(h:List.isPrefixOf [47,47] (s.drop n)=true)(k:0<=Lib.indexByte (s.drop n) 10):0<Lib.indexByte (s.drop n) 10:=by
 cases e:s.drop n with
 | nil=>rw[e]at h;cases h
 | cons c r=>
  rw[e]at h k
  refine b9f ?_ (by simp) k
  show c≠10
  intro q
  subst q
  cases r with
  | nil=>cases h
  | cons d r=>simp[List.isPrefixOf]at h
theorem J2: ∀ (f a:Nat) (s:List UInt8) (n:Nat),s.length<n+f->s.length<n+a->ZF f s n=ZF a s n
 | 0,a,s,n,h,h'=>by
  rw[ZF]
  cases a with
  | zero=>rfl
  | succ a=>rw[ZF,if_pos (by omega)]
 | f+1,0,s,n,h,h'=>by rw[ZF,ZF,if_pos (by omega)]
 | f+1,a+1,s,n,h,h'=>by
  rw[ZF,ZF]
  split
  ·rfl
  ·split
   ·exact J2 f a s _ (by omega) (by omega)
   ·split
    ·split
     ·rfl
     ·rename_i b q2
      have h3:=b1g b (by omega)
      exact J2 f a s _ (by omega) (by omega)
    ·rfl
theorem d0v{s:List UInt8}{a:Nat}(h:a<=s.length):ZF (s.length+1) s a=a+(VZ ⟨s.drop a⟩).toNat:=by
 unfold VZ
 rw[Int.toNat_natCast]
 show _=a+ZF ((s.drop a).length+1) (s.drop a) 0
 have e:=Ke ((s.drop a).length+1) s a 0 h
 rw[J2 (s.length+1) ((s.drop a).length+1) s a (by omega) (by rw[List.length_drop];omega)]
 have e:ZF ((s.drop a).length+1) (s.drop a) 0+a=ZF ((s.drop a).length+1) s a:=e
 omega
theorem Na{s:List UInt8}{a:Nat}(h:a<=s.length):a<=ZF (s.length+1) s a∧ZF (s.length+1) s a<=s.length:=Kj _ _ _ h
def Qx(s:List UInt8)(a b:Nat):Nat:=List.count 10 ((s.drop a).take (b - a))
theorem MP(s:List UInt8)(a:Nat):Qx s a a=0:=by unfold Qx;rw[Nat.sub_self];rfl
theorem Pq{s:List UInt8}{a b c:Nat}(h1:a<=b)(h2:b<=c):Qx s a c=Qx s a b+Qx s b c:=by
 unfold Qx
 rw[<- List.count_append]
 congr 1
 rw[show c - a=(b - a)+(c - b) by omega,List.take_add,List.drop_drop,show a+(b - a)=b by omega]
theorem a3x{s:List UInt8}{a:Nat}(h:a<s.length):Qx s a (a+1)=if s[a]=10 then 1 else 0:=by
 unfold Qx
 rw[show a+1 - a=1 by omega,List.drop_eq_getElem_cons h]
 show List.count 10 [s[a]]=_
 rw[List.count_singleton]
 by_cases e:s[a]=10
 ·rw[e];rfl
 ·rw[if_neg e,if_neg (by simpa using e)]
theorem c8a(w s:List UInt8):w.isPrefixOf s=(decide (w.length<=s.length)&&(s.take w.length==w)):=by
 rw[Bool.eq_iff_iff]
 simp only[List.isPrefixOf_iff_prefix,Bool.and_eq_true,decide_eq_true_eq,beq_iff_eq]
 constructor
 ·intro h
  exact⟨h.length_le,(List.prefix_iff_eq_take.1 h).symm⟩
 ·intro h
  rw[List.prefix_iff_eq_take]
  exact h.2.symm
theorem e2r: ∀ w∈Zg,List.count 10 w=0:=by decide
theorem Lf: ∀ (l:List (List UInt8)) (s:List UInt8),(∀ w∈l,List.count 10 w=0)->s.take (Zl l s).2.s.length=(Zl l s).2.s∧List.count 10 (Zl l s).2.s=0
 | [],s,_=>⟨rfl,rfl⟩
 | x::l,s,h=>by
  rw[Zl]
  split
  ·rename_i q
   exact⟨(List.prefix_iff_eq_take.1 (List.isPrefixOf_iff_prefix.1 q)).symm,h x (List.mem_cons_self ..)⟩
  ·exact Lf l s fun w a=>h w (List.mem_cons_of_mem _ a)
theorem PO(s:Str)(b:Bool):s.s.take (Yr s b).s.length=(Yr s b).s∧List.count 10 (Yr s b).s=0:=by
 unfold Yr
 dsimp only
 refine⟨(List.prefix_iff_eq_take.1 (List.takeWhile_prefix _)).symm,?_⟩
 rw[List.count_eq_zero]
 intro h
 have a : ∀ (l:List UInt8),(10:UInt8) ∉ l.takeWhile fun c=>digB c||(b&&lowB c):=by
  intro l
  induction l with
  | nil=>simp
  | cons c l ih=>
   rw[List.takeWhile_cons]
   split
   ·rename_i q
    intro hm
    rcases List.mem_cons.1 hm with hm|hm
    ·rw[<- hm]at q
     revert q
     cases b <;> decide
    ·exact ih hm
   ·simp
 exact a _ h
theorem a9l(s:Str):s.s.take (ZB s).2.s.length=(ZB s).2.s∧List.count 10 (ZB s).2.s=0:=by
 unfold ZB
 split
 ·exact⟨rfl,rfl⟩
 ·split
  ·split
   ·exact PO s true
   ·split
    ·exact PO s true
    ·exact⟨rfl,rfl⟩
  ·split
   ·split
    ·exact PO s false
    ·exact⟨rfl,rfl⟩
   ·exact Lf Zg _ e2r
theorem a5z{s:List UInt8}{a:Nat}:Qx s a (a+(ZB ⟨s.drop a⟩).2.s.length)=0:=by
 unfold Qx
 have h:=a9l ⟨s.drop a⟩
 rw[show a+(ZB ⟨s.drop a⟩).2.s.length - a=(ZB ⟨s.drop a⟩).2.s.length by omega,h.1]
 exact h.2
theorem JL{p:UInt8->Bool}: ∀ {s:List UInt8} {k:Nat},k<=s.length->(∀ c∈s.take k,p c=true)->(k=s.length∨p (s.getD k 0)=false)->s.take k=s.takeWhile p
 | [],k,hk,_,_=>by
  have:k=0:=by simpa using hk
  subst this;rfl
 | c::s,0,hk,_,h=>by
  rcases h with h|h
  ·cases h
  ·have h:p c=false:=h
   rw[List.takeWhile_cons,h];rfl
 | c::s,k+1,hk,hp,h=>by
  rw[List.take_succ_cons]at hp
  rw[List.take_succ_cons,List.takeWhile_cons,hp c (List.mem_cons_self ..),if_pos rfl]
  congr 1
  refine JL (by simpa using hk) (fun x a=>hp x (List.mem_cons_of_mem _ a)) ?_
  rcases h with h|h
  ·left;simpa using h
  ·right;exact h
def b8n(f:Nat)(s:List UInt8)(a:Nat)(ln:Int)(o:List Tok):R3 (List Tok) Int Int:=
 if a=s.length then⟨o,0,0⟩
 else if (ZB ⟨s.drop a⟩).1=0 then⟨[],(a:Nat),6⟩
 else if o.length=4000 then⟨[],(a:Nat),3⟩
 else Gn f s (a+(ZB ⟨s.drop a⟩).2.s.length) ln (o++[⟨(ZB ⟨s.drop a⟩).1,(ZB ⟨s.drop a⟩).2,ln,(a:Nat)⟩])
theorem b8g{f:Nat}{s:List UInt8}{i a:Nat}{ln:Int}{o:List Tok}(hi:i<=s.length)(ha:a=ZF (s.length+1) s i):Gn (f+1) s i ln o=b8n f s a (ln+(Qx s i a:Nat)) o:=by
 have e:=d0v hi
 rw[<- ha]at e
 have b:(VZ ⟨s.drop i⟩).toNat=a - i:=by omega
 rw[Gn]
 rw[b,show i+(a - i)=a by omega]
 unfold b8n Qx Lib.countByte
 rfl
end Go.Pl
