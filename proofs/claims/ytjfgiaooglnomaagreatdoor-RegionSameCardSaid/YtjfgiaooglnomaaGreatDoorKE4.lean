/-
  Texts of mine that belong together (packed by pack.py), for every input: QLk, GLn, QLn, QLo, QLp, QRa, QRb, QRc, TyQ, GLu, GLt, QRs, QRt, QRu, QRv, GLv, QRw, QRx, TyRb, TyRc, TyPo, QGd, GRc, QRd, QRe, GRd, QRf, TyRd, GRx, QRg, GPv, QPv, GPw.
-/
import Derived.Test.YtjfgiaooglnomaaGreatDoorKE2
import Derived.Test.YtjfgiaooglnomaaGreatDoorKE3
import Derived.KernelRfl
set_option linter.unusedVariables false
set_option linter.unusedSimpArgs false
namespace Go.Pl
open Go.RowKit
open Enc (enc dec is)
open EncL (encL decL isL)
structure Cert2 where
 a:Cert
 b:Cert
instance:Enc Cert2 where
 sz:=10
 enc x:=.agg (PV.cells (enc x.a)++PV.cells (enc x.b))
 dec | .agg [a,b,c,d,e,f,g,h,i,j]=>⟨dec (.agg [a,b,c,d,e]),dec (.agg [f,g,h,i,j])⟩|_=>⟨.mk 0 [] ⟨0,[]⟩ [],.mk 0 [] ⟨0,[]⟩ []⟩
 is | .agg [a,b,c,d,e,f,g,h,i,j]=>is Cert (.agg [a,b,c,d,e])&&is Cert (.agg [f,g,h,i,j])|_=>false
 is_enc v:=by
  obtain⟨⟨k,m,l,ks⟩,⟨k',m',l',ks'⟩⟩:=v
  rw[UC,UC]
  show(is Cert (.agg [enc k,enc m,enc l.k,enc l.t,enc ks])&&is Cert (.agg [enc k',enc m',enc l'.k,enc l'.t,enc ks']))=true
  rw[<- UC,<- UC,Enc.is_enc,Enc.is_enc];rfl
 dec_enc v:=by
  obtain⟨⟨k,m,l,ks⟩,⟨k',m',l',ks'⟩⟩:=v
  rw[UC,UC]
  show(⟨dec (.agg [enc k,enc m,enc l.k,enc l.t,enc ks]),dec (.agg [enc k',enc m',enc l'.k,enc l'.t,enc ks'])⟩:Cert2)=_
  rw[<- UC,<- UC,Enc.dec_enc,Enc.dec_enc]
 sub p h:=by
  cases p with
  | agg xs=>
   match xs,h with
   | [a,b,c,d,e,f,g,h',i,j],h=>
    simp only[Bool.and_eq_true]at h
    have h1:=Enc.sub (α:=Cert) _ h.1
    have h2:=Enc.sub (α:=Cert) _ h.2
    exact QG.agg (h1.1.append h2.1)
  | _=>cases h
theorem c9q{l:Lin}{n:Int}(h:GK l n=true)(hl:YF l=true):Yz l=true:=by
 simp only[GK,Bool.and_eq_true,List.all_eq_true,decide_eq_true_eq]at h
 simp only[Yz,hl,Bool.true_and,List.all_eq_true,decide_eq_true_eq]
 intro t ht
 have:=h.1 t ht
 omega
mutual
theorem c2v: ∀ (c:Cert) (n:Int),n<=12->a2a c n=true->cOk c=true->1<=n∧(c6h c:Int)<=n∧1<=Sv c∧Sv c<=n∧cSm c=true
 | .mk k m l ks,n,hn,h,ho=>by
  simp only[a2a,Bool.and_eq_true,Bool.not_eq_true',decide_eq_false_iff_not]at h
  obtain⟨h1,h2,h3,h4,h5⟩:=h
  simp only[cOk,Bool.and_eq_true,decide_eq_true_eq]at ho
  obtain⟨⟨⟨o1,o2⟩,o3⟩,o4⟩:=ho
  obtain⟨a1,a2,a3,a4⟩:=MN ks n 1 (by omega) hn (by omega) (by omega) h5 o4
  rw[c6h,Sv]
  refine⟨by omega,by omega,by omega,by omega,?_⟩
  simp only[cSm,c9q h2 o2,a4,decide_eq_true o1,decide_eq_true o3]
  rfl
theorem MN: ∀ (cs:List Cert) (n s:Int),1<=n->n<=12->1<=s->s<=100 - n->Bd cs n=true->a9n cs=true->(Ov cs:Int)<=n - 1∧s<=DK s cs∧DK s cs<=s+n - 1∧a6e cs=true
 | [],n,s,h1,h2,h3,h4,_,_=>by
  rw[Ov,DK]
  exact⟨by omega,by omega,by omega,rfl⟩
 | c::cs,n,s,h1,h2,h3,h4,h,ho=>by
  simp only[Bd,Bool.and_eq_true]at h
  simp only[a9n,Bool.and_eq_true]at ho
  rw[X0 (by omega) (by omega)]at h
  obtain⟨b1,b2,b3,b4,b5⟩:=c2v c (n - 1) (by omega) h.1 ho.1
  have h':=h.2
  rw[X0 (by omega) (by omega)]at h'
  obtain⟨a1,a2,a3,a4⟩:=MN cs (n - Sv c) (s+Sv c) (by omega) (by omega) (by omega) (by omega) h' ho.2
  rw[Ov,DK,X0 (by omega) (by omega)]
  refine⟨by omega,by omega,by omega,?_⟩
  simp only[a6e,b5,a4]
  rfl
end
end Go.Pl
namespace Go.Pl
open Go.RowKit
open Enc (enc dec is)
open EncL (encL decL isL)
set_option maxRecDepth 100000
end Go.Pl
namespace Go.Pl
open Go.RowKit
open Enc (enc dec is)
open EncL (encL decL isL)
theorem FC(l:List Fact)(v:List Coef)(hl:Zf l=true)(hv:v.length<=9223372036854775807): ∀ (j i:Nat),j+i=l.length->At UA 0 (Zb Vq (Zi ((l.drop i).all fun f=>Yh f v))) Vm 0 41 [(0,.pv (enc l)),(1,.pv (enc v)),(5,.pv (.int .i64 i))] []:=by
 intro j
 induction j with
 | zero=>
  intro i hi
  exact R7 l v i (ZR (Xq (by omega)) (ZL (by rw[List.drop_of_length_le (by omega)];rfl)))
 | succ j ih=>
  intro i hi
  have hl':=hl
  simp only[Zf,Bool.and_eq_true,decide_eq_true_eq,List.all_eq_true]at hl'
  have hlt:i<l.length:=by omega
  have h:=ih (i+1) (by omega)
  have ho:YF l[i].l=true:=by
   have:=hl'.2 _ (List.getElem_mem hlt)
   simp only[Yz,Bool.and_eq_true]at this
   exact this.1
  refine R7 l v i (ZN (Y3 hlt) ⟨Zu hlt rfl,ZB hlt ⟨Zl (l[i].l,v,()) rfl (by show(YF l[i].l&&decide (v.length<=9223372036854775807))=true;rw[ho,decide_eq_true hv];rfl),Zk (l[i].l,v,()) rfl ?_⟩⟩)
  rw[List.drop_eq_getElem_cons hlt,List.all_cons,next (by omega)]
  refine d1w (fun h1=> ?_) fun h1=>XQ (fun h2=> ?_) fun h2=>⟨Zu hlt rfl,ZB hlt (XT (fun h3=>d1w (fun h4=> ?_) fun h4=> ?_) fun h3=> ?_)⟩
  ·have h1:(Yy l[i].l v).2≠0:=by simpa using h1
   exact ZL (by simp[Yh,h1])
  all_goals have h1:(Yy l[i].l v).2=0:=by simpa using h1
  ·have h2:(Yy l[i].l v).1<0:=h2
   exact ZL (by simp[Yh,h1,h2])
  all_goals have h2 : ¬ (Yy l[i].l v).1<0:=h2
  all_goals have h3:l[i].eq=_:=h3
  ·have h4:(Yy l[i].l v).1≠0:=by simpa using h4
   exact ZL (by simp[Yh,h1,h2,h3,h4])
  ·have h4:(Yy l[i].l v).1=0:=by simpa using h4
   have e:Yh l[i] v=true:=by simp[Yh,h1,h3,h4]
   rw[e,Bool.true_and]
   exact h
  ·have e:Yh l[i] v=true:=by
    have h2':decide ((Yy l[i].l v).1<0)=false:=decide_eq_false h2
    simp only[Yh,h1,h3,h2']
    rfl
   rw[e,Bool.true_and]
   exact h
theorem El: ∀ a:List Fact×List Coef×Unit,(Zf a.1&&decide (a.2.1.length<=9223372036854775807))=true->Ze UA 0 (Zb Vq (Zi (a.1.all fun f=>Yh f a.2.1))) Vm [] (Yk a6r (encL a)):=by
 rintro⟨l,v,⟨⟩⟩ h
 simp only[Bool.and_eq_true,decide_eq_true_eq]at h
 exact b4v l v (FC l v h.1 h.2 l.length 0 rfl)
end Go.Pl
namespace Go.Pl
open Go.RowKit
def Xw(ts:List Coef)(s:List UInt8):Int:=((ts.find? fun t=>t.v.s==s).map (·.c)).getD 0
def JQ(ts:List Coef):Prop:=ts.Pairwise fun a b=>a.v.s<b.v.s
def nzP(ts:List Coef):Prop:= ∀ t∈ts,t.c≠0
theorem TN(s:List UInt8):Xw [] s=0:=rfl
theorem YM(t:Coef)(ts:List Coef)(s:List UInt8):Xw (t::ts) s=if t.v.s=s then t.c else Xw ts s:=by
 simp only[Xw,List.find?_cons]
 by_cases h:t.v.s=s
 ·simp[h]
 ·have:(t.v.s==s)=false:=by simpa using h
  simp[this,h]
theorem BA{s:List UInt8}: ∀ {ts:List Coef},(∀ t∈ts,s<t.v.s)->Xw ts s=0
 | [],_=>rfl
 | t::ts,h=>by
  have h1:=h t (by simp)
  rw[YM,if_neg (fun e=>by rw[e]at h1;exact List.lt_irrefl _ h1)]
  exact BA fun u hu=>h u (by simp[hu])
theorem UX{t:Coef}{ts:List Coef}:JQ (t::ts) ↔ (∀ u∈ts,t.v.s<u.v.s)∧JQ ts:=List.pairwise_cons
theorem Qg(s:Str)(c:Int): ∀ {ts:List Coef},(∀ t∈ts,s.s<t.v.s)->X9 s c true ts=ts
 | [],_=>by simp[X9]
 | t::ts,h=>by
  have h1:=h t (by simp)
  rw[a2n,if_neg (fun e=>by rw[e]at h1;exact List.lt_irrefl _ h1),Qg s c fun u hu=>h u (by simp[hu])]
theorem a2k(s:Str)(c:Int): ∀ {ts:List Coef},JQ ts-> ∀ u∈X9 s c false ts,u.v.s=s.s ∨ ∃ t∈ts,t.v.s=u.v.s
 | [],_,u,hu=>by
  simp only[X9,Bool.false_eq_true,if_false,List.mem_singleton]at hu
  exact .inl (by rw[hu])
 | t::ts,h,u,hu=>by
  obtain⟨h1,h2⟩:=UX.1 h
  rw[JV]at hu
  split at hu
  ·rename_i hlt
   rw[Qg s c (fun u hu=>List.lt_trans hlt (h1 u hu))]at hu
   rcases List.mem_cons.1 hu with rfl|hu
   ·exact .inl rfl
   ·exact .inr ⟨u,hu,rfl⟩
  ·split at hu
   ·rename_i he
    rw[Qg s c (fun u hu=>he▸h1 u hu)]at hu
    rcases List.mem_cons.1 hu with rfl|hu
    ·exact .inr ⟨t,by simp,rfl⟩
    ·exact .inr ⟨u,by simp[hu],rfl⟩
   ·rcases List.mem_cons.1 hu with rfl|hu
    ·exact .inr ⟨u,by simp,rfl⟩
    ·rcases a2k s c h2 u hu with h|⟨w,hw,e⟩
     ·exact .inl h
     ·exact .inr ⟨w,by simp[hw],e⟩
theorem PZ(s:Str)(c:Int): ∀ {ts:List Coef},JQ ts->JQ (X9 s c false ts)
 | [],_=>by simp[X9,JQ]
 | t::ts,h=>by
  obtain⟨h1,h2⟩:=UX.1 h
  rw[JV]
  split
  ·rename_i hlt
   rw[Qg s c (fun u hu=>List.lt_trans hlt (h1 u hu))]
   exact UX.2 ⟨fun u hu=>by
    rcases List.mem_cons.1 hu with rfl|hu
    ·exact hlt
    ·exact List.lt_trans hlt (h1 u hu),h⟩
  ·rename_i hlt
   split
   ·rename_i he
    rw[Qg s c (fun u hu=>he▸h1 u hu)]
    exact UX.2 ⟨h1,h2⟩
   ·rename_i he
    have hts:t.v.s<s.s:=tri hlt (fun e=>he (GI.2 e.symm))
    refine UX.2 ⟨fun u hu=> ?_,PZ s c h2⟩
    rcases a2k s c h2 u hu with e|⟨w,hw,e⟩
    ·rw[e];exact hts
    ·rw[<- e];exact h1 w hw
theorem ML(s:Str)(c:Int)(hc:Db c=c): ∀ {ts:List Coef},JQ ts-> ∀ x,Xw (X9 s c false ts) x=if s.s=x then Db (Xw ts s.s+c)else Xw ts x
 | [],_,x=>by
  have e:X9 s c false []=[⟨s,c⟩]:=by simp[X9]
  rw[e,YM,TN,TN,Int.zero_add,hc]
 | t::ts,h,x=>by
  obtain⟨h1,h2⟩:=UX.1 h
  rw[JV]
  split
  ·rename_i hlt
   rw[Qg s c (fun u hu=>List.lt_trans hlt (h1 u hu)),YM,BA (ts:=t::ts) (s:=s.s) (fun u hu=>by
    rcases List.mem_cons.1 hu with rfl|hu
    ·exact hlt
    ·exact List.lt_trans hlt (h1 u hu)),Int.zero_add,hc]
  ·rename_i hlt
   split
   ·rename_i he
    have he':t.v.s=s.s:=by rw[he]
    have e1:Xw (t::ts) s.s=t.c:=by rw[YM,if_pos he']
    have e2:Xw (t::ts) x=if s.s=x then t.c else Xw ts x:=by rw[YM,he']
    rw[Qg s c (fun u hu=>he▸h1 u hu),YM,e1,e2]
    show(if t.v.s=x then Db (t.c+c)else Xw ts x)=_
    rw[he']
    by_cases hx:s.s=x
    ·rw[if_pos hx,if_pos hx]
    ·rw[if_neg hx,if_neg hx,if_neg hx]
   ·rename_i he
    have he' : ¬ t.v.s=s.s:=fun e=>he (GI.2 e)
    rw[YM,ML s c hc h2 x,YM (s:=s.s),if_neg he',YM (s:=x)]
    by_cases hx:s.s=x
    ·rw[if_pos hx,if_pos hx,if_neg (fun e=>he' (e.trans hx.symm))]
    ·rw[if_neg hx,if_neg hx]
theorem Dp: ∀ {ts:List Coef},JQ ts-> ∀ x,Xw (ts.filter fun t=>decide (t.c≠0)) x=Xw ts x
 | [],_,x=>rfl
 | t::ts,h,x=>by
  obtain⟨h1,h2⟩:=UX.1 h
  rw[List.filter_cons]
  split
  ·rw[YM,YM,Dp h2 x]
  ·rename_i hz
   have hz0:t.c=0:=by simpa using hz
   rw[YM,Dp h2 x]
   by_cases hx:t.v.s=x
   ·rw[if_pos hx,hz0,BA fun u hu=>hx▸h1 u hu]
   ·rw[if_neg hx]
theorem b6h{l:Lin}(s:Str)(c:Int)(h:JQ l.t):JQ (VD l s c).t:=(PZ s c h).sublist List.filter_sublist
theorem a2b(l:Lin)(s:Str)(c:Int):nzP (VD l s c).t:=fun t ht=>by simpa using (List.mem_filter.1 ht).2
theorem a9p{l:Lin}(s:Str){c:Int}(hc:Db c=c)(h:JQ l.t)(x:List UInt8):Xw (VD l s c).t x=if s.s=x then Db (Xw l.t s.s+c)else Xw l.t x:=by
 show Xw (List.filter _ _) x=_
 rw[Dp (PZ s c h),ML s c hc h]
theorem b0c(s:Str)(c:Int)(x:List UInt8): ∀ m:List (Str×Int),atM (a7h s c m) x=if s.s=x then c else atM m x
 | []=>by
  rw[a7h]
  simp only[atM,List.find?_cons]
  by_cases h:s.s=x
  ·simp[h]
  ·have:(s.s==x)=false:=by simpa using h
   simp[this,h]
 | p::m=>by
  have ih:=b0c s c x m
  rw[a7h]
  split
  ·rename_i he
   simp only[atM,List.find?_cons]
   by_cases h:s.s=x
   ·simp[h]
   ·have h1:(s.s==x)=false:=by simpa using h
    have h2:(p.1.s==x)=false:=by rw[<- he];exact h1
    simp[h1,h2,h]
  ·rename_i he
   simp only[atM,List.find?_cons]at ih ⊢
   by_cases h:p.1.s=x
   ·have h2 : ¬ s.s=x:=fun e=>he (e.trans h.symm)
    simp[h,h2]
   ·have h2:(p.1.s==x)=false:=by simpa using h
    rw[h2]
    exact ih
def wM(m:List (Str×Int)):Prop:= ∀ s,Db (atM m s)=atM m s
theorem add_zero: ∀ (x:List Coef) (m:List (Str×Int)),wM m-> ∀ s,atM (c7b 0 x m) s=atM m s
 | [],m,h,s=>rfl
 | t::x,m,h,s=>by
  have e : ∀ y,atM (a7h t.v (IntKind.i64.wrap (atM m t.v.s+IntKind.i64.wrap (0*t.c))) m) y=atM m y:=fun y=>by
   rw[b0c]
   split
   ·rename_i hy
    have:IntKind.i64.wrap (0*t.c)=0:=by rw[Int.zero_mul];rfl
    rw[this,Int.add_zero,<- hy]
    exact h t.v.s
   ·rfl
  rw[c7b,add_zero x _ (fun y=>by rw[e];exact h y),e]
end Go.Pl
namespace Go.Pl
open Go.RowKit
open Enc (enc dec is)
open EncL (encL decL isL)
end Go.Pl
namespace Go.Pl
open Go.RowKit
open Enc (enc dec is)
open EncL (encL decL isL)
set_option maxRecDepth 100000
end Go.Pl
namespace Go.Pl
open Go.RowKit
open Enc (enc dec is)
open EncL (encL decL isL)
set_option maxRecDepth 100000
end Go.Pl
namespace Go.Pl
open Go.RowKit
open Enc (enc dec is)
open EncL (encL decL isL)
theorem one_of{α:Type}: ∀ {ks:List α},ks.length=1-> ∃ a,ks=[a]
 | [a],_=>⟨a,rfl⟩
end Go.Pl
namespace Go.Pl
open Go.RowKit
open Enc (enc dec is)
open EncL (encL decL isL)
set_option maxRecDepth 100000
end Go.Pl
namespace Go.Pl
open Go.RowKit
open Enc (enc dec is)
open EncL (encL decL isL)
theorem sub_zero(b:Bool):Sub (.tup [d0y,.bool b]) (enc (((⟨0,[]⟩:Lin),b):Lin×Bool)):=Sub.pair (Sub.agg_cons (.refl _) (Sub.agg_cons (.sl0 _ _ _) Sub.agg_nil)) (.refl _)
inductive Walk (m:Int):List Int->List (List Int)->Prop
 | last {p}:VY m p=none->Walk m p [p]
 | step {p q l}:VY m p=some q->Walk m q l->Walk m p (p::l)
theorem Walk.walkP{m:Int}{p:List Int}{l:List (List Int)}(h:Walk m p l): ∀ f,l.length<=f->walkP m f p=l:=by
 induction h with
 | last h=>
  intro f hf
  cases f with
  | zero=>simp at hf
  | succ f=>simp[Go.Pl.walkP,h]
 | step h _ ih=>
  intro f hf
  cases f with
  | zero=>simp at hf
  | succ f=>simp only[Go.Pl.walkP,h];rw[ih f (by simpa using hf)]
theorem a1a(m x:Int): ∀ (k:Nat) (p:List Int),k<=p.length->Y1 m (k+1) (x::p) =
  match Y1 m k p with
  | some q=>some (x::q)
  | none=>if x=m then none else some ((x+1)::(List.replicate k 0++p.drop k)):=by
 intro k
 induction k with
 | zero=>intro p _;simp[Y1]
 | succ k ih=>
  intro p hp
  rw[Y1]
  have e:(x::p).getD (k+1) 0=p.getD k 0:=by simp[List.getD]
  rw[e]
  by_cases h:p.getD k 0=m
  ·have hn:Y1 m (k+1) p=Y1 m k (p.set k 0):=by rw[Y1,if_pos h]
   rw[if_pos h,hn]
   have:=ih (p.set k 0) (by simp;omega)
   rw[List.set_cons_succ,this]
   have e2:List.replicate k (0:Int)++(p.set k 0).drop k=List.replicate (k+1) 0++p.drop (k+1):=by
    rw[List.replicate_succ',List.append_assoc]
    congr 1
    rw[List.drop_eq_getElem_cons (show k<(p.set k 0).length by simp;omega),List.drop_set_of_lt (by omega)]
    simp
   rw[e2]
  ·have hn:Y1 m (k+1) p=some (p.set k (p.getD k 0+1)):=by rw[Y1,if_neg h]
   rw[if_neg h,hn]
   simp
theorem Hf(m x:Int)(p:List Int):VY m (x::p) =
  match VY m p with
  | some q=>some (x::q)
  | none=>if x=m then none else some ((x+1)::List.replicate p.length 0):=by
 have:=a1a m x p.length p (Nat.le_refl _)
 rw[List.drop_length,List.append_nil]at this
 exact this
theorem Di(m:Int): ∀ (k:Nat) (p q:List Int),Y1 m k p=some q->q.length=p.length:=by
 intro k
 induction k with
 | zero=>intro p q h;cases h
 | succ k ih=>
  intro p q h
  rw[Y1]at h
  split at h
  ·rw[ih _ _ h,List.length_set]
  ·cases h;rw[List.length_set]
theorem Walk.cons{m x:Int}{rest:List (List Int)}{p:List Int}{l:List (List Int)}(h:Walk m p l):(hr:(x=m∧rest=[])∨(x≠m∧Walk m ((x+1)::List.replicate p.length 0) rest))->Walk m (x::p) (l.map (x:: ·)++rest):=by
 induction h with
 | last h=>
  rename_i p
  rintro(⟨rfl,rfl⟩|⟨h1,h2⟩)
  ·refine .last ?_
   rw[Hf,h];simp
  ·refine .step ?_ h2
   rw[Hf,h];simp[h1]
 | step h _ ih=>
  rename_i p q l _
  intro hr
  refine .step (q:=x::q) ?_ (ih ?_)
  ·rw[Hf,h]
  ·rw[Di m _ _ _ h];exact hr
def c3y(m:Nat):List Int:=(List.range (m+1)).map fun(i:Nat)=>(i:Int)
def Jj(m:Nat):Nat->List (List Int)
 | 0=>[[]]
 | n+1=>(c3y m).flatMap fun x=>(Jj m n).map (x:: ·)
theorem Walk.from{m n:Nat}(h:Walk m (List.replicate n 0) (Jj m n)): ∀ (d i:Nat),i+d=m->Walk m ((i:Int)::List.replicate n 0) (((List.range' i (d+1)).map fun(i:Nat)=>(i:Int)).flatMap fun x=>(Jj m n).map (x:: ·)):=by
 intro d
 induction d with
 | zero=>
  intro i hi
  have:=h.cons (x:=(i:Int)) (rest:=[]) (.inl ⟨by omega,rfl⟩)
  simpa using this
 | succ d ih=>
  intro i hi
  have h1:=ih (i+1) (by omega)
  have:=h.cons (x:=(i:Int)) (.inr ⟨by omega,by rw[List.length_replicate];exact_mod_cast h1⟩)
  rw[List.range'_succ,List.map_cons,List.flatMap_cons]
  exact this
theorem DN(m:Nat): ∀ n,Walk m (List.replicate n 0) (Jj m n):=by
 intro n
 induction n with
 | zero=>exact .last rfl
 | succ n ih=>
  have:=ih.from m 0 (by omega)
  rw[<- List.range_eq_range']at this
  exact_mod_cast this
theorem GG(m:Nat): ∀ n,(Jj m n).length=(m+1) ^ n:=by
 intro n
 induction n with
 | zero=>rfl
 | succ n ih=>
  rw[Jj,List.length_flatMap]
  simp only[List.length_map,ih,c3y]
  rw[List.map_const',List.sum_replicate_nat,List.length_map,List.length_range,Nat.pow_succ,Nat.mul_comm]
theorem M3{m:Nat}{x:Int}:x∈c3y m ↔ 0<=x∧x<=m:=by
 unfold c3y
 rw[List.mem_map]
 constructor
 ·rintro⟨i,hi,rfl⟩
  have:=List.mem_range.1 hi
  omega
 ·rintro⟨h1,h2⟩
  exact⟨x.toNat,List.mem_range.2 (by omega),by omega⟩
theorem Gn{m:Nat}: ∀ {n:Nat} {p:List Int},p∈Jj m n ↔ p.length=n∧ ∀ x∈p,0<=x∧x<=m:=by
 intro n
 induction n with
 | zero=>
  intro p
  simp only[Jj,List.mem_singleton,List.length_eq_zero_iff]
  exact⟨fun h=>⟨h,by simp[h]⟩,fun h=>h.1⟩
 | succ n ih=>
  intro p
  simp only[Jj,List.mem_flatMap,List.mem_map]
  constructor
  ·rintro⟨x,hx,q,hq,rfl⟩
   obtain⟨h1,h2⟩:=ih.1 hq
   refine⟨by simp[h1],?_⟩
   intro y hy
   rcases List.mem_cons.1 hy with rfl|hy
   ·exact M3.1 hx
   ·exact h2 y hy
  ·rintro⟨h1,h2⟩
   cases p with
   | nil=>simp at h1
   | cons x q=>
    exact⟨x,M3.2 (h2 x (by simp)),q,ih.2 ⟨by simpa using h1,fun y hy=>h2 y (by simp[hy])⟩,rfl⟩
def KJ(x:List Int×List Coef):List PV:=[enc x.1,enc x.2]
def Qw:List (List PV)->Bool
 | [[v,.int .i64 m],[f]]=>VV (List Str) v&&VV (List Fact) f&&Y4 ⟨dec v,m⟩&&Zf (dec f)&&decide ((dec v:List Str).length<=1000)
 | _=>false
def Cw:List (List PV)->List (List Int×List Coef)
 | [[v,.int .i64 m],[f]]=>(ZY ⟨dec v,m⟩ (dec f)).map fun p=>(p,Zq (dec v) p)
 | _=>[]
theorem b2y(m:Nat): ∀ (l:List Str) (n r:Int),0<=n->Hl m l n=some r->r=n*((m:Int)+1) ^ l.length:=by
 intro l
 induction l with
 | nil=>intro n r _ h;simp only[Hl,Option.some.injEq]at h;simp[h]
 | cons s l ih=>
  intro n r hn h
  rw[Hl]at h
  split at h
  ·cases h
  ·rw[ih _ _ (Int.mul_nonneg hn (by omega)) h,List.length_cons,Int.pow_succ,Int.mul_assoc,Int.mul_comm ((m:Int)+1)]
theorem c3o(m:Nat): ∀ (l:List Str) (n r:Int),n<=20000->Hl m l n=some r->r<=20000:=by
 intro l
 induction l with
 | nil=>intro n r hn h;simp only[Hl,Option.some.injEq]at h;omega
 | cons s l ih=>
  intro n r hn h
  rw[Hl]at h
  split at h
  ·cases h
  ·exact ih _ _ (by omega) h
theorem UE{b:BoxT}:Y4 b=true ↔ b.v.all ZG=true∧b.v.Nodup∧(b.v=[]∨b.m<20000)∧0<=b.m∧(Hl b.m b.v 1).isSome=true:=by
 unfold Y4
 simp only[Bool.and_eq_true,decide_eq_true_eq,Bool.or_eq_true,List.isEmpty_iff]
 constructor
 ·rintro⟨⟨⟨⟨h1,h2⟩,h3⟩,h4⟩,h5⟩;exact⟨h1,h2,h3,h4,h5⟩
 ·rintro⟨h1,h2,h3,h4,h5⟩;exact⟨⟨⟨⟨h1,h2⟩,h3⟩,h4⟩,h5⟩
theorem Bi{b:BoxT}(h:Y4 b=true):(b.m.toNat+1) ^ b.v.length<=20000:=by
 obtain⟨_,_,_,h4,h5⟩:=UE.1 h
 obtain⟨r,hr⟩:=Option.isSome_iff_exists.1 h5
 have e:b.m=(b.m.toNat:Int):=by omega
 rw[e]at hr
 have h1:=b2y _ _ _ _ (by decide) hr
 have h2:=c3o _ _ _ _ (by decide) hr
 rw[Int.one_mul]at h1
 have:(((b.m.toNat+1) ^ b.v.length:Nat):Int)=r:=by rw[h1];simp
 omega
theorem Um{b:BoxT}(h:Y4 b=true):c9f b=Jj b.m.toNat b.v.length:=by
 obtain⟨_,_,_,h4,_⟩:=UE.1 h
 have hw:=DN b.m.toNat b.v.length
 have hl:=GG b.m.toNat b.v.length
 have:=Bi h
 have e:(b.m.toNat:Int)=b.m:=by omega
 rw[e]at hw
 have ez:Wu b.v=List.replicate b.v.length 0:=List.map_const' ..
 unfold c9f
 rw[ez]
 exact hw.walkP 20001 (by omega)
def KG(l:Lin)(s:Str):Lin:=if Xw l.t s.s=0 then VD l s 1 else l
def UK(ls:List Lin):List Str:=Zg (ls.foldl (fun o l=>(Zg l).foldl KG o) ⟨0,[]⟩)
def VP(ls:List Lin):Bool:=decide (ls.length<=1000)&&ls.all fun l=>decide (l.t.length<=1000)
def a4k(m:Int):List Str->Int->Int
 | [],n=>n
 | _::r,n=>a4k m r (n*(m+1))
def QX(b:BoxT)(fs:List Fact):Bool:=decide (b.v.length<=5)&&decide ((if Y4 b then a4k b.m b.v 1 else 1)<=300)&&decide (fs.length<=6)&&CK fs 6
def Xz:List Str->List Str->Int
 | [],b=> -(b.length:Int)
 | a,[]=>(a.length:Int)
 | x::a,y::b=>if x.s<y.s then -1 else if y.s<x.s then 1 else Xz a b
def Q4:List Str->Bool
 | x::y::r=> !decide (y.s<x.s)&&Q4 (y::r)
 | _=>true
def Y0(m:Mono):Bool:=decide (m.c≠0)&&decide (-1099511627776<=m.c)&&decide (m.c<=1099511627776)&&decide (m.v.length<=8)&&Q4 m.v&&m.v.all ZG
def CR:List Mono->Bool
 | x::y::r=>decide (Xz x.v y.v<0)&&CR (y::r)
 | _=>true
def ZJ(p:List Mono):Bool:=decide (p.length<=60)&&p.all Y0&&CR p
def Vt(l:List Str)(s:Str):List Str:=match l with
 | []=>[s]
 | t::r=>if t.s<s.s then t::Vt r s else if t=s then t::r else s::t::r
def XV(p:List Mono):List Str:=if ZJ p then(p.flatMap (·.v)).foldl Vt []else []
def Xi(p:List Mono):Bool:=Zr p&&p.all fun m=>XX m.v
theorem AZ(s:Str): ∀ l:List Str,(Vt l s).length<=l.length+1
 | []=>by simp[Vt]
 | t::r=>by
  have:=AZ s r
  rw[Vt]
  split
  ·simp only[List.length_cons];omega
  ·split <;> simp only[List.length_cons] <;> omega
theorem RF: ∀ (l o:List Str),(l.foldl Vt o).length<=l.length+o.length
 | [],o=>by simp
 | s::l,o=>by
  have h1:=RF l (Vt o s)
  have h2:=AZ s o
  rw[List.foldl_cons,List.length_cons];omega
theorem b0y{p:List Mono}(h : ∀ m∈p,m.v.length<=8):(p.flatMap (·.v)).length<=p.length*8:=by
 induction p with
 | nil=>simp
 | cons m p ih=>
  have h1:=h m (by simp)
  have h2:=ih fun x hx=>h x (by simp[hx])
  rw[List.flatMap_cons,List.length_append,List.length_cons];omega
theorem Fx{p:List Mono}(h:ZJ p=true):p.length<=60∧ ∀ m∈p,m.v.length<=8:=by
 unfold ZJ at h
 simp only[Bool.and_eq_true,decide_eq_true_eq,List.all_eq_true]at h
 refine⟨h.1.1,fun m hm=> ?_⟩
 have:=h.1.2 m hm
 unfold Y0 at this
 simp only[Bool.and_eq_true,decide_eq_true_eq]at this
 omega
theorem a8n(p:List Mono):(XV p).length<=480:=by
 unfold XV
 split
 ·rename_i h
  obtain⟨h1,h2⟩:=Fx h
  have h3:=b0y h2
  have h4:=RF (p.flatMap (·.v)) []
  rw[List.length_nil]at h4
  omega
 ·simp
def Ty(x y:Str):Int:=if x.s<y.s then -1 else if y.s<x.s then 1 else 0
def Du:List Str->List Str->Int
 | [],[]=>0
 | [],_::_=> -1
 | _::_,[]=>1
 | x::a,y::b=>if x.s<y.s then -1 else if y.s<x.s then 1 else Du a b
def Yo(p:List Mono):Bool:=Zr p&&p.all fun m=>XX m.v
def X4(p:List Mono):List Str:=p.flatMap (·.v)
def XA(p:List Mono):List (List UInt8):=WR ((X4 p).map (·.s))
def YK(p:List Mono):List Str:=(Lib.compact (XA p)).map Str.mk
def Uw(p:PV):List Mono:=dec p
def QD:List AV->List AObj->Bool
 | [.pv a],[]=>VV (List Mono) a&&Yo (dec a)&&ZJ (dec a)&& !(X4 (dec a)).isEmpty
 | _,_=>false
def PL:List AV->List AObj->AV×List AObj×List AObj
 | [.pv a],_=>(.row 0 (XA (Uw a)).length 0 (Lib.compact (XA (Uw a))).length,[],[.row false 9 1 ((VW (XA (Uw a))).map .str)])
 | _,_=>VM
def PG:List AV->List AObj->AV×List AObj×List AObj
 | [.pv a],_=>Jn (YK (Uw a))
 | _,_=>VM
def Jr:List AV->List AObj->Bool
 | [.pv a],[]=>VV (List Mono) a&&Yo (dec a)&&(!ZJ (dec a)||(X4 (dec a)).isEmpty)
 | _,_=>false
def Bh:List AV->List AObj->AV×List AObj×List AObj:=fun _ _=>(.pv (.sl 0 true []),[],[])
def Ac(a b:Int):Int×Int:=if Qr a&&Qr b&&Qr (a*b)then(a*b,0)else(0,2)
def Ub(l:List Int):Int×Int:=if l.all Qr&&Qr l.sum then(l.sum,0)else(0,2)
def a3u:Int->List Int->Int×Int
 | o,[]=>(o,0)
 | o,n::r=>if (Ac o n).2≠0 then(0,(Ac o n).2)else a3u (Ac o n).1 r
def Xp(l:List Int):Int×Int:=if l.contains 0 then(0,0)else a3u 1 l
def LJ(vs:List Coef):List Str->Option (List Int)
 | []=>some []
 | s::r=>match QA vs s with
  | none=>none
  | some x=>(LJ vs r).map (x:: ·)
def Ee(vs:List Coef):List Mono->Option (List (List Int))
 | []=>some []
 | m::r=>match LJ vs m.v with
  | none=>none
  | some l=>(Ee vs r).map ((m.c::l):: ·)
def YN:List (List Int)->Option (List Int)
 | []=>some []
 | l::r=>if (Xp l).2≠0 then none else(YN r).map ((Xp l).1:: ·)
def badF(fs:List (List Int)):Bool:=fs.any fun l=>l.tail.any fun x=> !Qr x
def Xa(p:List Mono)(vs:List Coef):Int×Int:=
 if ZJ p then(match Ee vs p with
  | none=>(0,7)
  | some fs=>if badF fs then(0,2)else match YN fs with
   | none=>(0,2)
   | some l=>Ub l)
 else(0,1)
def Gv:List AV->List AObj->Bool
 | [.pv x,.ptr 0 0],[.box [.pv (.str v)]]=>VV Coef x
 | _,_=>false
def Be:List AV->List AObj->AV×List AObj×List AObj
 | [.pv x,_],[.box [.pv (.str v)]]=>(.pv (.bool ((dec x:Coef).v.s==v)),[.box [.pv (.str v)]],[])
 | _,_=>VM
def Uv(g:Nat):List AV->List AObj->Bool
 | [.pv l,.fn g' [] [.ptr 0 0]],[.box [.pv (.str v)]]=>g'==g&&VV (List Coef) l&&decide ((dec l:List Coef).length<=9223372036854775807)
 | _,_=>false
def KM(p:PV):List Coef:=dec p
def CW:List AV->List AObj->AV×List AObj×List AObj
 | [.pv l,_],[.box [.pv (.str v)]]=>(.pv (.int .i64 (ZI (fun t:Coef=>t.v.s==v) (KM l))),[.box [.pv (.str v)]],[])
 | _,_=>VM
def WS(n:Int):Int:=n / 2147483648
def Ws(n:Int):Int:=n % 2147483648
def UN:List AV->List AObj->Bool
 | [.pv (.int .i64 n),.ptr 0 0,.ptr 1 0],[.box [.pv (.sl 0 true [])],.box [.pv (.sl 0 true [])]]=>true
 | [.pv (.int .i64 n),.ptr 0 0,.ptr 1 0],[.box [.row 2 q 0 q'],.box [.row 3 r 0 r'],.row false ty 1 xs,.row false ty' 1 ys]=>q'==q&&r'==r&&r==q&&ty==3&&ty'==3&&xs.length==q&&ys.length==q&&decide (q<=1000000)
 | _,_=>false
def Qu:List AV->List AObj->AV×List AObj×List AObj
 | [.pv (.int .i64 n),_,_],[.box [.pv (.sl 0 true [])],.box [.pv (.sl 0 true [])]]=>(.tup [],[.box [.row 2 1 0 1],.box [.row 3 1 0 1]],[.row false 3 1 [.int .i64 (WS n)],.row false 3 1 [.int .i64 (Ws n)]])
 | [.pv (.int .i64 n),_,_],[.box [.row 2 q 0 _],.box [.row 3 _ 0 _],.row _ _ _ xs,.row _ _ _ ys]=>(.tup [],[.box [.row 2 (q+1) 0 (q+1)],.box [.row 3 (q+1) 0 (q+1)],.row false 3 1 (xs++[.int .i64 (WS n)]),.row false 3 1 (ys++[.int .i64 (Ws n)])],[])
 | _,_=>VM
def Ew:List Int->List Int->Int
 | x::a,y::b=>x*y+Ew a b
 | _,_=>0
def DV(a b:List Int):Int×Int:=if a.length=b.length then(if a.all Qr&&b.all Qr&&Qr (Ew a b)then(Ew a b,0)else(0,2))else(0,1)
def UB(p:List Mono)(vs:List Str):List (List Int)->Option (List Int)
 | []=>some []
 | q::r=>if (Xa p (Zq vs q)).2≠0 then none else(UB p vs r).map ((Xa p (Zq vs q)).1:: ·)
def J5(b:BoxT)(fs:List Fact)(p:List Mono):Bool:=ZH b&&Zf fs&&decide (fs.length<=100)&&decide (b.v.length<=1000)&&Yo p
def WV(b:BoxT)(fs:List Fact)(p:List Mono):Int×Int:=
 if Zv b fs (ZJ p) (YK p)=0 then(match UB p b.v (ZY b fs)with|none=>(0,2)|some l=>Ub l)else(0,Zv b fs (ZJ p) (YK p))
theorem b6f: ∀ args os,Xn args os=true->Ze OV os.length (Zt os.length Ms fun r=>r=Vd args os) PQ [] (YV b9y args os):=by
 intro args os h
 unfold Xn at h
 split at h
 ·rename_i v m f
  simp only[Bool.and_eq_true]at h
  obtain⟨h1,h2⟩:=h
  obtain⟨vs,rfl⟩:=YB h1
  obtain⟨fs,rfl⟩:=YB h2
  exact c6x ⟨vs,m⟩ fs rfl
 ·cases h
theorem Uy(b:BoxT)(fs:List Fact)(ok:Bool)(ns:List Str)(h:Zv b fs ok ns=0):Y4 b=true∧YC fs=true∧ok=true∧YQ b.v (ns++fs.flatMap fun f=>Zg f.l)=true:=by
 unfold Zv at h
 split at h
 ·cases h
 ·rename_i h1
  simp only[Bool.or_eq_true,Bool.not_eq_true',not_or,Bool.not_eq_false]at h1
  split at h
  ·rename_i h2
   exact⟨h1.1.1,h1.1.2,h1.2,h2⟩
  ·cases h
theorem a3r{b:BoxT}{fs:List Fact}(h:Y4 b=true):(ZY b fs).length<=20000:=by
 unfold ZY
 refine Nat.le_trans (List.length_filter_le _ _) ?_
 rw[Um h,GG]
 exact Bi h
def gpI(b:BoxT)(fs:List Fact)(k:Nat)(σ:ZC):Prop:=
 (k=0∧σ=[.obj (.box [.pv (.sl 0 true [])])])∨(k≠0∧k<=(ZY b fs).length∧σ=[.obj (.box [.row 1 k 0 k]),.obj (.row false 34 1 (((ZY b fs).take k).map enc))])
def gpE:YL:=fun n st q=>n=0∧DL JR 0 (.t 17) 177 [18,19] [(8,18)] QF KJ Qw Cw st q
theorem Tw(b:BoxT)(fs:List Fact):Cw [[enc b.v,.int .i64 b.m],[enc fs]]=(ZY b fs).map fun p=>(p,Zq b.v p):=by
 show((ZY ⟨dec (enc b.v:PV),b.m⟩ (dec (enc fs:PV))).map fun p=>(p,Zq (dec (enc b.v:PV)) p))=_
 rw[Enc.dec_enc,Enc.dec_enc]
theorem Af{b:BoxT}{fs:List Fact}(hb:Y4 b=true)(hf:Zf fs=true)(hl:b.v.length<=1000):Qw [[enc b.v,.int .i64 b.m],[enc fs]]=true:=by
 show(VV (List Str) (enc b.v)&&VV (List Fact) (enc fs)&&Y4 ⟨dec (enc b.v:PV),b.m⟩&&Zf (dec (enc fs:PV))&&decide ((dec (enc b.v:PV):List Str).length<=1000))=true
 rw[Yb,Yb,Enc.dec_enc,Enc.dec_enc,hf,decide_eq_true hl]
 simp[hb]
theorem b0x(b:BoxT)(fs:List Fact)(hv:Y4 b=true)(k:Nat)(p:List Int)(vs:List Coef)(σ:ZC)(hp:(ZY b fs)[k]? = some p)(h:gpI b fs k σ):
  ZM JR (fun n S' _=>n=99∧gpI b fs (k+1) S'.heap) σ.length (fun st=>False) (.inl QF) [.seq (.ext 99 [])] ⟨Z4 25 0 [(7,.ptr 0 0),(8,.pv (enc p)),(18,.pv (enc p)),(19,.pv (enc vs))],σ⟩:=by
 have hk:=(List.getElem?_eq_some_iff.1 hp).1
 have hkp:=(List.getElem?_eq_some_iff.1 hp).2
 have hl:=a3r (fs:=fs) hv
 rcases h with ⟨rfl,rfl⟩|⟨hne,hk',rfl⟩
 ·refine c3w (G:=fun _=>False) _ p vs ⟨rfl,.inr ⟨by simp,by omega,?_⟩⟩
  have e:(ZY b fs).take (0+1)=[p]:=by rw[List.take_succ_eq_append_getElem hk,hkp];rfl
  rw[e]
  rfl
 ·have e:(ZY b fs).take (k+1)=(ZY b fs).take k++[p]:=by rw[List.take_succ_eq_append_getElem hk,hkp]
  have el:((ZY b fs).take k).length=k:=by rw[List.length_take];omega
  refine c4m (G:=fun _=>False) _ p vs k ((ZY b fs).take k) ⟨?_,rfl,.inr ⟨by omega,by omega,?_⟩⟩
  ·rw[List.length_map,el]
   show((k==k)&&(k==k)&&decide ((k+1)*24<=1099511627776)&&decide (k+1<=1099511627776))=true
   rw[decide_eq_true (by omega),decide_eq_true (by omega)];simp
  ·rw[e,List.map_append]
   rfl
theorem c1f: ∀ x:BoxT×List Fact×Unit,(ZH x.1&&Zf x.2.1&&decide (x.2.1.length<=100)&&decide (x.1.v.length<=1000))=true->KL JR gpE 0 (Zb Dv (Zi (Zo x.1 x.2.1))) Df [] (Yk c5x (encL x)):=by
 rintro⟨b,fs,⟨⟩⟩ hp
 simp only[Bool.and_eq_true,decide_eq_true_eq]at hp
 obtain⟨⟨⟨h1,h2⟩,h3⟩,h4⟩:=hp
 refine d0n gpE b fs ⟨Zl (b,fs,true,⟨⟩,()) rfl (by simp[h1,h2,h3]),Zk (b,fs,true,⟨⟩,()) rfl ?_⟩
 show if (Zv b fs true [] != 0)=true then _ else _
 by_cases h0:Zv b fs true []=0
 ·rw[if_neg (by simp[h0])]
  obtain⟨hv,_⟩:=Uy b fs true [] h0
  have hpt:Zo b fs=(ZY b fs,0):=by unfold Zo;rw[if_pos h0]
  rw[hpt]
  refine⟨?_,rfl,[1,2],[[enc b.v,.int .i64 b.m],[enc fs]],[7],[],⟨Z4 25 0 [(7,.ptr 0 0)],[.obj (.box [.pv (.sl 0 true [])])]⟩,gpI b fs,fun _=>False,rfl,by simp,rfl,?_,by kernel_rfl,Af hv h2 h4,.inl ⟨rfl,rfl⟩,?_,?_,fun σ h=>h.elim⟩
  ·show(VV (List Str) (enc b.v)&&VV (List Fact) (enc fs))=true
   rw[Yb,Yb];rfl
  ·intro j l ps hl hps
   match j with
   | 0=>cases hl;cases hps;rfl
   | 1=>cases hl;cases hps;rfl
   | j+2=>simp at hl
  ·intro k x σ hx hI
   rw[Tw,List.getElem?_map]at hx
   obtain⟨p,hp,rfl⟩:=Option.map_eq_some_iff.1 hx
   have e:TC [(8,18)] (CQ [18,19] ((KJ (p,Zq b.v p)).map .pv) (Z4 25 0 [(7,.ptr 0 0)]))=Z4 25 0 [(7,.ptr 0 0),(8,.pv (enc p)),(18,.pv (enc p)),(19,.pv (enc (Zq b.v p)))]:=by kernel_rfl
   have:=b0x b fs hv k p (Zq b.v p) σ hp hI
   rw[<- e]at this
   exact this
  ·intro σ hI
   rw[Tw,List.length_map]at hI
   rcases hI with ⟨e,rfl⟩|⟨e,_,rfl⟩
   ·refine c0l gpE b fs ?_
    rw[List.length_eq_zero_iff.1 e]
    exact⟨rfl,rfl⟩
   ·refine c3i gpE b fs (ZY b fs).length ((ZY b fs).take (ZY b fs).length) ⟨by simp,?_⟩
    rw[List.take_length,List.drop_zero,List.take_of_length_le (by simp)]
    exact Z0 (x:=((ZY b fs),(0:Int))) rfl
 ·rw[if_pos (by simpa using h0)]
  have hpt:Zo b fs=([],Zv b fs true []):=by unfold Zo;rw[if_neg h0]
  rw[hpt]
  exact⟨rfl,rfl⟩
theorem O9: ∀ x:BoxT×List Fact×Unit,(ZH x.1&&Zf x.2.1&&decide (x.2.1.length<=100)&&decide (x.1.v.length<=1000))=true->Ze AJ 0 (Zb D6 (Zi (D8 x.1 x.2.1))) DF [] (Yk a6c (encL x)):=by
 rintro⟨b,fs,⟨⟩⟩ hp
 refine b0v b fs ⟨Zl (b,fs,()) rfl hp,Zk (b,fs,()) rfl ?_⟩
 rw[List.length_map]
 exact Z0 (x:=((((Zo b fs).1.length:Nat):Int),(Zo b fs).2)) rfl
end Go.Pl
namespace Go.Pl
open Go.RowKit
open Enc (enc dec is)
open EncL (encL decL isL)
set_option maxRecDepth 100000
def Uj:IC:=(Zh [Za 1 (.box 2 (.t 0)) 0,Za 2 (Xo false) 1] (Zh [Za 3 (.mv (Zy 1)) 0] (.seq (Zh [Za 4 (.mv (Zy 0)) 0] (.block 0 (.loop [4,1,3] (.seq (Zh [Za 6 (Zc 4) 0,Za 7 (.faddr 0 (.t 1)) 0,Za 8 (Yl [(.sl 1)] (.t 7)) 0,Za 9 (.len 1 (.t 8)) 0,Za 10 (ZA .lss (.t 6) (.t 9)) 0] (.cond (.t 10) .skip (.exit 0))) (.seq (.block 1 (.seq (Zh [Za 13 (.faddr 0 (.t 1)) 0,Za 14 (Yl [(.sl 1)] (.t 13)) 0,Za 15 (Zc 4) 0,Za 16 (.iaddr 1 (.t 14) (.t 15)) 0,Za 17 (.load false [.str] (.t 16)) 0,Za 18 (YT 84 [(.t 17)]) 0,Za 19 (.un .not (.t 18)) 2,Za 20 (Zc 19) 2,ZX 21 (.faddr 1 (.t 1)) 2 20,ZX 22 (Yl [(.int .i64)] (.t 21)) 2 20,ZX 23 (ZA .geq (.t 22) (Zy 20000)) 2 20,Za 24 (.pick (.t 20) (.c (.bool true)) (.t 23)) 2] (.cond (.t 24) (Zh [Za 2 (Xo false) 0] .ret) .skip)) (.seq (Zh [Za 5 (.mv (Zy 0)) 0] (.block 2 (.loop [5,4,1,3] (.seq (Zh [Za 25 (Zc 5) 0,Za 26 (Zc 4) 0,Za 27 (ZA .lss (.t 25) (.t 26)) 0] (.cond (.t 27) .skip (.exit 2))) (.seq (.block 3 (.seq (.reg [Za 30 (.faddr 0 (.t 1)) 0,Za 31 (Yl [(.sl 1)] (.t 30)) 0,Za 32 (Zc 5) 0,Za 33 (.iaddr 1 (.t 31) (.t 32)) 0,Za 34 (.load false [.str] (.t 33)) 0,Za 35 (.faddr 0 (.t 1)) 0,Za 36 (Yl [(.sl 1)] (.t 35)) 0,Za 37 (Zc 4) 0,Za 38 (.iaddr 1 (.t 36) (.t 37)) 0,Za 39 (.load false [.str] (.t 38)) 0,Za 40 (ZA .eql (.t 34) (.t 39)) 0] (some [[],[0],[],[1,2,0],[3,1,2,0],[],[5],[],[6,7,5],[8,6,7,5],[4,9,3,1,2,0,8,6,7,5]])) (.cond (.t 40) (Zh [Za 2 (Xo false) 0] .ret) .skip))) (.reg [Za 28 (Zc 5) 0,Za 29 (ZA .add (.t 28) (Zy 1)) 0,Za 5 (Zc 29) 0] none)))))) (Zh [Za 41 (Zc 3) 0,Za 42 (ZA .leq (.t 41) (Zy 20000)) 0] (.cond (.t 42) (.reg [Za 43 (Zc 3) 0,Za 44 (.faddr 1 (.t 1)) 0,Za 45 (Yl [(.int .i64)] (.t 44)) 0,Za 46 (ZA .add (.t 45) (Zy 1)) 0,Za 47 (ZA .mul (.t 43) (.t 46)) 0,Za 3 (Zc 47) 0] none) .skip))))) (.reg [Za 11 (Zc 4) 0,Za 12 (ZA .add (.t 11) (Zy 1)) 0,Za 4 (Zc 12) 0] none)))))) (Zh [Za 48 (.faddr 1 (.t 1)) 0,Za 49 (Yl [(.int .i64)] (.t 48)) 0,Za 50 (ZA .geq (.t 49) (Zy 0)) 0,Za 51 (Zc 50) 0,Z6 52 (Zc 3) 0 51,Z6 53 (ZA .leq (.t 52) (Zy 20000)) 0 51,Za 54 (.pick (.t 51) (.t 53) (.c (.bool false))) 0,Za 2 (Zc 54) 0] .ret))))
def Uf:List IRes:=[(.tmp 2)]
abbrev c6b:Nat:=55
def Q7:ZO:=Xc [(84,.pure (preT (fun _:Str×Unit=>true)) (Zj (fun x:Str×Unit=>ZG x.1)))]
theorem d0f{G:PV->Prop}(b:BoxT)(h:At Q7 0 (Zb Uf G) Uj 0 55 [(1,(.ptr 0 0)),(3,(.pv (.int .i64 1))),(4,(.pv (.int .i64 0)))] [(.obj (.box [(.pv (.sl 1 false (List.map enc b.v))),(.pv (.int .i64 b.m))]))]):Ze Q7 0 (Zb Uf G) Uj [] (Yk 55 [enc b]):=Ze.tp (.nil) h (by kernel_rfl)
theorem b5x{G:PV->Prop}(b:BoxT)(n i:Int)(h:if (decide (i<(↑(List.length (List.map enc b.v)):Int)))=true then(decide (0<=i)&&decide (Int.toNat i<List.length (List.map enc b.v))&&Enc.sz Str==1)=true∧(∃ y0:Str,AV.pv (PV.rptr (PV.cells (List.getD (List.map enc b.v) (Int.toNat i) default)))=AV.pv (PV.rptr (PV.cells ((enc) y0)))∧(∃ y1:Bool,AV.pv (Zj (fun(x:Str×Unit)=>ZG x.1) [(.str (PV.asStr (List.getD (PV.cells (enc y0)) 0 default)))])=AV.pv (enc y1)∧(if (!y1)=true then G ((.bool false))else(if (decide (BoxT.m b ≥ 20000))=true then G ((.bool false))else(At Q7 0 (Zb Uf G) Uj 1 55 [(1,(.ptr 0 0)),(3,(.pv (.int .i64 n))),(4,(.pv (.int .i64 i))),(5,(.pv (.int .i64 0)))] [(.obj (.box [(.pv (.sl 1 false (List.map enc b.v))),(.pv (.int .i64 b.m))]))])))))else(if (decide (BoxT.m b ≥ 0))=true then G ((.bool (decide (n<=20000))))else(G ((.bool false))))):At Q7 0 (Zb Uf G) Uj 0 55 [(1,.ptr 0 0),(3,.pv (.int .i64 n)),(4,.pv (.int .i64 i))] [.obj (.box [.pv (enc b.v),.pv (.int .i64 b.m)])]:=At.tp (.lit (.ask (.req (.abs (Str) (fun YY=>AV.pv (PV.rptr (PV.cells ((enc) YY)))) (.lit (.lit (.abs (Bool) (fun YY=>AV.pv (enc YY)) (.ask (.lit (.lit (.lit (.lit (.nil))))) (.lit (.lit (.lit (.lit (.ask (.nil) (.nil)))))))))))) (.lit (.ask (.lit (.lit (.lit (.nil)))) (.lit (.lit (.nil))))))) h (by kernel_rfl)
theorem b4c{G:PV->Prop}(b:BoxT)(n i k:Int)(h:if (decide (k<i))=true then(decide (0<=k)&&decide (Int.toNat k<List.length (List.map enc b.v))&&Enc.sz Str==1)=true∧(∃ y0:Str,AV.pv (PV.rptr (PV.cells (List.getD (List.map enc b.v) (Int.toNat k) default)))=AV.pv (PV.rptr (PV.cells ((enc) y0)))∧((decide (0<=i)&&decide (Int.toNat i<List.length (List.map enc b.v))&&Enc.sz Str==1)=true∧(∃ y1:Str,AV.pv (PV.rptr (PV.cells (List.getD (List.map enc b.v) (Int.toNat i) default)))=AV.pv (PV.rptr (PV.cells ((enc) y1)))∧(if (PV.asStr (List.getD (PV.cells (enc y0)) 0 default)==PV.asStr (List.getD (PV.cells (enc y1)) 0 default))=true then G ((.bool false))else(At Q7 0 (Zb Uf G) Uj 1 55 [(1,(.ptr 0 0)),(3,(.pv (.int .i64 n))),(4,(.pv (.int .i64 i))),(5,(.pv (.int .i64 (IntKind.wrap IntKind.i64 (k+1)))))] [(.obj (.box [(.pv (.sl 1 false (List.map enc b.v))),(.pv (.int .i64 b.m))]))])))))else(if (decide (n<=20000))=true then At Q7 0 (Zb Uf G) Uj 0 55 [(1,(.ptr 0 0)),(3,(.pv (.int .i64 (IntKind.wrap IntKind.i64 (n*IntKind.wrap IntKind.i64 (BoxT.m b+1)))))),(4,(.pv (.int .i64 (IntKind.wrap IntKind.i64 (i+1)))))] [(.obj (.box [(.pv (.sl 1 false (List.map enc b.v))),(.pv (.int .i64 b.m))]))]else(At Q7 0 (Zb Uf G) Uj 0 55 [(1,(.ptr 0 0)),(3,(.pv (.int .i64 n))),(4,(.pv (.int .i64 (IntKind.wrap IntKind.i64 (i+1)))))] [(.obj (.box [(.pv (.sl 1 false (List.map enc b.v))),(.pv (.int .i64 b.m))]))]))):At Q7 0 (Zb Uf G) Uj 1 55 [(1,.ptr 0 0),(3,.pv (.int .i64 n)),(4,.pv (.int .i64 i)),(5,.pv (.int .i64 k))] [.obj (.box [.pv (enc b.v),.pv (.int .i64 b.m)])]:=At.tp (.lit (.ask (.req (.abs (Str) (fun YY=>AV.pv (PV.rptr (PV.cells ((enc) YY)))) (.lit (.req (.abs (Str) (fun YY=>AV.pv (PV.rptr (PV.cells ((enc) YY)))) (.lit (.lit (.ask (.nil) (.lit (.nil)))))))))) (.lit (.ask (.lit (.lit (.lit (.nil)))) (.lit (.nil)))))) h (by kernel_rfl)
def WM:IC:=(Zh [Za 2 (.box 2 (.t 0)) 0,Za 4 (.mv (.c (.sl 0 true []))) 1] (Zh [Za 5 (.mv (.c (.sl 0 true []))) 0] (.seq (Zh [Za 6 (.mv (Zy 0)) 0] (.block 0 (.loop [6,2,1,5] (.seq (Zh [Za 7 (Zc 6) 0,Za 8 (.faddr 0 (.t 2)) 0,Za 9 (Yl [(.sl 1)] (.t 8)) 0,Za 10 (.len 1 (.t 9)) 0,Za 11 (ZA .lss (.t 7) (.t 10)) 0,Za 12 (Zc 11) 0,Z6 13 (Zc 6) 0 12,Z6 14 (Zc 1) 0 12,Z6 15 (.len 1 (.t 14)) 0 12,Z6 16 (ZA .lss (.t 13) (.t 15)) 0 12,Za 17 (.pick (.t 12) (.t 16) (.c (.bool false))) 0] (.cond (.t 17) .skip (.exit 0))) (.seq (.block 1 (.reg [Za 20 (Zc 5) 0,Za 21 (.faddr 0 (.t 2)) 0,Za 22 (Yl [(.sl 1)] (.t 21)) 0,Za 23 (Zc 6) 0,Za 24 (.iaddr 1 (.t 22) (.t 23)) 0,Za 25 (.load false [.str] (.t 24)) 0,Za 26 (Zc 1) 0,Za 27 (Zc 6) 0,Za 28 (.iaddr 1 (.t 26) (.t 27)) 0,Za 29 (Yl [(.int .i64)] (.t 28)) 0,Za 30 (.build [(.str []),(.int .i64 0)] [(0,(1,(.t 25))),(1,(1,(.t 29)))]) 0,Za 31 (.bslice 63 2 1 (.agg [(.str []),(.int .i64 0)]) [(0,(.t 30))]) 0,Za 32 (.append 63 2 24 (.t 20) (.t 31)) 1,Za 5 (Zc 32) 2] (some [[],[],[1],[],[2,3,1],[4,2,3,1],[],[],[6,7],[8,6,7],[5,9,4,2,3,1,8,6,7],[10,5,9,4,2,3,1,8,6,7],[0,11,10,5,9,4,2,3,1,8,6,7],[12,0,1,2,3,4,5,6,7,8,9,10,11]]))) (.reg [Za 18 (Zc 6) 0,Za 19 (ZA .add (.t 18) (Zy 1)) 0,Za 6 (Zc 19) 0] none)))))) (Zh [Za 33 (Zc 5) 0,Za 4 (Zc 33) 0] .ret))))
def WK:List IRes:=[(.tmp 4)]
abbrev a9c:Nat:=34
def Vv:ZO:=Xc []
theorem a6a{G:AV×List AObj×List AObj->Prop}(b:BoxT)(m:Nat)(p:List Int)(h:At Vv 1 (WT 1 WK G) WM 0 34 [(1,(.row 0 m 0 m)),(2,(.ptr 1 0)),(5,(.pv (.sl 0 true []))),(6,(.pv (.int .i64 0)))] [(.obj (.row false 3 1 (List.map enc p))),(.obj (.box [(.pv (.sl 1 false (List.map enc b.v))),(.pv (.int .i64 b.m))]))]):Ze Vv 1 (WT 1 WK G) WM [] (YV 34 [.pv (enc b),.row 0 m 0 m] [.row false 3 1 (p.map enc)]):=Ze.tf (.nil) h (by kernel_rfl)
theorem K7{G:AV×List AObj×List AObj->Prop}(b:BoxT)(m:Nat)(p:List Int)(i:Int)(h:if (decide (i<(↑(List.length (List.map enc b.v)):Int)))=true then if (decide (i<(↑(m - 0):Int)))=true then(decide (0<=i)&&decide (Int.toNat i<List.length (List.map enc b.v))&&Enc.sz Str==1)=true∧(∃ y0:Str,AV.pv (PV.rptr (PV.cells (List.getD (List.map enc b.v) (Int.toNat i) default)))=AV.pv (PV.rptr (PV.cells ((enc) y0)))∧((decide (0<=i)&&decide (0+Int.toNat i<m)&&List.length (List.map enc p)==m)=true∧((List.length (List.map enc p)==m&&decide (0+Int.toNat i<List.length (List.map enc p)))=true∧((decide (0+List.length [Sh.int .i64]<=List.length (PV.cells (List.getD (List.map enc p) (0+Int.toNat i) default)))&&Yx (PV.cells (List.getD (List.map enc p) (0+Int.toNat i) default)) 0 [Sh.int .i64])=true∧(At Vv 1 (WT 1 WK G) WM 0 34 [(1,(.row 0 m 0 m)),(2,(.ptr 1 0)),(5,(.row 2 1 0 1)),(6,(.pv (.int .i64 (IntKind.wrap IntKind.i64 (i+1)))))] [(.obj (.row false 3 1 (List.map enc p))),(.obj (.box [(.pv (.sl 1 false (List.map enc b.v))),(.pv (.int .i64 b.m))])),(.obj (.row false 63 2 [(.agg [(.str (PV.asStr (List.getD (PV.cells (enc y0)) 0 default))),(.int .i64 (PV.asInt (List.getD (PV.cells (List.getD (List.map enc p) (0+Int.toNat i) default)) 0 default)))])]))])))))else(G (((.pv (.sl 0 true [])),([(.row false 3 1 (List.map enc p))],[]))))else(G (((.pv (.sl 0 true [])),([(.row false 3 1 (List.map enc p))],[]))))):At Vv 1 (WT 1 WK G) WM 0 34 [(1,.row 0 m 0 m),(2,.ptr 1 0),(5,.pv (.sl 0 true [])),(6,.pv (.int .i64 i))] [.obj (.row false 3 1 (p.map enc)),.obj (.box [.pv (enc b.v),.pv (.int .i64 b.m)])]:=At.tf (.lit (.ask (.lit (.lit (.lit (.lit (.lit (.ask (.req (.abs (Str) (fun YY=>AV.pv (PV.rptr (PV.cells ((enc) YY)))) (.lit (.req (.keep (.req (.req (.lit (.lit (.lit (.lit (.lit (.lit (.nil)))))))))))))) (.nil))))))) (.lit (.lit (.lit (.lit (.lit (.nil)))))))) h (by kernel_rfl)
theorem Jd{G:AV×List AObj×List AObj->Prop}(b:BoxT)(m:Nat)(p:List Int)(i:Int)(q:Nat)(vs:List Coef)(h:if (decide (i<(↑(List.length (List.map enc b.v)):Int)))=true then if (decide (i<(↑(m - 0):Int)))=true then(decide (0<=i)&&decide (Int.toNat i<List.length (List.map enc b.v))&&Enc.sz Str==1)=true∧(∃ y0:Str,AV.pv (PV.rptr (PV.cells (List.getD (List.map enc b.v) (Int.toNat i) default)))=AV.pv (PV.rptr (PV.cells ((enc) y0)))∧((decide (0<=i)&&decide (0+Int.toNat i<m)&&List.length (List.map enc p)==m)=true∧((List.length (List.map enc p)==m&&decide (0+Int.toNat i<List.length (List.map enc p)))=true∧((decide (0+List.length [Sh.int .i64]<=List.length (PV.cells (List.getD (List.map enc p) (0+Int.toNat i) default)))&&Yx (PV.cells (List.getD (List.map enc p) (0+Int.toNat i) default)) 0 [Sh.int .i64])=true∧((List.length (List.map enc vs)==q&&q==q&&decide ((q+List.length (List.drop 0 (List.take 1 [PV.agg [Sh.co Sh.str (List.getD (PV.cells (enc y0)) 0 default),Sh.co (Sh.int .i64) (List.getD (PV.cells (List.getD (List.map enc p) (0+Int.toNat i) default)) 0 default)]])))*24<=1099511627776)&&decide (q+List.length (List.drop 0 (List.take 1 [PV.agg [Sh.co Sh.str (List.getD (PV.cells (enc y0)) 0 default),Sh.co (Sh.int .i64) (List.getD (PV.cells (List.getD (List.map enc p) (0+Int.toNat i) default)) 0 default)]]))<=1099511627776))=true∧(At Vv 1 (WT 1 WK G) WM 0 34 [(1,(.row 0 m 0 m)),(2,(.ptr 1 0)),(5,(.row 2 (q+List.length (List.drop 0 (List.take 1 [PV.agg [Sh.co Sh.str (List.getD (PV.cells (enc y0)) 0 default),Sh.co (Sh.int .i64) (List.getD (PV.cells (List.getD (List.map enc p) (0+Int.toNat i) default)) 0 default)]]))) 0 (q+List.length (List.drop 0 (List.take 1 [PV.agg [Sh.co Sh.str (List.getD (PV.cells (enc y0)) 0 default),Sh.co (Sh.int .i64) (List.getD (PV.cells (List.getD (List.map enc p) (0+Int.toNat i) default)) 0 default)]]))))),(6,(.pv (.int .i64 (IntKind.wrap IntKind.i64 (i+1)))))] [(.obj (.row false 3 1 (List.map enc p))),(.obj (.box [(.pv (.sl 1 false (List.map enc b.v))),(.pv (.int .i64 b.m))])),(.obj (.row false 63 2 (List.map enc vs++List.drop 0 (List.take 1 [PV.agg [Sh.co Sh.str (List.getD (PV.cells (enc y0)) 0 default),Sh.co (Sh.int .i64) (List.getD (PV.cells (List.getD (List.map enc p) (0+Int.toNat i) default)) 0 default)]]))))]))))))else((List.length (List.map enc vs)==q)=true∧(G (((.pv (.sl 2 false (List.drop 0 (List.take q (List.map enc vs))))),([(.row false 3 1 (List.map enc p))],[])))))else((List.length (List.map enc vs)==q)=true∧(G (((.pv (.sl 2 false (List.drop 0 (List.take q (List.map enc vs))))),([(.row false 3 1 (List.map enc p))],[])))))):At Vv 1 (WT 1 WK G) WM 0 34 [(1,.row 0 m 0 m),(2,.ptr 1 0),(5,.row 2 q 0 q),(6,.pv (.int .i64 i))] [.obj (.row false 3 1 (p.map enc)),.obj (.box [.pv (enc b.v),.pv (.int .i64 b.m)]),.obj (.row false 63 2 (vs.map enc))]:=At.tf (.lit (.ask (.lit (.lit (.lit (.lit (.lit (.ask (.req (.abs (Str) (fun YY=>AV.pv (PV.rptr (PV.cells ((enc) YY)))) (.lit (.req (.keep (.req (.req (.lit (.lit (.req (.lit (.nil)))))))))))) (.req (.nil)))))))) (.lit (.lit (.lit (.lit (.lit (.req (.nil))))))))) h (by kernel_rfl)
def Xb:IC:=(Zh [Za 2 (.box 2 (.t 0)) 0,Za 4 (Xo false) 1] (.seq (Zh [Za 5 (.mv (Zy 0)) 0] (.block 0 (.loop [5,1,2] (.seq (Zh [Za 8 (Zc 5) 0,Za 9 (Zc 1) 0,Za 10 (.len 1 (.t 9)) 0,Za 11 (ZA .lss (.t 8) (.t 10)) 0] (.cond (.t 11) .skip (.exit 0))) (.seq (.block 1 (Zh [Za 6 (Xo false) 0] (.seq (Zh [Za 7 (.mv (Zy 0)) 0] (.block 2 (.loop [7,2,6,1,5] (.seq (Zh [Za 14 (Zc 7) 0,Za 15 (.faddr 0 (.t 2)) 0,Za 16 (Yl [(.sl 1)] (.t 15)) 0,Za 17 (.len 1 (.t 16)) 0,Za 18 (ZA .lss (.t 14) (.t 17)) 0] (.cond (.t 18) .skip (.exit 2))) (.seq (.block 3 (.reg [Za 21 (Zc 6) 0,Za 22 (Zc 21) 0,ZX 23 (.faddr 0 (.t 2)) 0 22,ZX 24 (Yl [(.sl 1)] (.t 23)) 0 22,ZX 25 (Zc 7) 0 22,ZX 26 (.iaddr 1 (.t 24) (.t 25)) 0 22,ZX 27 (.load false [.str] (.t 26)) 0 22,ZX 28 (Zc 1) 0 22,ZX 29 (Zc 5) 0 22,ZX 30 (.iaddr 1 (.t 28) (.t 29)) 0 22,ZX 31 (.load false [.str] (.t 30)) 0 22,ZX 32 (ZA .eql (.t 27) (.t 31)) 0 22,Za 33 (.pick (.t 22) (.c (.bool true)) (.t 32)) 0,Za 6 (Zc 33) 0] (some [[],[0],[1,0],[2,1,0],[1,0],[3,4,1,2,0],[5,1,3,4,2,0],[1,0],[1,0],[7,8,1,0],[9,1,7,8,0],[6,10,1,5,3,4,2,0,9,7,8],[1,11,0,6,10,5,3,4,2,9,7,8],[12,1,0,2,3,4,5,6,7,8,9,10,11]]))) (.reg [Za 19 (Zc 7) 0,Za 20 (ZA .add (.t 19) (Zy 1)) 0,Za 7 (Zc 20) 0] none)))))) (Zh [Za 34 (Zc 6) 0,Za 35 (.un .not (.t 34)) 0] (.cond (.t 35) (Zh [Za 4 (Xo false) 0] .ret) .skip))))) (.reg [Za 12 (Zc 5) 0,Za 13 (ZA .add (.t 12) (Zy 1)) 0,Za 5 (Zc 13) 0] none)))))) (Zh [Za 4 (Xo true) 0] .ret)))
def Xe:List IRes:=[(.tmp 4)]
abbrev a5d:Nat:=36
def XL:ZO:=Xc []
theorem b6p{G:PV->Prop}(b:BoxT)(ns:List Str)(h:At XL 0 (Zb Xe G) Xb 0 36 [(1,(.pv (.sl 1 false (List.map enc ns)))),(2,(.ptr 0 0)),(5,(.pv (.int .i64 0)))] [(.obj (.box [(.pv (.sl 1 false (List.map enc b.v))),(.pv (.int .i64 b.m))]))]):Ze XL 0 (Zb Xe G) Xb [] (Yk 36 [enc b,enc ns]):=Ze.tp (.nil) h (by kernel_rfl)
theorem Ph{G:PV->Prop}(b:BoxT)(ns:List Str)(i:Int)(h:if (decide (i<(↑(List.length (List.map enc ns)):Int)))=true then At XL 0 (Zb Xe G) Xb 1 36 [(1,(.pv (.sl 1 false (List.map enc ns)))),(2,(.ptr 0 0)),(5,(.pv (.int .i64 i))),(6,(.pv (.bool false))),(7,(.pv (.int .i64 0)))] [(.obj (.box [(.pv (.sl 1 false (List.map enc b.v))),(.pv (.int .i64 b.m))]))]else(G ((.bool true)))):At XL 0 (Zb Xe G) Xb 0 36 [(1,.pv (enc ns)),(2,.ptr 0 0),(5,.pv (.int .i64 i))] [.obj (.box [.pv (enc b.v),.pv (.int .i64 b.m)])]:=At.tp (.lit (.ask (.nil) (.nil))) h (by kernel_rfl)
theorem Pm{G:PV->Prop}(b:BoxT)(ns:List Str)(i k:Int)(o:Bool)(h:if (decide (k<(↑(List.length (List.map enc b.v)):Int)))=true then if (o)=true then At XL 0 (Zb Xe G) Xb 1 36 [(1,(.pv (.sl 1 false (List.map enc ns)))),(2,(.ptr 0 0)),(5,(.pv (.int .i64 i))),(6,(.pv (.bool true))),(7,(.pv (.int .i64 (IntKind.wrap IntKind.i64 (k+1)))))] [(.obj (.box [(.pv (.sl 1 false (List.map enc b.v))),(.pv (.int .i64 b.m))]))]else((decide (0<=k)&&decide (Int.toNat k<List.length (List.map enc b.v))&&Enc.sz Str==1)=true∧(∃ y0:Str,AV.pv (PV.rptr (PV.cells (List.getD (List.map enc b.v) (Int.toNat k) default)))=AV.pv (PV.rptr (PV.cells ((enc) y0)))∧((decide (0<=i)&&decide (Int.toNat i<List.length (List.map enc ns))&&Enc.sz Str==1)=true∧(∃ y1:Str,AV.pv (PV.rptr (PV.cells (List.getD (List.map enc ns) (Int.toNat i) default)))=AV.pv (PV.rptr (PV.cells ((enc) y1)))∧(At XL 0 (Zb Xe G) Xb 1 36 [(1,(.pv (.sl 1 false (List.map enc ns)))),(2,(.ptr 0 0)),(5,(.pv (.int .i64 i))),(6,(.pv (.bool (PV.asStr (List.getD (PV.cells (enc y0)) 0 default)==PV.asStr (List.getD (PV.cells (enc y1)) 0 default))))),(7,(.pv (.int .i64 (IntKind.wrap IntKind.i64 (k+1)))))] [(.obj (.box [(.pv (.sl 1 false (List.map enc b.v))),(.pv (.int .i64 b.m))]))])))))else(if (!o)=true then G ((.bool false))else(At XL 0 (Zb Xe G) Xb 0 36 [(1,(.pv (.sl 1 false (List.map enc ns)))),(2,(.ptr 0 0)),(5,(.pv (.int .i64 (IntKind.wrap IntKind.i64 (i+1)))))] [(.obj (.box [(.pv (.sl 1 false (List.map enc b.v))),(.pv (.int .i64 b.m))]))]))):At XL 0 (Zb Xe G) Xb 1 36 [(1,.pv (enc ns)),(2,.ptr 0 0),(5,.pv (.int .i64 i)),(6,.pv (.bool o)),(7,.pv (.int .i64 k))] [.obj (.box [.pv (enc b.v),.pv (.int .i64 b.m)])]:=At.tp (.lit (.ask (.ask (.lit (.lit (.lit (.lit (.lit (.lit (.lit (.lit (.lit (.lit (.lit (.nil)))))))))))) (.lit (.lit (.lit (.req (.abs (Str) (fun YY=>AV.pv (PV.rptr (PV.cells ((enc) YY)))) (.lit (.lit (.lit (.lit (.lit (.req (.abs (Str) (fun YY=>AV.pv (PV.rptr (PV.cells ((enc) YY)))) (.lit (.lit (.lit (.lit (.lit (.lit (.nil)))))))))))))))))))) (.ask (.nil) (.lit (.nil))))) h (by kernel_rfl)
def WP:IC:=(Zh [Za 1 (.box 2 (.t 0)) 0,Za 2 (.mv (.c (.sl 0 true []))) 1] (Zh [Za 3 (.mv (.c (.sl 0 true []))) 0] (.seq (Zh [Za 4 (.mv (Zy 0)) 0] (.block 0 (.loop [4,1,3] (.seq (Zh [Za 5 (Zc 4) 0,Za 6 (.faddr 1 (.t 1)) 0,Za 7 (Yl [(.sl 2)] (.t 6)) 0,Za 8 (.len 1 (.t 7)) 0,Za 9 (ZA .lss (.t 5) (.t 8)) 0] (.cond (.t 9) .skip (.exit 0))) (.seq (.block 1 (.reg [Za 12 (Zc 3) 0,Za 13 (.faddr 1 (.t 1)) 0,Za 14 (Yl [(.sl 2)] (.t 13)) 0,Za 15 (Zc 4) 0,Za 16 (.iaddr 2 (.t 14) (.t 15)) 0,Za 17 (.faddr 0 (.t 16)) 0,Za 18 (.load false [.str] (.t 17)) 0,Za 19 (.bslice 9 1 1 (.str []) [(0,(.t 18))]) 0,Za 20 (.append 9 1 16 (.t 12) (.t 19)) 1,Za 3 (Zc 20) 2] none)) (.reg [Za 10 (Zc 4) 0,Za 11 (ZA .add (.t 10) (Zy 1)) 0,Za 4 (Zc 11) 0] none)))))) (Zh [Za 21 (Zc 3) 0,Za 2 (Zc 21) 0] .ret))))
def WA:List IRes:=[(.tmp 2)]
abbrev a5f:Nat:=22
def VL:ZO:=Xc []
theorem b7k{G:PV->Prop}(l:Lin)(h:At VL 0 (Zb WA G) WP 0 22 [(1,(.ptr 0 0)),(3,(.pv (.sl 0 true []))),(4,(.pv (.int .i64 0)))] [(.obj (.box [(.pv (.int .i64 l.k)),(.pv (.sl 2 false (List.map enc l.t)))]))]):Ze VL 0 (Zb WA G) WP [] (Yk 22 [enc l]):=Ze.tp (.nil) h (by kernel_rfl)
theorem Sr{G:PV->Prop}(l:Lin)(i:Int)(h:if (decide (i<(↑(List.length (List.map enc l.t)):Int)))=true then(decide (0<=i)&&decide (Int.toNat i<List.length (List.map enc l.t))&&Enc.sz Coef==2)=true∧(∃ y0:Coef,AV.pv (PV.rptr (PV.cells (List.getD (List.map enc l.t) (Int.toNat i) default)))=AV.pv (PV.rptr (PV.cells ((enc) y0)))∧(At VL 0 (Zb WA G) WP 0 22 [(1,(.ptr 0 0)),(3,(.row 1 1 0 1)),(4,(.pv (.int .i64 (IntKind.wrap IntKind.i64 (i+1)))))] [(.obj (.box [(.pv (.int .i64 l.k)),(.pv (.sl 2 false (List.map enc l.t)))])),(.obj (.row false 9 1 [(.str (PV.asStr (List.getD (List.drop 0 (PV.cells (enc y0))) 0 default)))]))]))else(G ((.sl 0 true [])))):At VL 0 (Zb WA G) WP 0 22 [(1,.ptr 0 0),(3,.pv (.sl 0 true [])),(4,.pv (.int .i64 i))] [.obj (.box [.pv (.int .i64 l.k),.pv (enc l.t)])]:=At.tp (.lit (.ask (.req (.abs (Coef) (fun YY=>AV.pv (PV.rptr (PV.cells ((enc) YY)))) (.lit (.lit (.lit (.lit (.lit (.lit (.lit (.nil)))))))))) (.nil))) h (by kernel_rfl)
theorem Tf{G:PV->Prop}(l:Lin)(i:Int)(q:Nat)(ns:List Str)(h:if (decide (i<(↑(List.length (List.map enc l.t)):Int)))=true then(decide (0<=i)&&decide (Int.toNat i<List.length (List.map enc l.t))&&Enc.sz Coef==2)=true∧(∃ y0:Coef,AV.pv (PV.rptr (PV.cells (List.getD (List.map enc l.t) (Int.toNat i) default)))=AV.pv (PV.rptr (PV.cells ((enc) y0)))∧((List.length (List.map enc ns)==q&&q==q&&decide ((q+List.length (List.drop 0 (List.take 1 [Sh.co Sh.str (List.getD (List.drop 0 (PV.cells (enc y0))) 0 default)])))*16<=1099511627776)&&decide (q+List.length (List.drop 0 (List.take 1 [Sh.co Sh.str (List.getD (List.drop 0 (PV.cells (enc y0))) 0 default)]))<=1099511627776))=true∧(At VL 0 (Zb WA G) WP 0 22 [(1,(.ptr 0 0)),(3,(.row 1 (q+List.length (List.drop 0 (List.take 1 [Sh.co Sh.str (List.getD (List.drop 0 (PV.cells (enc y0))) 0 default)]))) 0 (q+List.length (List.drop 0 (List.take 1 [Sh.co Sh.str (List.getD (List.drop 0 (PV.cells (enc y0))) 0 default)]))))),(4,(.pv (.int .i64 (IntKind.wrap IntKind.i64 (i+1)))))] [(.obj (.box [(.pv (.int .i64 l.k)),(.pv (.sl 2 false (List.map enc l.t)))])),(.obj (.row false 9 1 (List.map enc ns++List.drop 0 (List.take 1 [Sh.co Sh.str (List.getD (List.drop 0 (PV.cells (enc y0))) 0 default)]))))])))else((List.length (List.map enc ns)==q)=true∧(G ((.sl 1 false (List.drop 0 (List.take q (List.map enc ns)))))))):At VL 0 (Zb WA G) WP 0 22 [(1,.ptr 0 0),(3,.row 1 q 0 q),(4,.pv (.int .i64 i))] [.obj (.box [.pv (.int .i64 l.k),.pv (enc l.t)]),.obj (.row false 9 1 (ns.map enc))]:=At.tp (.lit (.ask (.req (.abs (Coef) (fun YY=>AV.pv (PV.rptr (PV.cells ((enc) YY)))) (.lit (.lit (.lit (.req (.lit (.nil)))))))) (.req (.nil)))) h (by kernel_rfl)
def Uk:IC:=(Zh [Za 2 (.box 2 (.t 0)) 0,Za 4 (.mv (Zy 0)) 1] (.seq (Zh [Za 5 (.mv (Zy 0)) 0] (.block 0 (.loop [5,2,1] (.seq (Zh [Za 6 (Zc 5) 0,Za 7 (.faddr 1 (.t 2)) 0,Za 8 (Yl [(.sl 2)] (.t 7)) 0,Za 9 (.len 1 (.t 8)) 0,Za 10 (ZA .lss (.t 6) (.t 9)) 0] (.cond (.t 10) .skip (.exit 0))) (.seq (.block 1 (Zh [Za 13 (.faddr 1 (.t 2)) 0,Za 14 (Yl [(.sl 2)] (.t 13)) 0,Za 15 (Zc 5) 0,Za 16 (.iaddr 2 (.t 14) (.t 15)) 0,Za 17 (.faddr 0 (.t 16)) 0,Za 18 (.load false [.str] (.t 17)) 0,Za 19 (Zc 1) 0,Za 20 (ZA .eql (.t 18) (.t 19)) 0] (.cond (.t 20) (Zh [Za 21 (.faddr 1 (.t 2)) 0,Za 22 (Yl [(.sl 2)] (.t 21)) 0,Za 23 (Zc 5) 0,Za 24 (.iaddr 2 (.t 22) (.t 23)) 0,Za 25 (.faddr 1 (.t 24)) 0,Za 26 (Yl [(.int .i64)] (.t 25)) 0,Za 4 (Zc 26) 0] .ret) .skip))) (.reg [Za 11 (Zc 5) 0,Za 12 (ZA .add (.t 11) (Zy 1)) 0,Za 5 (Zc 12) 0] none)))))) (Zh [Za 4 (.mv (Zy 0)) 0] .ret)))
def Ug:List IRes:=[(.tmp 4)]
abbrev a6g:Nat:=27
def U8:ZO:=Xc []
theorem b8m{G:PV->Prop}(l:Lin)(s:List UInt8)(h:At U8 0 (Zb Ug G) Uk 0 27 [(1,(.pv (.str s))),(2,(.ptr 0 0)),(5,(.pv (.int .i64 0)))] [(.obj (.box [(.pv (.int .i64 l.k)),(.pv (.sl 2 false (List.map enc l.t)))]))]):Ze U8 0 (Zb Ug G) Uk [] (Yk 27 [enc l,.str s]):=Ze.tp (.nil) h (by kernel_rfl)
theorem TS{G:PV->Prop}(l:Lin)(s:List UInt8)(i:Int)(h:if (decide (i<(↑(List.length (List.map enc l.t)):Int)))=true then(decide (0<=i)&&decide (Int.toNat i<List.length (List.map enc l.t))&&Enc.sz Coef==2)=true∧(∃ y0:Coef,AV.pv (PV.rptr (PV.cells (List.getD (List.map enc l.t) (Int.toNat i) default)))=AV.pv (PV.rptr (PV.cells ((enc) y0)))∧(if (PV.asStr (List.getD (List.drop 0 (PV.cells (enc y0))) 0 default)==s)=true then(decide (0<=i)&&decide (Int.toNat i<List.length (List.map enc l.t))&&Enc.sz Coef==2)=true∧(∃ y1:Coef,AV.pv (PV.rptr (PV.cells (List.getD (List.map enc l.t) (Int.toNat i) default)))=AV.pv (PV.rptr (PV.cells ((enc) y1)))∧(G ((.int .i64 (PV.asInt (List.getD (List.drop 1 (PV.cells (enc y1))) 0 default))))))else(At U8 0 (Zb Ug G) Uk 0 27 [(1,(.pv (.str s))),(2,(.ptr 0 0)),(5,(.pv (.int .i64 (IntKind.wrap IntKind.i64 (i+1)))))] [(.obj (.box [(.pv (.int .i64 l.k)),(.pv (.sl 2 false (List.map enc l.t)))]))])))else(G ((.int .i64 0)))):At U8 0 (Zb Ug G) Uk 0 27 [(1,.pv (.str s)),(2,.ptr 0 0),(5,.pv (.int .i64 i))] [.obj (.box [.pv (.int .i64 l.k),.pv (enc l.t)])]:=At.tp (.lit (.ask (.req (.abs (Coef) (fun YY=>AV.pv (PV.rptr (PV.cells ((enc) YY)))) (.lit (.lit (.ask (.req (.abs (Coef) (fun YY=>AV.pv (PV.rptr (PV.cells ((enc) YY)))) (.lit (.nil)))) (.lit (.nil))))))) (.nil))) h (by kernel_rfl)
def Xd:IC:=(Zh [Za 2 (.mv (.c (.sl 0 true []))) 0] (Zh [Za 3 (.alloc (.agg [(.int .i64 0),(.sl 0 true [])])) 0] (.seq (Zh [Za 4 (.mv (Zy 0)) 0] (.block 0 (.loop [4,0,3] (.seq (Zh [Za 7 (Zc 4) 0,Za 8 (Zc 0) 0,Za 9 (.len 1 (.t 8)) 0,Za 10 (ZA .lss (.t 7) (.t 9)) 0] (.cond (.t 10) .skip (.exit 0))) (.seq (.block 1 (Zh [Za 5 (.mv (Zy 0)) 0] (.block 2 (.loop [5,0,4,3] (.seq (Zh [Za 13 (Zc 5) 0,Za 14 (Zc 0) 0,Za 15 (Zc 4) 0,Za 16 (.iaddr 2 (.t 14) (.t 15)) 0,Za 17 (.faddr 1 (.t 16)) 0,Za 18 (Yl [(.sl 2)] (.t 17)) 0,Za 19 (.len 1 (.t 18)) 0,Za 20 (ZA .lss (.t 13) (.t 19)) 0] (.cond (.t 20) .skip (.exit 2))) (.seq (.block 3 (Zh [Za 23 (Zc 0) 0,Za 24 (Zc 4) 0,Za 25 (.iaddr 2 (.t 23) (.t 24)) 0,Za 26 (.faddr 1 (.t 25)) 0,Za 27 (Yl [(.sl 2)] (.t 26)) 0,Za 28 (Zc 5) 0,Za 29 (.iaddr 2 (.t 27) (.t 28)) 0,Za 30 (.faddr 0 (.t 29)) 0,Za 31 (.load false [.str] (.t 30)) 0,Za 6 (Zc 31) 0] (Zh [Za 32 (.load true [(.int .i64),(.sl 2)] (.t 3)) 0,Za 33 (Zc 6) 0,Za 34 (YT 240 [(.t 32),(.t 33)]) 0,Za 35 (ZA .eql (.t 34) (Zy 0)) 2] (.cond (.t 35) (.reg [Za 36 (.load true [(.int .i64),(.sl 2)] (.t 3)) 0,Za 37 (Zc 6) 0,Za 38 (YT 89 [(.t 36),(.t 37),(Zy 1)]) 0,Ui (.store 2 (.t 3) (.t 38)) 2] none) .skip)))) (.reg [Za 21 (Zc 5) 0,Za 22 (ZA .add (.t 21) (Zy 1)) 0,Za 5 (Zc 22) 0] none))))))) (.reg [Za 11 (Zc 4) 0,Za 12 (ZA .add (.t 11) (Zy 1)) 0,Za 4 (Zc 12) 0] none)))))) (Zh [Za 39 (.load true [(.int .i64),(.sl 2)] (.t 3)) 0,Za 40 (YT 241 [(.t 39)]) 0,Za 2 (Zc 40) 2] .ret))))
def Xf:List IRes:=[(.tmp 2)]
abbrev a8o:Nat:=41
def XP:ZO:=Xc [(240,.pure (preT (fun x:Lin×Str×Unit=>Zr x.1.t)) (Zj (fun x:Lin×Str×Unit=>Xw x.1.t x.2.1.s))),(89,.pure (preT (fun x:Lin×Str×Int×Unit=>decide (x.1.t.length<=1000000))) (Zj (fun x:Lin×Str×Int×Unit=>VD x.1 x.2.1 x.2.2.1))),(241,.pure (preT (fun x:Lin×Unit=>decide (x.1.t.length<=1000000))) (Zj (fun x:Lin×Unit=>Zg x.1)))]
theorem b2o{G:PV->Prop}(ls:List Lin)(h:At XP 0 (Zb Xf G) Xd 0 41 [(0,(.pv (.sl 2 false (List.map enc ls)))),(3,(.ptr 0 0)),(4,(.pv (.int .i64 0)))] [(.obj (.box [(.pv (.int .i64 0)),(.pv (.sl 0 true []))]))]):Ze XP 0 (Zb Xf G) Xd [] (Yk 41 [enc ls]):=Ze.tp (.nil) h (by kernel_rfl)
theorem RN{G:PV->Prop}(ls:List Lin)(k:Int)(p:PV)(i:Int)(h:if (decide (i<(↑(List.length (List.map enc ls)):Int)))=true then At XP 0 (Zb Xf G) Xd 1 41 [(0,(.pv (.sl 2 false (List.map enc ls)))),(3,(.ptr 0 0)),(4,(.pv (.int .i64 i))),(5,(.pv (.int .i64 0)))] [(.obj (.box [(.pv (.int .i64 k)),(.pv p)]))]else((Go.Pl.preT (fun(x:Lin×Unit)=>decide (List.length x.1.t<=1000000)) [(.agg [(.int .i64 k),p])])=true∧(∃ y0:List Str,AV.pv (Zj (fun(x:Lin×Unit)=>Zg x.1) [(.agg [(.int .i64 k),p])])=AV.pv (enc y0)∧(G ((.sl 1 false (List.map enc y0))))))):At XP 0 (Zb Xf G) Xd 0 41 [(0,.pv (enc ls)),(3,.ptr 0 0),(4,.pv (.int .i64 i))] [.obj (.box [.pv (.int .i64 k),.pv p])]:=At.tp (.lit (.ask (.nil) (.req (.abs (List Str) (fun YY=>AV.pv (enc YY)) (.nil))))) h (by kernel_rfl)
theorem Pi{G:PV->Prop}(ls:List Lin)(k:Int)(p:PV)(i j:Int)(h:(decide (0<=i)&&decide (Int.toNat i<List.length (List.map enc ls))&&Enc.sz Lin==2)=true∧(∃ y0:Lin,AV.pv (PV.rptr (PV.cells (List.getD (List.map enc ls) (Int.toNat i) default)))=AV.pv (PV.rptr (PV.cells ((enc) y0)))∧(if (decide (j<(↑(List.length (PV.asXs (List.getD (List.drop 1 (PV.cells (enc y0))) 0 default))):Int)))=true then(decide (0<=i)&&decide (Int.toNat i<List.length (List.map enc ls))&&Enc.sz Lin==2)=true∧(∃ y1:Lin,AV.pv (PV.rptr (PV.cells (List.getD (List.map enc ls) (Int.toNat i) default)))=AV.pv (PV.rptr (PV.cells ((enc) y1)))∧((decide (0<=j)&&decide (Int.toNat j<List.length (PV.asXs (List.getD (List.drop 1 (PV.cells (enc y1))) 0 default)))&&2==2)=true∧((decide (0+List.length [Sh.str]<=List.length (List.drop 0 (PV.cells (List.getD (PV.asXs (List.getD (List.drop 1 (PV.cells (enc y1))) 0 default)) (Int.toNat j) default))))&&Yx (List.drop 0 (PV.cells (List.getD (PV.asXs (List.getD (List.drop 1 (PV.cells (enc y1))) 0 default)) (Int.toNat j) default))) 0 [Sh.str])=true∧((Go.Pl.preT (fun(x:Lin×Str×Unit)=>Zr x.1.t) [(.agg [(.int .i64 k),p]),(.str (PV.asStr (List.getD (List.drop 0 (PV.cells (List.getD (PV.asXs (List.getD (List.drop 1 (PV.cells (enc y1))) 0 default)) (Int.toNat j) default))) 0 default)))])=true∧(∃ y2:Int,AV.pv (Zj (fun(x:Lin×Str×Unit)=>Xw x.1.t (Str.s x.2.1)) [(.agg [(.int .i64 k),p]),(.str (PV.asStr (List.getD (List.drop 0 (PV.cells (List.getD (PV.asXs (List.getD (List.drop 1 (PV.cells (enc y1))) 0 default)) (Int.toNat j) default))) 0 default)))])=AV.pv (enc y2)∧(if (y2==0)=true then(Go.Pl.preT (fun(x:Lin×Str×Int×Unit)=>decide (List.length x.1.t<=1000000)) [(.agg [(.int .i64 k),p]),(.str (PV.asStr (List.getD (List.drop 0 (PV.cells (List.getD (PV.asXs (List.getD (List.drop 1 (PV.cells (enc y1))) 0 default)) (Int.toNat j) default))) 0 default))),(.int .i64 1)])=true∧(∃ y3:Lin,AV.pv (Zj (fun(x:Lin×Str×Int×Unit)=>VD x.1 x.2.1 x.2.2.1) [(.agg [(.int .i64 k),p]),(.str (PV.asStr (List.getD (List.drop 0 (PV.cells (List.getD (PV.asXs (List.getD (List.drop 1 (PV.cells (enc y1))) 0 default)) (Int.toNat j) default))) 0 default))),(.int .i64 1)])=AV.pv (enc y3)∧(At XP 0 (Zb Xf G) Xd 1 41 [(0,(.pv (.sl 2 false (List.map enc ls)))),(3,(.ptr 0 0)),(4,(.pv (.int .i64 i))),(5,(.pv (.int .i64 (IntKind.wrap IntKind.i64 (j+1)))))] [(.obj (.box [(.pv (.int .i64 y3.k)),(.pv (.sl 2 false (List.map enc y3.t)))]))]))else(At XP 0 (Zb Xf G) Xd 1 41 [(0,(.pv (.sl 2 false (List.map enc ls)))),(3,(.ptr 0 0)),(4,(.pv (.int .i64 i))),(5,(.pv (.int .i64 (IntKind.wrap IntKind.i64 (j+1)))))] [(.obj (.box [(.pv (.int .i64 k)),(.pv p)]))])))))))else(At XP 0 (Zb Xf G) Xd 0 41 [(0,(.pv (.sl 2 false (List.map enc ls)))),(3,(.ptr 0 0)),(4,(.pv (.int .i64 (IntKind.wrap IntKind.i64 (i+1)))))] [(.obj (.box [(.pv (.int .i64 k)),(.pv p)]))])))):At XP 0 (Zb Xf G) Xd 1 41 [(0,.pv (enc ls)),(3,.ptr 0 0),(4,.pv (.int .i64 i)),(5,.pv (.int .i64 j))] [.obj (.box [.pv (.int .i64 k),.pv p])]:=At.tp (.req (.abs (Lin) (fun YY=>AV.pv (PV.rptr (PV.cells ((enc) YY)))) (.lit (.lit (.ask (.req (.abs (Lin) (fun YY=>AV.pv (PV.rptr (PV.cells ((enc) YY)))) (.lit (.req (.keep (.req (.req (.abs (Int) (fun YY=>AV.pv (enc YY)) (.lit (.ask (.req (.abs (Lin) (fun YY=>AV.pv (enc YY)) (.lit (.nil)))) (.lit (.nil)))))))))))) (.lit (.nil))))))) h (by kernel_rfl)
def Ud:IC:=(Zh [Za 2 (.box 2 (.t 0)) 0,Za 4 (Xo false) 1] (Zh [Za 5 (.mv (Zy 1)) 0] (.seq (Zh [Za 6 (.mv (Zy 0)) 0] (.block 0 (.loop [6,2,5,1] (.seq (Zh [Za 7 (Zc 6) 0,Za 8 (.faddr 0 (.t 2)) 0,Za 9 (Yl [(.sl 1)] (.t 8)) 0,Za 10 (.len 1 (.t 9)) 0,Za 11 (ZA .lss (.t 7) (.t 10)) 0,Za 12 (Zc 11) 0,Z6 13 (.load true [(.sl 1),(.int .i64)] (.t 2)) 0 12,Z6 14 (YT 51 [(.t 13)]) 0 12,Za 15 (.pick (.t 12) (.t 14) (.c (.bool false))) 2] (.cond (.t 15) .skip (.exit 0))) (.seq (.block 1 (.reg [Za 18 (Zc 5) 0,Za 19 (.faddr 1 (.t 2)) 0,Za 20 (Yl [(.int .i64)] (.t 19)) 0,Za 21 (ZA .add (.t 20) (Zy 1)) 0,Za 22 (ZA .mul (.t 18) (.t 21)) 0,Za 5 (Zc 22) 0] none)) (.reg [Za 16 (Zc 6) 0,Za 17 (ZA .add (.t 16) (Zy 1)) 0,Za 6 (Zc 17) 0] none)))))) (Zh [Za 23 (.faddr 0 (.t 2)) 0,Za 24 (Yl [(.sl 1)] (.t 23)) 0,Za 25 (.len 1 (.t 24)) 0,Za 26 (ZA .leq (.t 25) (Zy 5)) 0,Za 27 (Zc 26) 0,Z6 28 (Zc 5) 0 27,Z6 29 (ZA .leq (.t 28) (Zy 300)) 0 27,Za 30 (.pick (.t 27) (.t 29) (.c (.bool false))) 0,Za 31 (Zc 30) 0,Z6 32 (Zc 1) 0 31,Z6 33 (.len 1 (.t 32)) 0 31,Z6 34 (ZA .leq (.t 33) (Zy 6)) 0 31,Za 35 (.pick (.t 31) (.t 34) (.c (.bool false))) 0,Za 36 (Zc 35) 0,Z6 37 (Zc 1) 0 36,Z6 38 (YT 31 [(.t 37),(Zy 6)]) 0 36,Za 39 (.pick (.t 36) (.t 38) (.c (.bool false))) 2,Za 4 (Zc 39) 2] .ret))))
def WC:List IRes:=[(.tmp 4)]
abbrev a5e:Nat:=40
def VG:ZO:=Xc [(51,.pure (preT (fun x:BoxT×Unit=>ZH x.1)) (Zj (fun x:BoxT×Unit=>Y4 x.1))),(31,.pure (preT (fun x:List Fact×Int×Unit=>YJ x.1)) (Zj (fun x:List Fact×Int×Unit=>CK x.1 x.2.1)))]
theorem b6z{G:PV->Prop}(b:BoxT)(fs:List Fact)(h:At VG 0 (Zb WC G) Ud 0 40 [(1,(.pv (.sl 3 false (List.map enc fs)))),(2,(.ptr 0 0)),(5,(.pv (.int .i64 1))),(6,(.pv (.int .i64 0)))] [(.obj (.box [(.pv (.sl 1 false (List.map enc b.v))),(.pv (.int .i64 b.m))]))]):Ze VG 0 (Zb WC G) Ud [] (Yk 40 [enc b,enc fs]):=Ze.tp (.nil) h (by kernel_rfl)
theorem JI{G:PV->Prop}(b:BoxT)(fs:List Fact)(n i:Int)(h:if (decide (i<(↑(List.length (List.map enc b.v)):Int)))=true then(Go.Pl.preT (fun(x:BoxT×Unit)=>ZH x.1) [(.agg [(.sl 1 false (List.map enc b.v)),(.int .i64 b.m)])])=true∧(∃ y0:Bool,AV.pv (Zj (fun(x:BoxT×Unit)=>Y4 x.1) [(.agg [(.sl 1 false (List.map enc b.v)),(.int .i64 b.m)])])=AV.pv (enc y0)∧(if (y0)=true then At VG 0 (Zb WC G) Ud 0 40 [(1,(.pv (.sl 3 false (List.map enc fs)))),(2,(.ptr 0 0)),(5,(.pv (.int .i64 (IntKind.wrap IntKind.i64 (n*IntKind.wrap IntKind.i64 (BoxT.m b+1)))))),(6,(.pv (.int .i64 (IntKind.wrap IntKind.i64 (i+1)))))] [(.obj (.box [(.pv (.sl 1 false (List.map enc b.v))),(.pv (.int .i64 b.m))]))]else(if (decide ((↑(List.length (List.map enc b.v)):Int)<=5))=true then if (decide (n<=300))=true then if (decide ((↑(List.length (List.map enc fs)):Int)<=6))=true then(Go.Pl.preT (fun(x:List Fact×Int×Unit)=>YJ x.1) [(.sl 3 false (List.map enc fs)),(.int .i64 6)])=true∧(∃ y1:Bool,AV.pv (Zj (fun(x:List Fact×Int×Unit)=>CK x.1 x.2.1) [(.sl 3 false (List.map enc fs)),(.int .i64 6)])=AV.pv (enc y1)∧(G ((.bool y1))))else(G ((.bool false)))else(G ((.bool false)))else(G ((.bool false))))))else(if (decide ((↑(List.length (List.map enc b.v)):Int)<=5))=true then if (decide (n<=300))=true then if (decide ((↑(List.length (List.map enc fs)):Int)<=6))=true then(Go.Pl.preT (fun(x:List Fact×Int×Unit)=>YJ x.1) [(.sl 3 false (List.map enc fs)),(.int .i64 6)])=true∧(∃ y2:Bool,AV.pv (Zj (fun(x:List Fact×Int×Unit)=>CK x.1 x.2.1) [(.sl 3 false (List.map enc fs)),(.int .i64 6)])=AV.pv (enc y2)∧(G ((.bool y2))))else(G ((.bool false)))else(G ((.bool false)))else(G ((.bool false))))):At VG 0 (Zb WC G) Ud 0 40 [(1,.pv (enc fs)),(2,.ptr 0 0),(5,.pv (.int .i64 n)),(6,.pv (.int .i64 i))] [.obj (.box [.pv (enc b.v),.pv (.int .i64 b.m)])]:=At.tp (.lit (.ask (.lit (.req (.abs (Bool) (fun YY=>AV.pv (enc YY)) (.lit (.ask (.lit (.lit (.lit (.nil)))) (.lit (.ask (.lit (.lit (.lit (.ask (.lit (.lit (.lit (.lit (.ask (.lit (.req (.abs (Bool) (fun YY=>AV.pv (enc YY)) (.lit (.nil))))) (.lit (.lit (.nil)))))))) (.lit (.lit (.lit (.lit (.lit (.lit (.nil))))))))))) (.lit (.lit (.lit (.lit (.lit (.lit (.lit (.lit (.lit (.nil))))))))))))))))) (.lit (.lit (.lit (.lit (.ask (.lit (.lit (.lit (.ask (.lit (.lit (.lit (.lit (.ask (.lit (.req (.abs (Bool) (fun YY=>AV.pv (enc YY)) (.lit (.nil))))) (.lit (.lit (.nil)))))))) (.lit (.lit (.lit (.lit (.lit (.lit (.nil))))))))))) (.lit (.lit (.lit (.lit (.lit (.lit (.lit (.lit (.lit (.nil))))))))))))))))) h (by kernel_rfl)
def Ua:IC:=(Zh [Za 4 (Xo false) 0] (.seq (Zh [Za 6 (Zc 0) 0,Za 7 (.len 1 (.t 6)) 0,Za 8 (Zc 1) 0,Za 9 (.len 1 (.t 8)) 0,Za 10 (ZA .neq (.t 7) (.t 9)) 0] (.cond (.t 10) (Zh [Za 4 (Xo false) 0] .ret) .skip)) (.seq (Zh [Za 5 (.mv (Zy 0)) 0] (.block 0 (.loop [5,0,1] (.seq (Zh [Za 11 (Zc 5) 0,Za 12 (Zc 0) 0,Za 13 (.len 1 (.t 12)) 0,Za 14 (ZA .lss (.t 11) (.t 13)) 0] (.cond (.t 14) .skip (.exit 0))) (.seq (.block 1 (.seq (.reg [Za 17 (Zc 0) 0,Za 18 (Zc 5) 0,Za 19 (.iaddr 1 (.t 17) (.t 18)) 0,Za 20 (Yl [(.int .i64)] (.t 19)) 0,Za 21 (Zc 1) 0,Za 22 (Zc 5) 0,Za 23 (.iaddr 1 (.t 21) (.t 22)) 0,Za 24 (Yl [(.int .i64)] (.t 23)) 0,Za 25 (ZA .neq (.t 20) (.t 24)) 0] (some [[],[],[0,1],[2,0,1],[],[],[4,5],[6,4,5],[3,7,2,0,1,6,4,5]])) (.cond (.t 25) (Zh [Za 4 (Xo false) 0] .ret) .skip))) (.reg [Za 15 (Zc 5) 0,Za 16 (ZA .add (.t 15) (Zy 1)) 0,Za 5 (Zc 16) 0] none)))))) (Zh [Za 4 (Xo true) 0] .ret))))
def V9:List IRes:=[(.tmp 4)]
abbrev a7a:Nat:=26
def U4:ZO:=Xc []
theorem b4m{G:PV->Prop}(a b:List Int)(h:if ((↑(List.length (List.map enc a)):Int) != (↑(List.length (List.map enc b)):Int))=true then G ((.bool false))else(At U4 0 (Zb V9 G) Ua 0 26 [(0,(.pv (.sl 1 false (List.map enc a)))),(1,(.pv (.sl 1 false (List.map enc b)))),(5,(.pv (.int .i64 0)))] [])):Ze U4 0 (Zb V9 G) Ua [] (Yk 26 [enc a,enc b]):=Ze.tp (.lit (.ask (.nil) (.nil))) h (by kernel_rfl)
theorem Ru{G:PV->Prop}(a b:List Int)(i:Int)(h:if (decide (i<(↑(List.length (List.map enc a)):Int)))=true then(decide (0<=i)&&decide (Int.toNat i<List.length (List.map enc a))&&Enc.sz Int==1)=true∧(∃ y0:Int,AV.pv (PV.rptr (PV.cells (List.getD (List.map enc a) (Int.toNat i) default)))=AV.pv (PV.rptr (PV.cells ((enc) y0)))∧((decide (0<=i)&&decide (Int.toNat i<List.length (List.map enc b))&&Enc.sz Int==1)=true∧(∃ y1:Int,AV.pv (PV.rptr (PV.cells (List.getD (List.map enc b) (Int.toNat i) default)))=AV.pv (PV.rptr (PV.cells ((enc) y1)))∧(if (PV.asInt (List.getD (PV.cells (enc y0)) 0 default) != PV.asInt (List.getD (PV.cells (enc y1)) 0 default))=true then G ((.bool false))else(At U4 0 (Zb V9 G) Ua 0 26 [(0,(.pv (.sl 1 false (List.map enc a)))),(1,(.pv (.sl 1 false (List.map enc b)))),(5,(.pv (.int .i64 (IntKind.wrap IntKind.i64 (i+1)))))] [])))))else(G ((.bool true)))):At U4 0 (Zb V9 G) Ua 0 26 [(0,.pv (enc a)),(1,.pv (enc b)),(5,.pv (.int .i64 i))] []:=At.tp (.lit (.ask (.req (.abs (Int) (fun YY=>AV.pv (PV.rptr (PV.cells ((enc) YY)))) (.lit (.req (.abs (Int) (fun YY=>AV.pv (PV.rptr (PV.cells ((enc) YY)))) (.lit (.lit (.ask (.nil) (.lit (.nil)))))))))) (.nil))) h (by kernel_rfl)
end Go.Pl
namespace Go.Pl
open Go.RowKit
open Enc (enc dec is)
open EncL (encL decL isL)
def gwL(m:Int):List Str->List Str->Int->Bool
 | _,[],n=>decide (m ≥ 0)&&decide (n<=20000)
 | seen,s::r,n=>ZG s&& !decide (m ≥ 20000)&& !seen.contains s&&gwL m (seen++[s]) r (if n<=20000 then Db (n*Db (m+1))else n)
theorem a4l{m:Int}(hm:m<0): ∀ (r seen:List Str) (n:Int),gwL m seen r n=false
 | [],seen,n=>by rw[gwL,decide_eq_false (by omega)];rfl
 | s::r,seen,n=>by rw[gwL,a4l hm r];simp
theorem c2y{m:Int}(hm:m<0): ∀ (r seen:List Str) (n:Int),gvL m seen r n=false
 | [],seen,n=>by rw[gvL,decide_eq_false (by omega)]
 | s::r,seen,n=>by rw[gvL,decide_eq_true hm];simp
theorem a4i(m:Int): ∀ (r seen:List Str) (n:Int),20000<n->gwL m seen r n=false
 | [],seen,n,h=>by rw[gwL,decide_eq_false (show ¬ n<=20000 by omega),Bool.and_false]
 | s::r,seen,n,h=>by rw[gwL,if_neg (by omega),a4i m r _ n h];simp
theorem a3p(m:Int): ∀ (r seen:List Str) (n:Int),1<=n->n<=20000->gwL m seen r n=gvL m seen r n
 | [],seen,n,h1,h2=>by rw[gwL,gvL,decide_eq_true h2,Bool.and_true]
 | s::r,seen,n,h1,h2=>by
  by_cases hm:m<0
  ·rw[a4l hm,c2y hm]
  ·rw[gwL,gvL,if_pos h2,decide_eq_false hm]
   by_cases hb:m ≥ 20000
   ·rw[decide_eq_true hb];simp
   ·have q1:m+1<=20000:=by omega
    have q2:1<=m+1:=by omega
    have hm2:n*(m+1)<=20000*20000:=Int.le_trans (Int.mul_le_mul_of_nonneg_left q1 (by omega)) (Int.mul_le_mul_of_nonneg_right h2 (by omega))
    have hm1:1<=n*(m+1):=by
     have:=Int.mul_le_mul h1 q2 (by omega) (by omega)
     omega
    rw[X0 (n:=m+1) (by omega) (by omega),X0 (n:=n*(m+1)) (by omega) (by omega),decide_eq_false hb]
    by_cases hn:n*(m+1)>20000
    ·rw[decide_eq_true hn,a4i _ _ _ _ hn];simp
    ·rw[decide_eq_false hn,a3p m r _ _ hm1 (by omega)]
     cases ZG s <;> cases seen.contains s <;> rfl
theorem c6v(b:BoxT)(R:Bool)(n:Int){i:Nat}(hi:i<b.v.length)(hl:b.v.length<=9223372036854775807)(hyes:(b.v.take i).contains b.v[i]=true->R=false)
  (hno:(b.v.take i).contains b.v[i]=false->At Q7 0 (Zb Uf (Zi R)) Uj 0 55 [(1,.ptr 0 0),(3,.pv (.int .i64 (if n<=20000 then Db (n*Db (b.m+1))else n))),(4,.pv (.int .i64 ((i+1:Nat):Int)))] [.obj (.box [.pv (enc b.v),.pv (.int .i64 b.m)])]) :
  ∀ (d k:Nat),d+k=i->(∀ j (h:j<b.v.length),j<k->b.v[j]≠b.v[i]) ->
  At Q7 0 (Zb Uf (Zi R)) Uj 1 55 [(1,.ptr 0 0),(3,.pv (.int .i64 n)),(4,.pv (.int .i64 i)),(5,.pv (.int .i64 k))] [.obj (.box [.pv (enc b.v),.pv (.int .i64 b.m)])]:=by
 intro d
 induction d with
 | zero=>
  intro k hk hne
  obtain rfl:k=i:=by omega
  have hc:(b.v.take k).contains b.v[k]=false:=by
   rw[<- Bool.not_eq_true,List.contains_iff_mem]
   intro hm
   obtain⟨j,hj,e⟩:=List.getElem_of_mem hm
   rw[List.length_take]at hj
   rw[List.getElem_take]at e
   exact hne j (by omega) (by omega) e
  have:=hno hc
  refine b4c b n k k (ZR (Yd (by omega)) (XQ (fun h=> ?_) fun h=> ?_))
  ·rw[if_pos h]at this
   rw[next (by omega)]
   exact this
  ·rw[if_neg h]at this
   rw[next (by omega)]
   exact this
 | succ d ih=>
  intro k hk hne
  have hkl:k<b.v.length:=by omega
  refine b4c b n i k (ZN (Z8 (by omega)) ⟨Zu hkl rfl,ZB hkl ⟨Zu hi rfl,ZB hi (Kb (fun h=> ?_) fun h=> ?_)⟩⟩)
  ·have e:b.v[k]=b.v[i]:=by
    have h:b.v[k].s=b.v[i].s:=h
    cases hx:b.v[k];cases hy:b.v[i]
    rw[hx,hy]at h
    exact congrArg Str.mk h
   refine ZL (hyes ?_).symm
   rw[List.contains_iff_mem,<- e,List.mem_take_iff_getElem]
   exact⟨k,by omega,rfl⟩
  ·rw[next (by omega)]
   refine ih (k+1) (by omega) fun j hj hjk=> ?_
   by_cases e:j=k
   ·subst e
    intro e2
    exact h (congrArg Str.s e2)
   ·exact hne j hj (by omega)
theorem b3p(b:BoxT)(hl:b.v.length<=9223372036854775807): ∀ (d i:Nat) (n:Int),d+i=b.v.length ->
  At Q7 0 (Zb Uf (Zi (gwL b.m (b.v.take i) (b.v.drop i) n))) Uj 0 55 [(1,.ptr 0 0),(3,.pv (.int .i64 n)),(4,.pv (.int .i64 i))] [.obj (.box [.pv (enc b.v),.pv (.int .i64 b.m)])]:=by
 intro d
 induction d with
 | zero=>
  intro i n hi
  rw[List.drop_of_length_le (by omega)]
  refine b5x b n i (ZR (Xq (by omega)) ?_)
  rw[gwL]
  refine XQ (fun h=> ?_) fun h=> ?_
  ·rw[decide_eq_true h];exact ZL rfl
  ·rw[decide_eq_false h];exact ZL rfl
 | succ d ih=>
  intro i n hi
  have hlt:i<b.v.length:=by omega
  have hd:b.v.drop i=b.v[i]::b.v.drop (i+1):=List.drop_eq_getElem_cons hlt
  have ht:b.v.take (i+1)=b.v.take i++[b.v[i]]:=List.take_succ_eq_append_getElem hlt
  rw[hd,gwL]
  refine b5x b n i (ZN (Y3 hlt) ⟨Zu hlt rfl,ZB hlt (Zk (b.v[i],()) rfl (XU (fun h=> ?_) fun h=>XQ (fun h2=> ?_) fun h2=> ?_))⟩)
  ·have h:ZG b.v[i]=false:=h
   rw[h];exact ZL rfl
  ·rw[decide_eq_true h2];simp only[Bool.not_true,Bool.and_false,Bool.false_and];exact ZL rfl
  ·have h:ZG b.v[i]=true:=h
   rw[decide_eq_false h2,h]
   simp only[Bool.not_false,Bool.true_and,Bool.and_true]
   refine c6v b _ n hlt hl (fun hc=>by rw[hc];rfl) (fun hc=> ?_) i 0 (by omega) (fun j _ hj=>by omega)
   rw[hc,Bool.not_false,Bool.true_and,<- ht]
   exact ih (i+1) _ (by omega)
theorem c4p: ∀ a:BoxT×Unit,ZH a.1=true->Ze Q7 0 (Zb Uf (Zi (Y4 a.1))) Uj [] (Yk c6b (encL a)):=by
 rintro⟨b,⟨⟩⟩ h
 simp only[ZH,XX,Bool.and_eq_true]at h
 rw[<- a2c,<- a3p b.m b.v [] 1 (by decide) (by decide)]
 exact d0f b (b3p b (ZF.1 h.1) b.v.length 0 1 (by omega))
theorem a7j(b:BoxT)(ns:List Str)(R:Bool){i:Nat}(hi:i<ns.length)(hl:b.v.length<=9223372036854775807)(hn:ns.length<=9223372036854775807)(hyes:b.v.contains ns[i]=false->R=false)
  (hno:b.v.contains ns[i]=true->At XL 0 (Zb Xe (Zi R)) Xb 0 36 [(1,.pv (enc ns)),(2,.ptr 0 0),(5,.pv (.int .i64 ((i+1:Nat):Int)))] [.obj (.box [.pv (enc b.v),.pv (.int .i64 b.m)])]) :
  ∀ (d k:Nat),d+k=b.v.length->At XL 0 (Zb Xe (Zi R)) Xb 1 36 [(1,.pv (enc ns)),(2,.ptr 0 0),(5,.pv (.int .i64 i)),(6,.pv (.bool ((b.v.take k).contains ns[i]))),(7,.pv (.int .i64 k))] [.obj (.box [.pv (enc b.v),.pv (.int .i64 b.m)])]:=by
 intro d
 induction d with
 | zero=>
  intro k hk
  obtain rfl:k=b.v.length:=by omega
  rw[List.take_length]
  refine Pm b ns i b.v.length _ (ZR (Xq (by omega)) (XU (fun h=>ZL (hyes h).symm) fun h=> ?_))
  rw[next (by omega)]
  exact hno h
 | succ d ih=>
  intro k hk
  have hkl:k<b.v.length:=by omega
  have h1:=ih (k+1) (by omega)
  have ht:(b.v.take (k+1)).contains ns[i]=((b.v.take k).contains ns[i]||(b.v[k].s==ns[i].s)):=by
   rw[List.take_succ_eq_append_getElem hkl]
   have e:((b.v[k].s==ns[i].s):Bool)=(b.v[k]==ns[i]):=by
    rw[Bool.eq_iff_iff]
    simp only[beq_iff_eq]
    constructor
    ·intro h
     cases hx:b.v[k];cases hy:ns[i]
     rw[hx,hy]at h
     exact congrArg Str.mk h
    ·intro h;rw[h]
   rw[e]
   rw[Bool.eq_iff_iff]
   simp only[List.contains_iff_mem,List.mem_append,List.mem_singleton,Bool.or_eq_true,beq_iff_eq]
   exact⟨fun h=>h.imp_right Eq.symm,fun h=>h.imp_right Eq.symm⟩
  refine Pm b ns i k _ (ZN (Y3 hkl) (XT (fun h=> ?_) fun h=>⟨Zu hkl rfl,ZB hkl ⟨Zu hi rfl,ZB hi ?_⟩⟩))
  ·rw[ht,h,Bool.true_or]at h1
   rw[next (by omega)]
   exact h1
  ·rw[ht,h,Bool.false_or]at h1
   rw[next (by omega)]
   exact h1
theorem Li(b:BoxT)(ns:List Str)(hl:b.v.length<=9223372036854775807)(hn:ns.length<=9223372036854775807): ∀ (d i:Nat),d+i=ns.length ->
  At XL 0 (Zb Xe (Zi (YQ b.v (ns.drop i)))) Xb 0 36 [(1,.pv (enc ns)),(2,.ptr 0 0),(5,.pv (.int .i64 i))] [.obj (.box [.pv (enc b.v),.pv (.int .i64 b.m)])]:=by
 intro d
 induction d with
 | zero=>
  intro i hi
  rw[List.drop_of_length_le (by omega)]
  exact Ph b ns i (ZR (Xq (by omega)) (ZL rfl))
 | succ d ih=>
  intro i hi
  have hlt:i<ns.length:=by omega
  have hd:ns.drop i=ns[i]::ns.drop (i+1):=List.drop_eq_getElem_cons hlt
  have e:YQ b.v (ns.drop i)=(b.v.contains ns[i]&&YQ b.v (ns.drop (i+1))):=by rw[hd];rfl
  rw[e]
  refine Ph b ns i (ZN (Y3 hlt) ?_)
  have:=a7j b ns (b.v.contains ns[i]&&YQ b.v (ns.drop (i+1))) hlt hl hn (fun h=>by rw[h];rfl) (fun h=>by rw[h,Bool.true_and];exact ih (i+1) (by omega)) b.v.length 0 (by omega)
  exact this
theorem O3: ∀ a:BoxT×List Str×Unit,(Zr a.1.v&&Zr a.2.1)=true->Ze XL 0 (Zb Xe (Zi (YQ a.1.v a.2.1))) Xb [] (Yk a5d (encL a)):=by
 rintro⟨b,ns,⟨⟩⟩ h
 simp only[Bool.and_eq_true]at h
 exact b6p b ns (Li b ns (ZF.1 h.1) (ZF.1 h.2) ns.length 0 (by omega))
theorem Mi(b:BoxT)(p:List Int)(hb:b.v.length<=1000)(hp:p.length<=1000): ∀ (k i:Nat),k+i=min b.v.length p.length->1<=i ->
  At Vv 1 (WT 1 WK fun r=> ∃ q q',r.1 = .pv q∧Sub q q'∧((.pv (.sl 2 false ((Zq b.v p).map enc)),[.row false 3 1 (p.map enc)],[]):AV×List AObj×List AObj)=(.pv q',r.2)) WM 0 34 [(1,.row 0 p.length 0 p.length),(2,.ptr 1 0),(5,.row 2 i 0 i),(6,.pv (.int .i64 i))] [.obj (.row false 3 1 (p.map enc)),.obj (.box [.pv (enc b.v),.pv (.int .i64 b.m)]),.obj (.row false 63 2 ((Zq (b.v.take i) (p.take i)).map enc))]:=by
 intro k
 induction k with
 | zero=>
  intro i hi h1
  have hl:=GN b.v p (i:=i) (by omega) (by omega)
  have fin : ∀ os,∃ q q',(AV.pv (PV.sl 2 false (List.drop 0 (List.take i (List.map (enc:Coef->PV) (Zq (b.v.take i) (p.take i))))))) = .pv q∧Sub q q'∧((.pv (.sl 2 false ((Zq b.v p).map enc)),os):AV×List AObj×List AObj)=(.pv q',os):=by
   intro os
   rw[List.drop_zero,List.take_of_length_le (by rw[List.length_map,hl];exact Nat.le_refl _),OI b.v p (by omega)]
   exact⟨_,_,rfl,Sub.refl _,rfl⟩
  by_cases hbl:i<b.v.length
  ·exact Jd b p.length p i i (Zq (b.v.take i) (p.take i)) (ZN (Y3 hbl) (ZR (Yd (by omega)) ⟨by simp[hl],fin _⟩))
  ·exact Jd b p.length p i i (Zq (b.v.take i) (p.take i)) (ZR (Xq hbl) ⟨by simp[hl],fin _⟩)
 | succ k ih=>
  intro i hi h1
  have hl:=GN b.v p (i:=i) (by omega) (by omega)
  have hlt:i<b.v.length:=by omega
  have hlt2:i<p.length:=by omega
  have e:=Qe hlt2
  refine Jd b p.length p i i (Zq (b.v.take i) (p.take i)) (ZN (Y3 hlt) (ZN (Z8 (by omega)) ⟨Zu hlt rfl,ZB hlt ⟨by simp;omega,by simp;omega,?_,?_,?_⟩⟩))
  ·rw[e];rfl
  ·rw[List.length_map,hl]
   show((i==i)&&(i==i)&&decide ((i+1)*24<=1099511627776)&&decide (i+1<=1099511627776))=true
   rw[decide_eq_true (by omega),decide_eq_true (by omega)];simp
  ·have:=ih (i+1) (by omega) (by omega)
   rw[JA b.v p hlt hlt2,List.map_append,<- next (by omega)]at this
   rw[e]
   exact this
theorem Ls: ∀ args os,Wo args os=true->Ze Vv os.length (WT os.length WK fun r=> ∃ p p',r.1 = .pv p∧Sub p p'∧Ur args os=(.pv p',r.2)) WM [] (YV a9c args os):=by
 intro args os h
 unfold Wo at h
 split at h
 ·rename_i v k n m ty xs
  simp only[Bool.and_eq_true,beq_iff_eq,decide_eq_true_eq]at h
  obtain⟨⟨⟨⟨⟨⟨rfl,h2⟩,rfl⟩,h4⟩,h5⟩,h6⟩,h7⟩:=h
  obtain⟨p,hp⟩:=YB h4
  have hp:PV.sl 1 false xs=PV.sl 1 false (p.map enc):=hp
  injection hp with _ _ hx
  subst hx
  obtain⟨bv,rfl⟩:=YB h5
  rw[Enc.dec_enc]at h6
  rw[List.length_map]at h2
  subst h2
  have ev:Ur [.pv (.agg [enc bv,.int .i64 k]),.row 0 p.length 0 p.length] [.row false 3 1 (p.map enc)]=(.pv (.sl 2 false ((Zq bv p).map enc)),[.row false 3 1 (p.map enc)],[]):=by
   show(AV.pv (.sl 2 false ((Zq (dec (enc bv:PV)) (Sa (p.map enc))).map enc)),_,_)=_
   rw[Enc.dec_enc,Gr]
  rw[ev]
  refine a6a ⟨bv,k⟩ p.length p ?_
  by_cases h0:min bv.length p.length=0
  ·have hz:Zq bv p=[]:=by
    rw[<- List.length_eq_zero_iff];unfold Zq;rw[List.length_zipWith];exact h0
   rw[hz]
   by_cases hbl:0<bv.length
   ·exact K7 ⟨bv,k⟩ p.length p ((0:Nat):Int) (ZN (Y3 hbl) (ZR (Yd (by omega)) ⟨_,_,rfl,Sub.sl0 0 2 true,rfl⟩))
   ·exact K7 ⟨bv,k⟩ p.length p ((0:Nat):Int) (ZR (Xq hbl) ⟨_,_,rfl,Sub.sl0 0 2 true,rfl⟩)
  ·have hlt:0<bv.length:=by omega
   have hlt2:0<p.length:=by omega
   have e:=Qe hlt2
   refine K7 ⟨bv,k⟩ p.length p ((0:Nat):Int) (ZN (Y3 hlt) (ZN (Z8 (by omega)) ⟨Zu hlt rfl,ZB hlt ⟨by simp;omega,by simp;omega,?_,?_⟩⟩))
   ·rw[e];rfl
   ·have:=Mi ⟨bv,k⟩ p h6 h7 (min bv.length p.length - 1) 1 (by show min bv.length p.length - 1+1=min bv.length p.length;omega) (by omega)
    rw[show(1:Nat)=0+1 from rfl,JA bv p hlt hlt2]at this
    rw[e]
    exact this
 ·cases h
theorem LP(l:Lin)(hl:l.t.length<=1000000): ∀ (k i:Nat),k+i=l.t.length->1<=i ->
  At VL 0 (Zb WA (Zi (Zg l))) WP 0 22 [(1,.ptr 0 0),(3,.row 1 i 0 i),(4,.pv (.int .i64 i))] [.obj (.box [.pv (.int .i64 l.k),.pv (enc l.t)]),.obj (.row false 9 1 ((OO l i).map enc))]:=by
 intro k
 induction k with
 | zero=>
  intro i hi h1
  obtain rfl:i=l.t.length:=by omega
  refine Tf l _ _ (OO l l.t.length) (ZR (Xq (by omega)) ⟨by simp[KQ],?_⟩)
  rw[List.drop_zero,List.take_of_length_le (by rw[List.length_map,KQ l (Nat.le_refl _)];exact Nat.le_refl _),NR]
  exact Z0 (x:=Zg l) rfl
 | succ k ih=>
  intro i hi h1
  have hlt:i<l.t.length:=by omega
  refine Tf l i i (OO l i) (ZN (Y3 hlt) ⟨Zu hlt rfl,ZB hlt ⟨Au (m:=1) (by rw[List.length_map,KQ l (by omega)]) (by omega) (by omega),?_⟩⟩)
  have:=ih (i+1) (by omega) (by omega)
  rw[JM l hlt,<- next (by omega)]at this
  exact this
theorem EB: ∀ a:Lin×Unit,decide (a.1.t.length<=1000000)=true->Ze VL 0 (Zb WA (Zi (Zg a.1))) WP [] (Yk a5f (encL a)):=by
 rintro⟨l,⟨⟩⟩ h
 have h:l.t.length<=1000000:=of_decide_eq_true h
 refine b7k l ?_
 by_cases h0:l.t.length=0
 ·refine Sr l ((0:Nat):Int) (ZR (Xq (by omega)) ?_)
  have:Zg l=[]:=by unfold Zg;rw[List.length_eq_zero_iff.1 h0];rfl
  rw[this]
  exact⟨rfl,rfl⟩
 ·have hlt:0<l.t.length:=by omega
  refine Sr l ((0:Nat):Int) (ZN (Y3 hlt) ⟨Zu hlt rfl,ZB hlt ?_⟩)
  have:=LP l h (l.t.length - 1) 1 (by omega) (by omega)
  rw[show(1:Nat)=0+1 from rfl,JM l hlt]at this
  exact this
theorem Oe(l:Lin)(s:List UInt8)(hl:l.t.length<=9223372036854775807): ∀ (k i:Nat),k+i=l.t.length ->
  At U8 0 (Zb Ug (Zi (Xw (l.t.drop i) s))) Uk 0 27 [(1,.pv (.str s)),(2,.ptr 0 0),(5,.pv (.int .i64 i))] [.obj (.box [.pv (.int .i64 l.k),.pv (enc l.t)])]:=by
 intro k
 induction k with
 | zero=>
  intro i hi
  rw[List.drop_of_length_le (by omega)]
  exact TS l s i (ZR (Xq (by omega)) (VQ rfl))
 | succ k ih=>
  intro i hi
  have hlt:i<l.t.length:=by omega
  have h:=ih (i+1) (by omega)
  rw[List.drop_eq_getElem_cons hlt,YM]
  refine TS l s i (ZN (Y3 hlt) ⟨Zu hlt rfl,ZB hlt (Kb (fun h1=> ?_) fun h1=> ?_)⟩)
  ·have h1:l.t[i].v.s=s:=h1
   rw[if_pos h1]
   exact⟨Zu hlt rfl,ZB hlt (VQ rfl)⟩
  ·have h1 : ¬ l.t[i].v.s=s:=h1
   rw[if_neg h1,next (by omega)]
   exact h
theorem a0t: ∀ a:Lin×Str×Unit,Zr a.1.t=true->Ze U8 0 (Zb Ug (Zi (Xw a.1.t a.2.1.s))) Uk [] (Yk a6g (encL a)):=by
 rintro⟨l,⟨s⟩,⟨⟩⟩ h
 exact b8m l s (Oe l s (ZF.1 h) l.t.length 0 (by omega))
theorem b3g(l:Lin)(s:Str):(KG l s).t.length<=l.t.length+1:=by
 unfold KG
 split
 ·exact AL l s 1
 ·omega
def b3k(l:Lin)(k:Int)(p:PV):Prop:=is (List Coef) p=true∧(dec p:List Coef)=l.t∧k=l.k
theorem FQ{l:Lin}{k:Int}{p:PV}(h:b3k l k p):(dec (.agg [.int .i64 k,p]):Lin)=l∧is Lin (.agg [.int .i64 k,p])=true:=by
 obtain⟨h1,h2,h3⟩:=h
 refine⟨?_,?_⟩
 ·show(⟨k,dec p⟩:Lin)=l
  rw[h2,h3]
 ·show(true&&is (List Coef) p)=true
  rw[h1];rfl
theorem b5l(l:Lin):b3k l l.k (enc l.t):=⟨Enc.is_enc _,Enc.dec_enc _,rfl⟩
def JX(o l:Lin):Lin:=(Zg l).foldl KG o
theorem a4w(ls:List Lin)(hls:ls.length<=1000)(hl : ∀ l∈ls,l.t.length<=1000)(R:List Str){i:Nat}(hi:i<ls.length)
  (hnext : ∀ l k p,b3k l k p->l=l->l.t.length<=1000*(i+1)->R=Zg ((ls.drop (i+1)).foldl JX l)->At XP 0 (Zb Xf (Zi R)) Xd 0 41 [(0,.pv (enc ls)),(3,.ptr 0 0),(4,.pv (.int .i64 ((i+1:Nat):Int)))] [.obj (.box [.pv (.int .i64 k),.pv p])]) :
  ∀ (d j:Nat) (l:Lin) (k:Int) (p:PV),d+j=ls[i].t.length->b3k l k p->l.t.length<=1000*i+j->R=Zg ((ls.drop (i+1)).foldl JX (((Zg ls[i]).drop j).foldl KG l)) ->
  At XP 0 (Zb Xf (Zi R)) Xd 1 41 [(0,.pv (enc ls)),(3,.ptr 0 0),(4,.pv (.int .i64 i)),(5,.pv (.int .i64 j))] [.obj (.box [.pv (.int .i64 k),.pv p])]:=by
 have hli:=hl _ (List.getElem_mem hi)
 have hnl:(Zg ls[i]).length=ls[i].t.length:=by unfold Zg;rw[List.length_map]
 intro d
 induction d with
 | zero=>
  intro j l k p hd hp hlen hR
  refine Pi ls k p i j ⟨Zu hi rfl,ZB hi (ZR (Xq (show ¬ j<ls[i].t.length by omega)) ?_)⟩
  rw[next (by omega)]
  refine hnext l k p hp rfl (by omega) ?_
  rw[hR,List.drop_of_length_le (by omega)]
  rfl
 | succ d ih=>
  intro j l k p hd hp hlen hR
  have hj:j<ls[i].t.length:=by omega
  have e1:List.getD (List.map (enc:Coef->PV) ls[i].t) (Int.toNat (j:Int)) default=enc ls[i].t[j]:=by simp[List.getD,hj]
  obtain⟨q1,q2⟩:=FQ hp
  have hdr:(Zg ls[i]).drop j=ls[i].t[j].v::(Zg ls[i]).drop (j+1):=by
   rw[List.drop_eq_getElem_cons (by omega)]
   unfold Zg
   rw[List.getElem_map]
  rw[hdr,List.foldl_cons]at hR
  refine Pi ls k p i j ⟨Zu hi rfl,ZB hi (ZN (Y3 hj) ⟨Zu hi rfl,ZB hi ⟨?_,?_,?_⟩⟩)⟩
  ·show(decide (0<=(j:Int))&&decide (Int.toNat (j:Int)<List.length (List.map (enc:Coef->PV) ls[i].t))&&2==2)=true
   simp;omega
  ·show(decide (0+List.length [Sh.str]<=List.length (List.drop 0 (PV.cells (List.getD (List.map (enc:Coef->PV) ls[i].t) (Int.toNat (j:Int)) default))))&&Yx (List.drop 0 (PV.cells (List.getD (List.map (enc:Coef->PV) ls[i].t) (Int.toNat (j:Int)) default))) 0 [Sh.str])=true
   rw[e1];rfl
  ·have es:PV.asStr (List.getD (List.drop 0 (PV.cells (List.getD (PV.asXs (List.getD (List.drop 1 (PV.cells (enc ls[i]))) 0 default)) (Int.toNat (j:Int)) default))) 0 default)=ls[i].t[j].v.s:=by
    show PV.asStr (List.getD (List.drop 0 (PV.cells (List.getD (List.map (enc:Coef->PV) ls[i].t) (Int.toNat (j:Int)) default))) 0 default)=_
    rw[e1];rfl
   rw[es]
   refine⟨CZ (l,ls[i].t[j].v,()) ?_ ?_ (ZF.2 (by show l.t.length<=_;omega)),DC (l,ls[i].t[j].v,()) ?_ (Kb (fun h=> ?_) fun h=> ?_)⟩
   ·show(is Lin _&&(true&&true))=true
    rw[q2];rfl
   ·exact congrArg (fun z:Lin=>(z,ls[i].t[j].v,())) q1
   ·exact congrArg (fun z:Lin=>(z,ls[i].t[j].v,())) q1
   ·have h:Xw l.t ls[i].t[j].v.s=0:=h
    have hput:KG l ls[i].t[j].v=VD l ls[i].t[j].v 1:=by unfold KG;rw[if_pos h]
    refine⟨CZ (l,ls[i].t[j].v,1,()) ?_ ?_ (by simp;omega),DC (l,ls[i].t[j].v,1,()) ?_ ?_⟩
    ·show(is Lin _&&(true&&(true&&true)))=true
     rw[q2];rfl
    ·exact congrArg (fun z:Lin=>(z,ls[i].t[j].v,(1:Int),())) q1
    ·exact congrArg (fun z:Lin=>(z,ls[i].t[j].v,(1:Int),())) q1
    ·rw[next (by omega)]
     rw[hput]at hR
     have:=AL l ls[i].t[j].v 1
     exact ih (j+1) _ _ _ (by omega) (b5l _) (by show(VD l ls[i].t[j].v 1).t.length<=_;omega) hR
   ·have h : ¬ Xw l.t ls[i].t[j].v.s=0:=h
    have hput:KG l ls[i].t[j].v=l:=by unfold KG;rw[if_neg h]
    rw[next (by omega)]
    rw[hput]at hR
    exact ih (j+1) _ _ _ (by omega) hp (by omega) hR
theorem Ld(ls:List Lin)(hls:ls.length<=1000)(hl : ∀ l∈ls,l.t.length<=1000): ∀ (d i:Nat) (l:Lin) (k:Int) (p:PV) (R:List Str),d+i=ls.length->b3k l k p->l.t.length<=1000*i->R=Zg ((ls.drop i).foldl JX l) ->
  At XP 0 (Zb Xf (Zi R)) Xd 0 41 [(0,.pv (enc ls)),(3,.ptr 0 0),(4,.pv (.int .i64 i))] [.obj (.box [.pv (.int .i64 k),.pv p])]:=by
 intro d
 induction d with
 | zero=>
  intro i l k p R hi hp hlen hR
  obtain⟨q1,q2⟩:=FQ hp
  rw[List.drop_of_length_le (by omega)]at hR
  refine RN ls k p i (ZR (Xq (by omega)) ⟨CZ (l,()) ?_ ?_ (by simp;omega),DC (l,()) ?_ ?_⟩)
  ·show(is Lin _&&true)=true
   rw[q2];rfl
  ·exact congrArg (fun z:Lin=>(z,())) q1
  ·exact congrArg (fun z:Lin=>(z,())) q1
  ·rw[hR]
   exact Z0 (x:=Zg l) rfl
 | succ d ih=>
  intro i l k p R hi hp hlen hR
  have hlt:i<ls.length:=by omega
  rw[List.drop_eq_getElem_cons hlt,List.foldl_cons]at hR
  refine RN ls k p i (ZN (Y3 hlt) ?_)
  exact a4w ls hls hl R hlt (fun l' k' p' hp' _ hlen' hR'=>ih (i+1) l' k' p' R (by omega) hp' hlen' hR') ls[i].t.length 0 l k p (by omega) hp (by omega) hR
theorem O4: ∀ a:List Lin×Unit,VP a.1=true->Ze XP 0 (Zb Xf (Zi (UK a.1))) Xd [] (Yk a8o (encL a)):=by
 rintro⟨ls,⟨⟩⟩ h
 simp only[VP,Bool.and_eq_true,decide_eq_true_eq,List.all_eq_true]at h
 obtain⟨h1,h2⟩:=h
 exact b2o ls (Ld ls h1 h2 ls.length 0 ⟨0,[]⟩ 0 _ _ (by omega) ⟨rfl,rfl,rfl⟩ (by simp) rfl)
theorem GR{α:Type}[DecidableEq α](x y:α)(a b:List α):decide (x::a=y::b)=(decide (x=y)&&decide (a=b)):=by
 rw[Bool.eq_iff_iff];simp
theorem OL(a b:List Int)(ha:a.length<=9223372036854775807)(hab:a.length=b.length): ∀ (k i:Nat),k+i=a.length ->
  At U4 0 (Zb V9 (Zi (decide (a.drop i=b.drop i)))) Ua 0 26 [(0,.pv (enc a)),(1,.pv (enc b)),(5,.pv (.int .i64 i))] []:=by
 intro k
 induction k with
 | zero=>
  intro i hi
  rw[List.drop_of_length_le (by omega),List.drop_of_length_le (by omega)]
  exact Ru a b i (ZR (Xq (by omega)) (ZL rfl))
 | succ k ih=>
  intro i hi
  have hlt:i<a.length:=by omega
  have hlt2:i<b.length:=by omega
  have h:=ih (i+1) (by omega)
  rw[List.drop_eq_getElem_cons hlt,List.drop_eq_getElem_cons hlt2,GR]
  refine Ru a b i (ZN (Y3 hlt) ⟨Zu hlt rfl,ZB hlt ⟨Zu hlt2 rfl,ZB hlt2 ?_⟩⟩)
  show if (a[i] != b[i])=true then _ else _
  by_cases e:a[i]=b[i]
  ·rw[if_neg (by simp[e]),next (by omega),decide_eq_true e,Bool.true_and]
   exact h
  ·rw[if_pos (by simp[e]),decide_eq_false e,Bool.false_and]
   exact ZL rfl
theorem Ed: ∀ x:List Int×List Int×Unit,Zr x.1=true->Ze U4 0 (Zb V9 (Zi (decide (x.1=x.2.1)))) Ua [] (Yk a7a (encL x)):=by
 rintro⟨a,b,⟨⟩⟩ h
 refine b4m a b ?_
 simp only[List.length_map]
 by_cases e:a.length=b.length
 ·rw[if_neg (by simp[e])]
  exact OL a b (ZF.1 h) e a.length 0 (by omega)
 ·rw[if_pos (by simp;omega)]
  exact ZL (by simp;rintro rfl;exact e rfl)
def b3f(m:Int):Nat->Int->Int
 | 0,n=>n
 | k+1,n=>b3f m k (Db (n*Db (m+1)))
theorem Hy(b:BoxT)(fs:List Fact)(hl:b.v.length<=9223372036854775807)(hf:YJ fs=true)(n:Int){P:Prop}{G:PV->Prop}(hG : ∀ x,x=(decide (b.v.length<=5)&&decide (n<=300)&&decide (fs.length<=6)&&CK fs 6)->G (.bool x)):
  if (decide ((↑(List.length (List.map (enc:Str->PV) (BoxT.v b))):Int)<=5))=true then if (decide (n<=300))=true then if (decide ((↑(List.length (List.map (enc:Fact->PV) fs)):Int)<=6))=true then
   (Go.Pl.preT (fun(x:List Fact×Int×Unit)=>YJ (Prod.fst x)) [(.sl 3 false (List.map enc fs)),(.int .i64 6)])=true∧(∃ y1:Bool,AV.pv (Zj (fun(x:List Fact×Int×Unit)=>CK (Prod.fst x) (Prod.fst (Prod.snd x))) [(.sl 3 false (List.map enc fs)),(.int .i64 6)])=AV.pv (enc y1)∧(G ((.bool y1))))else(G ((.bool false)))else(G ((.bool false)))else(G ((.bool false))):=by
 simp only[List.length_map]
 refine XQ (fun h1=>XQ (fun h2=>XQ (fun h3=>⟨Zl (fs,6,()) rfl hf,Zk (fs,6,()) rfl (hG _ ?_)⟩) fun h3=>hG _ ?_) fun h2=>hG _ ?_) fun h1=>hG _ ?_
 ·rw[decide_eq_true (show b.v.length<=5 by omega),decide_eq_true h2,decide_eq_true (show fs.length<=6 by omega)];rfl
 ·rw[decide_eq_false (show ¬ fs.length<=6 by omega)];simp
 ·rw[decide_eq_false h2];simp
 ·rw[decide_eq_false (show ¬ b.v.length<=5 by omega)];simp
theorem Lu(b:BoxT)(fs:List Fact)(hb:ZH b=true)(hv:Y4 b=true)(hf:YJ fs=true): ∀ (k i:Nat) (n:Int),k+i=b.v.length ->
  At VG 0 (Zb WC (Zi (decide (b.v.length<=5)&&decide (b3f b.m k n<=300)&&decide (fs.length<=6)&&CK fs 6))) Ud 0 40 [(1,.pv (enc fs)),(2,.ptr 0 0),(5,.pv (.int .i64 n)),(6,.pv (.int .i64 i))] [.obj (.box [.pv (enc b.v),.pv (.int .i64 b.m)])]:=by
 have hbo:=hb
 simp only[ZH,XX,Bool.and_eq_true]at hb
 have hl:=ZF.1 hb.1
 intro k
 induction k with
 | zero=>
  intro i n hi
  exact JI b fs n i (ZR (Xq (by omega)) (Hy (P:=True) b fs hl hf n fun x hx=>ZL hx))
 | succ k ih=>
  intro i n hi
  have hlt:i<b.v.length:=by omega
  refine JI b fs n i (ZN (Y3 hlt) ⟨Zl (b,()) rfl hbo,Zk (b,()) rfl (ZN hv ?_)⟩)
  rw[next (by omega)]
  exact ih (i+1) _ (by omega)
theorem Oo(m:Nat): ∀ (l:List Str) (n r:Int),0<=n->n<=20000->Hl m l n=some r->m<=20000->b3f m l.length n=a4k m l n
 | [],n,r,_,_,_,_=>rfl
 | s::l,n,r,h0,h1,h,hm=>by
  rw[Hl]at h
  split at h
  ·cases h
  ·rename_i hn
   show b3f m l.length (Db (n*Db ((m:Int)+1)))=a4k m l (n*((m:Int)+1))
   have e0:0<=n*((m:Int)+1):=Int.mul_nonneg h0 (by omega)
   rw[X0 (n:=(m:Int)+1) (by omega) (by omega),X0 (by omega) (by omega)]
   exact Oo m l _ r e0 (by omega) h hm
theorem E9: ∀ x:BoxT×List Fact×Unit,(ZH x.1&&YJ x.2.1)=true->Ze VG 0 (Zb WC (Zi (QX x.1 x.2.1))) Ud [] (Yk a5e (encL x)):=by
 rintro⟨b,fs,⟨⟩⟩ h
 simp only[Bool.and_eq_true]at h
 obtain⟨hb,hf⟩:=h
 have hbo:=hb
 simp only[ZH,XX,Bool.and_eq_true]at hb
 have hl:=ZF.1 hb.1
 refine b6z b fs ?_
 cases hv:Y4 b
 ·have ef:QX b fs=(decide (b.v.length<=5)&&decide ((1:Int)<=300)&&decide (fs.length<=6)&&CK fs 6):=by unfold QX;rw[hv];rfl
  show At VG 0 (Zb WC (Zi (QX b fs))) _ _ _ _ _
  rw[ef]
  by_cases h0:0<b.v.length
  ·refine JI b fs 1 ((0:Nat):Int) (ZN (Y3 h0) ⟨Zl (b,()) rfl hbo,Zk (b,()) rfl (ZR (show ¬ Y4 b=true by simp[hv]) ?_)⟩)
   exact Hy (P:=True) b fs hl hf 1 fun x hx=>ZL hx
  ·exact JI b fs 1 ((0:Nat):Int) (ZR (Xq h0) (Hy (P:=True) b fs hl hf 1 fun x hx=>ZL hx))
 ·have ef:QX b fs=(decide (b.v.length<=5)&&decide (b3f b.m b.v.length 1<=300)&&decide (fs.length<=6)&&CK fs 6):=by
   unfold QX
   rw[hv,if_pos rfl]
   obtain⟨_,_,h3,h4,h5⟩:=UE.1 hv
   obtain⟨r,hr⟩:=Option.isSome_iff_exists.1 h5
   rcases h3 with h3|h3
   ·rw[h3];rfl
   ·have e:b.m=(b.m.toNat:Int):=by omega
    rw[e]at hr ⊢
    rw[Oo _ _ _ _ (by decide) (by decide) hr (by omega)]
  show At VG 0 (Zb WC (Zi (QX b fs))) _ _ _ _ _
  rw[ef]
  exact Lu b fs hbo hv hf b.v.length 0 1 (by omega)
end Go.Pl
namespace Go.Pl
open Go.RowKit
open Enc (enc dec is)
open EncL (encL decL isL)
set_option maxRecDepth 100000
def WJ:IC:=(Zh [Za 4 (.box 2 (.t 0)) 0,Za 6 (.box 2 (.t 2)) 1,Za 8 (.mv (Zy 0)) 2] (.seq (Zh [Za 11 (.load true [(.sl 1),(.int .i64)] (.t 4)) 0,Za 12 (YT 51 [(.t 11)]) 0,Za 13 (.un .not (.t 12)) 2,Za 14 (Zc 13) 2,ZX 15 (Zc 1) 2 14,ZX 16 (YT 35 [(.t 15)]) 2 14,ZX 17 (.un .not (.t 16)) 4 14,Za 18 (.pick (.t 14) (.c (.bool true)) (.t 17)) 4,Za 19 (Zc 18) 4,ZX 20 (.load true [(.int .i64),(.sl 2)] (.t 6)) 4 19,ZX 21 (YT 20 [(.t 20)]) 4 19,ZX 22 (.un .not (.t 21)) 6 19,Za 23 (.pick (.t 19) (.c (.bool true)) (.t 22)) 6,Za 24 (Zc 23) 6,ZX 25 (Zc 3) 6 24,ZX 26 (YT 131 [(.t 25)]) 6 24,ZX 27 (.un .not (.t 26)) 8 24,Za 28 (.pick (.t 24) (.c (.bool true)) (.t 27)) 8] (.cond (.t 28) (Zh [Za 8 (.mv (Zy 1)) 0] .ret) .skip)) (Zh [Za 9 (.mv (.c (.sl 0 true []))) 0] (.seq (Zh [Za 10 (.mv (Zy 0)) 0] (.block 0 (.loop [10,1,9,4,6,3] (.seq (Zh [Za 29 (Zc 10) 0,Za 30 (Zc 1) 0,Za 31 (.len 1 (.t 30)) 0,Za 32 (ZA .lss (.t 29) (.t 31)) 0] (.cond (.t 32) .skip (.exit 0))) (.seq (.block 1 (.reg [Za 35 (Zc 9) 0,Za 36 (Zc 1) 0,Za 37 (Zc 10) 0,Za 38 (.iaddr 3 (.t 36) (.t 37)) 0,Za 39 (.faddr 1 (.t 38)) 0,Za 40 (.load true [(.int .i64),(.sl 2)] (.t 39)) 0,Za 41 (.bslice 24 2 1 (.agg [(.int .i64 0),(.sl 0 true [])]) [(0,(.t 40))]) 0,Za 42 (.append 24 2 32 (.t 35) (.t 41)) 1,Za 9 (Zc 42) 2] none)) (.reg [Za 33 (Zc 10) 0,Za 34 (ZA .add (.t 33) (Zy 1)) 0,Za 10 (Zc 34) 0] none)))))) (.seq (.seq (.reg [Za 43 (.load true [(.sl 1),(.int .i64)] (.t 4)) 0,Za 44 (Zc 9) 0,Za 45 (.load true [(.int .i64),(.sl 2)] (.t 6)) 0,Za 46 (.bslice 24 2 1 (.agg [(.int .i64 0),(.sl 0 true [])]) [(0,(.t 45))]) 0,Za 47 (.append 24 2 32 (.t 44) (.t 46)) 1,Za 48 (YT 180 [(.t 47)]) 2,Za 49 (YT 179 [(.t 43),(.t 48)]) 4,Za 50 (.un .not (.t 49)) 6,Za 51 (Zc 50) 6,ZX 52 (.load true [(.sl 1),(.int .i64)] (.t 4)) 6 51,ZX 53 (Zc 3) 6 51,ZX 54 (YT 181 [(.t 53)]) 6 51,ZX 55 (YT 179 [(.t 52),(.t 54)]) 8 51,ZX 56 (.un .not (.t 55)) 10 51,Za 57 (.pick (.t 51) (.c (.bool true)) (.t 56)) 10] (some [[],[],[],[2],[1,3,2],[4,1,3,2],[0,5,4,1,3,2],[6,0,5,4,1,3,2],[7,6,0,5,4,1,3,2],[8,7,6,0,5,4,1,3,2],[8,7,6,0,5,4,1,3,2],[10,8,7,6,0,5,4,1,3,2],[9,11,8,7,6,0,5,4,1,3,2,10],[12,8,9,11,7,6,0,5,4,1,3,2,10],[8,13,7,6,0,5,4,1,3,2,12,9,11,10]])) (.cond (.t 57) (Zh [Za 8 (.mv (Zy 7)) 0] .ret) .skip)) (Zh [Za 8 (.mv (Zy 0)) 0] .ret))))))
def We:List IRes:=[(.tmp 8)]
abbrev a8k:Nat:=58
def WX:ZO:=Xc [(51,.pure (preT (fun x:BoxT×Unit=>ZH x.1)) (Zj (fun x:BoxT×Unit=>Y4 x.1))),(35,.pure (preT (fun x:List Fact×Unit=>Zf x.1)) (Zj (fun x:List Fact×Unit=>YC x.1))),(20,.pure (preT (fun x:Lin×Unit=>YF x.1)) (Zj (fun x:Lin×Unit=>Zw x.1))),(131,.pure (preT (fun x:List Mono×Unit=>Xi x.1)) (Zj (fun x:List Mono×Unit=>ZJ x.1))),(180,.pure (preT (fun x:List Lin×Unit=>VP x.1)) (Zj (fun x:List Lin×Unit=>UK x.1))),(179,.pure (preT (fun x:BoxT×List Str×Unit=>Zr x.1.v&&Zr x.2.1)) (Zj (fun x:BoxT×List Str×Unit=>YQ x.1.v x.2.1))),(181,.pure (preT (fun x:List Mono×Unit=>Xi x.1)) (Zj (fun x:List Mono×Unit=>XV x.1)))]
theorem b0t{G:PV->Prop}(b:BoxT)(fs:List Fact)(l:Lin)(p:List Mono)(h:(Go.Pl.preT (fun(x:BoxT×Unit)=>ZH x.1) [(.agg [(.sl 1 false (List.map enc b.v)),(.int .i64 b.m)])])=true∧(∃ y0:Bool,AV.pv (Zj (fun(x:BoxT×Unit)=>Y4 x.1) [(.agg [(.sl 1 false (List.map enc b.v)),(.int .i64 b.m)])])=AV.pv (enc y0)∧(if (!y0)=true then G ((.int .i64 1))else((Go.Pl.preT (fun(x:List Fact×Unit)=>Zf x.1) [(.sl 3 false (List.map enc fs))])=true∧(∃ y1:Bool,AV.pv (Zj (fun(x:List Fact×Unit)=>YC x.1) [(.sl 3 false (List.map enc fs))])=AV.pv (enc y1)∧(if (!y1)=true then G ((.int .i64 1))else((Go.Pl.preT (fun(x:Lin×Unit)=>YF x.1) [(.agg [(.int .i64 l.k),(.sl 2 false (List.map enc l.t))])])=true∧(∃ y2:Bool,AV.pv (Zj (fun(x:Lin×Unit)=>Zw x.1) [(.agg [(.int .i64 l.k),(.sl 2 false (List.map enc l.t))])])=AV.pv (enc y2)∧(if (!y2)=true then G ((.int .i64 1))else((Go.Pl.preT (fun(x:List Mono×Unit)=>Xi x.1) [(.sl 2 false (List.map enc p))])=true∧(∃ y3:Bool,AV.pv (Zj (fun(x:List Mono×Unit)=>ZJ x.1) [(.sl 2 false (List.map enc p))])=AV.pv (enc y3)∧(if (!y3)=true then G ((.int .i64 1))else(At WX 0 (Zb We G) WJ 0 58 [(1,(.pv (.sl 3 false (List.map enc fs)))),(3,(.pv (.sl 2 false (List.map enc p)))),(4,(.ptr 0 0)),(6,(.ptr 1 0)),(9,(.pv (.sl 0 true []))),(10,(.pv (.int .i64 0)))] [(.obj (.box [(.pv (.sl 1 false (List.map enc b.v))),(.pv (.int .i64 b.m))])),(.obj (.box [(.pv (.int .i64 l.k)),(.pv (.sl 2 false (List.map enc l.t)))]))]))))))))))))):Ze WX 0 (Zb We G) WJ [] (Yk 58 [enc b,enc fs,enc l,enc p]):=Ze.tp (.req (.abs (Bool) (fun YY=>AV.pv (enc YY)) (.ask (.lit (.lit (.lit (.lit (.lit (.lit (.lit (.lit (.lit (.lit (.lit (.lit (.nil))))))))))))) (.lit (.req (.abs (Bool) (fun YY=>AV.pv (enc YY)) (.lit (.lit (.ask (.lit (.lit (.lit (.lit (.lit (.lit (.lit (.lit (.nil))))))))) (.lit (.req (.abs (Bool) (fun YY=>AV.pv (enc YY)) (.lit (.lit (.ask (.lit (.lit (.lit (.lit (.nil))))) (.lit (.req (.abs (Bool) (fun YY=>AV.pv (enc YY)) (.lit (.lit (.ask (.nil) (.nil)))))))))))))))))))))) h (by kernel_rfl)
theorem Su{G:PV->Prop}(b:BoxT)(fs:List Fact)(l:Lin)(p:List Mono)(i:Int)(h:if (decide (i<(↑(List.length (List.map enc fs)):Int)))=true then(decide (0<=i)&&decide (Int.toNat i<List.length (List.map enc fs))&&Enc.sz Fact==3)=true∧(∃ y0:Fact,AV.pv (PV.rptr (PV.cells (List.getD (List.map enc fs) (Int.toNat i) default)))=AV.pv (PV.rptr (PV.cells ((enc) y0)))∧(At WX 0 (Zb We G) WJ 0 58 [(1,(.pv (.sl 3 false (List.map enc fs)))),(3,(.pv (.sl 2 false (List.map enc p)))),(4,(.ptr 0 0)),(6,(.ptr 1 0)),(9,(.row 2 1 0 1)),(10,(.pv (.int .i64 (IntKind.wrap IntKind.i64 (i+1)))))] [(.obj (.box [(.pv (.sl 1 false (List.map enc b.v))),(.pv (.int .i64 b.m))])),(.obj (.box [(.pv (.int .i64 l.k)),(.pv (.sl 2 false (List.map enc l.t)))])),(.obj (.row false 24 2 [(.agg [(.int .i64 (PV.asInt (List.getD (List.drop 1 (PV.cells (enc y0))) 0 default))),(.sl 2 false (PV.asXs (List.getD (List.drop 1 (PV.cells (enc y0))) (0+1) default)))])]))]))else((Go.Pl.preT (fun(x:List Lin×Unit)=>VP x.1) [(.sl 2 false [(.agg [(.int .i64 l.k),(.sl 2 false (List.map enc l.t))])])])=true∧(∃ y1:List Str,AV.pv (Zj (fun(x:List Lin×Unit)=>UK x.1) [(.sl 2 false [(.agg [(.int .i64 l.k),(.sl 2 false (List.map enc l.t))])])])=AV.pv (enc y1)∧((Go.Pl.preT (fun(x:BoxT×List Str×Unit)=>Zr x.1.v&&Zr x.2.1) [(.agg [(.sl 1 false (List.map enc b.v)),(.int .i64 b.m)]),(.sl 1 false (List.map enc y1))])=true∧(∃ y2:Bool,AV.pv (Zj (fun(x:BoxT×List Str×Unit)=>YQ x.1.v x.2.1) [(.agg [(.sl 1 false (List.map enc b.v)),(.int .i64 b.m)]),(.sl 1 false (List.map enc y1))])=AV.pv (enc y2)∧(if (!y2)=true then G ((.int .i64 7))else((Go.Pl.preT (fun(x:List Mono×Unit)=>Xi x.1) [(.sl 2 false (List.map enc p))])=true∧(∃ y3:List Str,AV.pv (Zj (fun(x:List Mono×Unit)=>XV x.1) [(.sl 2 false (List.map enc p))])=AV.pv (enc y3)∧((Go.Pl.preT (fun(x:BoxT×List Str×Unit)=>Zr x.1.v&&Zr x.2.1) [(.agg [(.sl 1 false (List.map enc b.v)),(.int .i64 b.m)]),(.sl 1 false (List.map enc y3))])=true∧(∃ y4:Bool,AV.pv (Zj (fun(x:BoxT×List Str×Unit)=>YQ x.1.v x.2.1) [(.agg [(.sl 1 false (List.map enc b.v)),(.int .i64 b.m)]),(.sl 1 false (List.map enc y3))])=AV.pv (enc y4)∧(if (!y4)=true then G ((.int .i64 7))else(G ((.int .i64 0)))))))))))))):At WX 0 (Zb We G) WJ 0 58 [(1,.pv (enc fs)),(3,.pv (enc p)),(4,.ptr 0 0),(6,.ptr 1 0),(9,.pv (.sl 0 true [])),(10,.pv (.int .i64 i))] [.obj (.box [.pv (enc b.v),.pv (.int .i64 b.m)]),.obj (.box [.pv (.int .i64 l.k),.pv (enc l.t)])]:=At.tp (.lit (.ask (.req (.abs (Fact) (fun YY=>AV.pv (PV.rptr (PV.cells ((enc) YY)))) (.lit (.lit (.lit (.lit (.lit (.lit (.lit (.nil)))))))))) (.lit (.lit (.lit (.lit (.lit (.lit (.req (.abs (List Str) (fun YY=>AV.pv (enc YY)) (.req (.abs (Bool) (fun YY=>AV.pv (enc YY)) (.ask (.lit (.lit (.lit (.lit (.lit (.lit (.nil))))))) (.lit (.lit (.req (.abs (List Str) (fun YY=>AV.pv (enc YY)) (.lit (.req (.abs (Bool) (fun YY=>AV.pv (enc YY)) (.lit (.lit (.ask (.nil) (.nil)))))))))))))))))))))))) h (by kernel_rfl)
theorem AP{G:PV->Prop}(b:BoxT)(fs:List Fact)(l:Lin)(p:List Mono)(i:Int)(q:Nat)(ls:List Lin)(h:if (decide (i<(↑(List.length (List.map enc fs)):Int)))=true then(decide (0<=i)&&decide (Int.toNat i<List.length (List.map enc fs))&&Enc.sz Fact==3)=true∧(∃ y0:Fact,AV.pv (PV.rptr (PV.cells (List.getD (List.map enc fs) (Int.toNat i) default)))=AV.pv (PV.rptr (PV.cells ((enc) y0)))∧((List.length (List.map enc ls)==q&&q==q&&decide ((q+List.length (List.drop 0 (List.take 1 [PV.agg (VT (List.drop 1 (PV.cells (enc y0))) 0 [Sh.int .i64,Sh.sl 2])])))*32<=1099511627776)&&decide (q+List.length (List.drop 0 (List.take 1 [PV.agg (VT (List.drop 1 (PV.cells (enc y0))) 0 [Sh.int .i64,Sh.sl 2])]))<=1099511627776))=true∧(At WX 0 (Zb We G) WJ 0 58 [(1,(.pv (.sl 3 false (List.map enc fs)))),(3,(.pv (.sl 2 false (List.map enc p)))),(4,(.ptr 0 0)),(6,(.ptr 1 0)),(9,(.row 2 (q+List.length (List.drop 0 (List.take 1 [PV.agg (VT (List.drop 1 (PV.cells (enc y0))) 0 [Sh.int .i64,Sh.sl 2])]))) 0 (q+List.length (List.drop 0 (List.take 1 [PV.agg (VT (List.drop 1 (PV.cells (enc y0))) 0 [Sh.int .i64,Sh.sl 2])]))))),(10,(.pv (.int .i64 (IntKind.wrap IntKind.i64 (i+1)))))] [(.obj (.box [(.pv (.sl 1 false (List.map enc b.v))),(.pv (.int .i64 b.m))])),(.obj (.box [(.pv (.int .i64 l.k)),(.pv (.sl 2 false (List.map enc l.t)))])),(.obj (.row false 24 2 (List.map enc ls++List.drop 0 (List.take 1 [PV.agg (VT (List.drop 1 (PV.cells (enc y0))) 0 [Sh.int .i64,Sh.sl 2])]))))])))else((List.length (List.map enc ls)==q&&q==q&&decide ((q+List.length (List.drop 0 (List.take 1 [PV.agg [PV.int .i64 l.k,enc l.t]])))*32<=1099511627776)&&decide (q+List.length (List.drop 0 (List.take 1 [PV.agg [PV.int .i64 l.k,enc l.t]]))<=1099511627776))=true∧((List.length (List.map enc ls++List.drop 0 (List.take 1 [PV.agg [PV.int .i64 l.k,enc l.t]]))==q+List.length (List.drop 0 (List.take 1 [PV.agg [PV.int .i64 l.k,enc l.t]])))=true∧((Go.Pl.preT (fun(x:List Lin×Unit)=>VP x.1) [(.sl 2 false (List.drop 0 (List.take (q+List.length (List.drop 0 (List.take 1 [PV.agg [PV.int .i64 l.k,enc l.t]]))) (List.map enc ls++List.drop 0 (List.take 1 [PV.agg [PV.int .i64 l.k,enc l.t]])))))])=true∧(∃ y1:List Str,AV.pv (Zj (fun(x:List Lin×Unit)=>UK x.1) [(.sl 2 false (List.drop 0 (List.take (q+List.length (List.drop 0 (List.take 1 [PV.agg [PV.int .i64 l.k,enc l.t]]))) (List.map enc ls++List.drop 0 (List.take 1 [PV.agg [PV.int .i64 l.k,enc l.t]])))))])=AV.pv (enc y1)∧((Go.Pl.preT (fun(x:BoxT×List Str×Unit)=>Zr x.1.v&&Zr x.2.1) [(.agg [(.sl 1 false (List.map enc b.v)),(.int .i64 b.m)]),(.sl 1 false (List.map enc y1))])=true∧(∃ y2:Bool,AV.pv (Zj (fun(x:BoxT×List Str×Unit)=>YQ x.1.v x.2.1) [(.agg [(.sl 1 false (List.map enc b.v)),(.int .i64 b.m)]),(.sl 1 false (List.map enc y1))])=AV.pv (enc y2)∧(if (!y2)=true then G ((.int .i64 7))else((Go.Pl.preT (fun(x:List Mono×Unit)=>Xi x.1) [(.sl 2 false (List.map enc p))])=true∧(∃ y3:List Str,AV.pv (Zj (fun(x:List Mono×Unit)=>XV x.1) [(.sl 2 false (List.map enc p))])=AV.pv (enc y3)∧((Go.Pl.preT (fun(x:BoxT×List Str×Unit)=>Zr x.1.v&&Zr x.2.1) [(.agg [(.sl 1 false (List.map enc b.v)),(.int .i64 b.m)]),(.sl 1 false (List.map enc y3))])=true∧(∃ y4:Bool,AV.pv (Zj (fun(x:BoxT×List Str×Unit)=>YQ x.1.v x.2.1) [(.agg [(.sl 1 false (List.map enc b.v)),(.int .i64 b.m)]),(.sl 1 false (List.map enc y3))])=AV.pv (enc y4)∧(if (!y4)=true then G ((.int .i64 7))else(G ((.int .i64 0)))))))))))))))):At WX 0 (Zb We G) WJ 0 58 [(1,.pv (enc fs)),(3,.pv (enc p)),(4,.ptr 0 0),(6,.ptr 1 0),(9,.row 2 q 0 q),(10,.pv (.int .i64 i))] [.obj (.box [.pv (enc b.v),.pv (.int .i64 b.m)]),.obj (.box [.pv (.int .i64 l.k),.pv (enc l.t)]),.obj (.row false 24 2 (ls.map enc))]:=At.tp (.lit (.ask (.req (.abs (Fact) (fun YY=>AV.pv (PV.rptr (PV.cells ((enc) YY)))) (.lit (.lit (.lit (.req (.lit (.nil)))))))) (.lit (.lit (.req (.req (.req (.abs (List Str) (fun YY=>AV.pv (enc YY)) (.req (.abs (Bool) (fun YY=>AV.pv (enc YY)) (.ask (.lit (.lit (.lit (.lit (.lit (.lit (.nil))))))) (.lit (.lit (.req (.abs (List Str) (fun YY=>AV.pv (enc YY)) (.lit (.req (.abs (Bool) (fun YY=>AV.pv (enc YY)) (.lit (.lit (.ask (.nil) (.nil)))))))))))))))))))))) h (by kernel_rfl)
def Yi:IC:=(Zh [Za 2 (.box 2 (.t 0)) 0,Za 4 (.mv (.c (.sl 0 true []))) 1,Za 5 (.mv (Zy 0)) 1] (.seq (Zh [Za 10 (.load true [(.sl 1),(.int .i64)] (.t 2)) 0,Za 11 (Zc 1) 0,Za 12 (.build [(.int .i64 0),(.sl 0 true [])] []) 0,Za 13 (YT 118 [(.t 10),(.t 11),(.t 12),(.c (.sl 0 true []))]) 0,Za 6 (Zc 13) 2] (Zh [Za 14 (Zc 6) 0,Za 15 (ZA .neq (.t 14) (Zy 0)) 0] (.cond (.t 15) (Zh [Za 16 (Zc 6) 0,Za 4 (.mv (.c (.sl 0 true []))) 0,Za 5 (Zc 16) 0] .ret) .skip))) (Zh [Za 7 (.mv (.c (.sl 0 true []))) 0] (Zh [Za 17 (.faddr 0 (.t 2)) 0,Za 18 (Yl [(.sl 1)] (.t 17)) 0,Za 19 (.len 1 (.t 18)) 0,Za 20 (.mksl 3 1 8 (.int .i64 0) (.t 19) (.t 19)) 0,Za 8 (Zc 20) 1] (.block 0 (.loop [1,2,8,7] (.block 1 (.seq (Zh [Za 21 (Zc 1) 0,Za 22 (.load true [(.sl 1),(.int .i64)] (.t 2)) 0,Za 23 (Zc 8) 0,Za 24 (YT 49 [(.t 22),(.t 23)]) 0,Za 25 (YT 53 [(.t 21),(.t 24)]) 2] (.cond (.t 25) (.reg [Za 26 (Zc 7) 0,Za 27 (.bslice 3 1 0 (.int .i64 0) []) 0,Za 28 (Zc 8) 1,Za 29 (.append 3 1 8 (.t 27) (.t 28)) 1,Za 30 (.bslice 34 1 1 (.sl 0 true []) [(0,(.t 29))]) 2,Za 31 (.append 34 1 24 (.t 26) (.t 30)) 3,Za 7 (Zc 31) 4] none) .skip)) (Zh [Za 32 (Zc 8) 0,Za 33 (.len 1 (.t 32)) 0,Za 34 (ZA .sub (.t 33) (Zy 1)) 0,Za 9 (Zc 34) 0] (.seq (.block 2 (.loop [9,8,2,7,1] (.seq (.seq (.reg [Za 35 (Zc 9) 0,Za 36 (ZA .geq (.t 35) (Zy 0)) 0,Za 37 (Zc 36) 0,Z6 38 (Zc 8) 0 37,Z6 39 (Zc 9) 0 37,Z6 40 (.iaddr 1 (.t 38) (.t 39)) 0 37,Z6 41 (Yl [(.int .i64)] (.t 40)) 0 37,Z6 42 (.faddr 1 (.t 2)) 0 37,Z6 43 (Yl [(.int .i64)] (.t 42)) 0 37,Z6 44 (ZA .eql (.t 41) (.t 43)) 0 37,Za 45 (.pick (.t 37) (.t 44) (.c (.bool false))) 0] (some [[],[0],[1,0],[2,1,0],[2,1,0],[3,4,2,1,0],[5,2,3,4,1,0],[2,1,0],[7,2,1,0],[6,8,2,5,3,4,1,0,7],[2,9,1,0,6,8,5,3,4,7]])) (.cond (.t 45) .skip (.exit 2))) (.block 3 (Zh [Za 46 (Zc 8) 0,Za 47 (Zc 9) 0,Za 48 (.iaddr 1 (.t 46) (.t 47)) 0,Ui (.store 1 (.t 48) (Zy 0)) 0] (.reg [Za 49 (Zc 9) 0,Za 50 (ZA .sub (.t 49) (Zy 1)) 0,Za 9 (Zc 50) 0] none)))))) (.seq (Zh [Za 51 (Zc 9) 0,Za 52 (ZA .lss (.t 51) (Zy 0)) 0] (.cond (.t 52) (Zh [Za 53 (Zc 7) 0,Za 4 (Zc 53) 0,Za 5 (.mv (Zy 0)) 0] .ret) .skip)) (.reg [Za 54 (Zc 8) 0,Za 55 (Zc 9) 0,Za 56 (.iaddr 1 (.t 54) (.t 55)) 0,Za 57 (Yl [(.int .i64)] (.t 56)) 0,Za 58 (ZA .add (.t 57) (Zy 1)) 0,Za 59 (.iaddr 1 (.t 54) (.t 55)) 0,Ui (.store 1 (.t 59) (.t 58)) 0] none))))))))))))
def Yj:List IRes:=[(.tmp 4),(.tmp 5)]
abbrev c3b:Nat:=60
def YO:ZO:=Xc [(118,.pure (preT (fun x:BoxT×List Fact×Lin×List Mono×Unit=>ZH x.1&&Zf x.2.1&&decide (x.2.1.length<=100)&&YF x.2.2.1&&Xi x.2.2.2.1)) (Zj (fun x:BoxT×List Fact×Lin×List Mono×Unit=>Zv x.1 x.2.1 (Zw x.2.2.1&&ZJ x.2.2.2.1) (Zg x.2.2.1++XV x.2.2.2.1)))),(49,.own Wo Ur),(53,.pure (preT (fun x:List Fact×List Coef×Unit=>Zf x.1&&decide (x.2.1.length<=9223372036854775807))) (Zj (fun x:List Fact×List Coef×Unit=>x.1.all fun f=>Yh f x.2.1)))]
theorem c8j{G:PV->Prop}(b:BoxT)(fs:List Fact)(h:(Go.Pl.preT (fun(x:BoxT×List Fact×Lin×List Mono×Unit)=>ZH x.1&&Zf x.2.1&&decide (List.length x.2.1<=100)&&YF x.2.2.1&&Xi x.2.2.2.1) [(.agg [(.sl 1 false (List.map enc b.v)),(.int .i64 b.m)]),(.sl 3 false (List.map enc fs)),(.agg [(.int .i64 0),(.sl 0 true [])]),(.sl 0 true [])])=true∧(∃ y0:Int,AV.pv (Zj (fun(x:BoxT×List Fact×Lin×List Mono×Unit)=>Zv x.1 x.2.1 (Zw x.2.2.1&&ZJ x.2.2.2.1) (Zg x.2.2.1++XV x.2.2.2.1)) [(.agg [(.sl 1 false (List.map enc b.v)),(.int .i64 b.m)]),(.sl 3 false (List.map enc fs)),(.agg [(.int .i64 0),(.sl 0 true [])]),(.sl 0 true [])])=AV.pv (enc y0)∧(if (y0 != 0)=true then G ((.tup [(.sl 0 true []),(.int .i64 y0)]))else((decide (0<=(↑(List.length (List.map enc b.v)):Int))&&(↑(List.length (List.map enc b.v)):Int)==(↑(List.length (List.map enc b.v)):Int)&&decide ((↑(List.length (List.map enc b.v)):Int)*(↑8:Int)<=1099511627776)&&decide ((↑(List.length (List.map enc b.v)):Int)<=1099511627776))=true∧(At YO 0 (Zb Yj G) Yi 0 60 [(1,(.pv (.sl 3 false (List.map enc fs)))),(2,(.ptr 0 0)),(7,(.pv (.sl 0 true []))),(8,(.row 1 (Int.toNat (↑(List.length (List.map enc b.v)):Int)) 0 (Int.toNat (↑(List.length (List.map enc b.v)):Int))))] [(.obj (.box [(.pv (.sl 1 false (List.map enc b.v))),(.pv (.int .i64 b.m))])),(.obj (.row false 3 1 (List.replicate (Int.toNat (↑(List.length (List.map enc b.v)):Int)) (PV.int .i64 0))))]))))):Ze YO 0 (Zb Yj G) Yi [] (Yk 60 [enc b,enc fs]):=Ze.tp (.req (.abs (Int) (fun YY=>AV.pv (enc YY)) (.lit (.ask (.nil) (.req (.nil)))))) h (by kernel_rfl)
theorem FT{G:PV->Prop}(b:BoxT)(fs:List Fact)(n:Nat)(p:List Int)(h:(Wo [(.pv (.agg [(.sl 1 false (List.map enc b.v)),(.int .i64 b.m)])),(.row 0 n 0 n)] [(.row false 3 1 (List.map enc p))])=true∧((Go.Pl.preT (fun(x:List Fact×List Coef×Unit)=>Zf x.1&&decide (List.length x.2.1<=9223372036854775807)) [(.sl 3 false (List.map enc fs)),(.sl 2 false (List.map enc (Zq (dec (enc b.v)) (Sa (List.map enc p)))))])=true∧(∃ y0:Bool,AV.pv (Zj (fun(x:List Fact×List Coef×Unit)=>List.all x.1 fun(f:Fact)=>Yh f x.2.1) [(.sl 3 false (List.map enc fs)),(.sl 2 false (List.map enc (Zq (dec (enc b.v)) (Sa (List.map enc p)))))])=AV.pv (enc y0)∧(if (y0)=true then(List.length (List.map enc p)==n)=true∧((List.length ([]:List PV)==0&&0==0&&decide ((0+List.length (List.drop 0 (List.take n (List.map enc p))))*8<=1099511627776)&&decide (0+List.length (List.drop 0 (List.take n (List.map enc p)))<=1099511627776))=true∧((List.length (([]:List PV)++List.drop 0 (List.take n (List.map enc p)))==0+List.length (List.drop 0 (List.take n (List.map enc p))))=true∧(At YO 0 (Zb Yj G) Yi 1 60 [(1,(.pv (.sl 3 false (List.map enc fs)))),(2,(.ptr 0 0)),(7,(.row 1 1 0 1)),(8,(.row 2 n 0 n)),(9,(.pv (.int .i64 (IntKind.wrap IntKind.i64 ((↑(n - 0):Int) - 1)))))] [(.obj (.box [(.pv (.sl 1 false (List.map enc b.v))),(.pv (.int .i64 b.m))])),(.obj (.row false 34 1 [(.sl 1 false (List.drop 0 (List.take (0+List.length (List.drop 0 (List.take n (List.map enc p)))) (([]:List PV)++List.drop 0 (List.take n (List.map enc p))))))])),(.obj (.row false 3 1 (List.map enc p)))])))else(At YO 0 (Zb Yj G) Yi 1 60 [(1,(.pv (.sl 3 false (List.map enc fs)))),(2,(.ptr 0 0)),(7,(.pv (.sl 0 true []))),(8,(.row 1 n 0 n)),(9,(.pv (.int .i64 (IntKind.wrap IntKind.i64 ((↑(n - 0):Int) - 1)))))] [(.obj (.box [(.pv (.sl 1 false (List.map enc b.v))),(.pv (.int .i64 b.m))])),(.obj (.row false 3 1 (List.map enc p)))]))))):At YO 0 (Zb Yj G) Yi 0 60 [(1,.pv (enc fs)),(2,.ptr 0 0),(8,.row 1 n 0 n),(7,.pv (.sl 0 true []))] [.obj (.box [.pv (enc b.v),.pv (.int .i64 b.m)]),.obj (.row false 3 1 (p.map enc))]:=At.tp (.req (.keep (.req (.abs (Bool) (fun YY=>AV.pv (enc YY)) (.ask (.lit (.req (.req (.req (.lit (.lit (.lit (.lit (.lit (.lit (.nil))))))))))) (.lit (.nil))))))) h (by kernel_rfl)
theorem F7{G:PV->Prop}(b:BoxT)(fs:List Fact)(n:Nat)(p:List Int)(q:Nat)(xs:List (List Int))(h:(Wo [(.pv (.agg [(.sl 1 false (List.map enc b.v)),(.int .i64 b.m)])),(.row 0 n 0 n)] [(.row false 3 1 (List.map enc p))])=true∧((Go.Pl.preT (fun(x:List Fact×List Coef×Unit)=>Zf x.1&&decide (List.length x.2.1<=9223372036854775807)) [(.sl 3 false (List.map enc fs)),(.sl 2 false (List.map enc (Zq (dec (enc b.v)) (Sa (List.map enc p)))))])=true∧(∃ y0:Bool,AV.pv (Zj (fun(x:List Fact×List Coef×Unit)=>List.all x.1 fun(f:Fact)=>Yh f x.2.1) [(.sl 3 false (List.map enc fs)),(.sl 2 false (List.map enc (Zq (dec (enc b.v)) (Sa (List.map enc p)))))])=AV.pv (enc y0)∧(if (y0)=true then(List.length (List.map enc p)==n)=true∧((List.length ([]:List PV)==0&&0==0&&decide ((0+List.length (List.drop 0 (List.take n (List.map enc p))))*8<=1099511627776)&&decide (0+List.length (List.drop 0 (List.take n (List.map enc p)))<=1099511627776))=true∧((List.length (([]:List PV)++List.drop 0 (List.take n (List.map enc p)))==0+List.length (List.drop 0 (List.take n (List.map enc p))))=true∧((List.length (List.map enc xs)==q&&q==q&&decide ((q+List.length (List.drop 0 (List.take 1 [PV.sl 1 false (List.drop 0 (List.take (0+List.length (List.drop 0 (List.take n (List.map enc p)))) (([]:List PV)++List.drop 0 (List.take n (List.map enc p)))))])))*24<=1099511627776)&&decide (q+List.length (List.drop 0 (List.take 1 [PV.sl 1 false (List.drop 0 (List.take (0+List.length (List.drop 0 (List.take n (List.map enc p)))) (([]:List PV)++List.drop 0 (List.take n (List.map enc p)))))]))<=1099511627776))=true∧(At YO 0 (Zb Yj G) Yi 1 60 [(1,(.pv (.sl 3 false (List.map enc fs)))),(2,(.ptr 0 0)),(7,(.row 1 (q+List.length (List.drop 0 (List.take 1 [PV.sl 1 false (List.drop 0 (List.take (0+List.length (List.drop 0 (List.take n (List.map enc p)))) (([]:List PV)++List.drop 0 (List.take n (List.map enc p)))))]))) 0 (q+List.length (List.drop 0 (List.take 1 [PV.sl 1 false (List.drop 0 (List.take (0+List.length (List.drop 0 (List.take n (List.map enc p)))) (([]:List PV)++List.drop 0 (List.take n (List.map enc p)))))]))))),(8,(.row 2 n 0 n)),(9,(.pv (.int .i64 (IntKind.wrap IntKind.i64 ((↑(n - 0):Int) - 1)))))] [(.obj (.box [(.pv (.sl 1 false (List.map enc b.v))),(.pv (.int .i64 b.m))])),(.obj (.row false 34 1 (List.map enc xs++List.drop 0 (List.take 1 [PV.sl 1 false (List.drop 0 (List.take (0+List.length (List.drop 0 (List.take n (List.map enc p)))) (([]:List PV)++List.drop 0 (List.take n (List.map enc p)))))])))),(.obj (.row false 3 1 (List.map enc p)))]))))else(At YO 0 (Zb Yj G) Yi 1 60 [(1,(.pv (.sl 3 false (List.map enc fs)))),(2,(.ptr 0 0)),(7,(.row 1 q 0 q)),(8,(.row 2 n 0 n)),(9,(.pv (.int .i64 (IntKind.wrap IntKind.i64 ((↑(n - 0):Int) - 1)))))] [(.obj (.box [(.pv (.sl 1 false (List.map enc b.v))),(.pv (.int .i64 b.m))])),(.obj (.row false 34 1 (List.map enc xs))),(.obj (.row false 3 1 (List.map enc p)))]))))):At YO 0 (Zb Yj G) Yi 0 60 [(1,.pv (enc fs)),(2,.ptr 0 0),(7,.row 1 q 0 q),(8,.row 2 n 0 n)] [.obj (.box [.pv (enc b.v),.pv (.int .i64 b.m)]),.obj (.row false 34 1 (xs.map enc)),.obj (.row false 3 1 (p.map enc))]:=At.tp (.req (.keep (.req (.abs (Bool) (fun YY=>AV.pv (enc YY)) (.ask (.lit (.req (.req (.req (.lit (.lit (.req (.lit (.nil))))))))) (.lit (.nil))))))) h (by kernel_rfl)
theorem FD{G:PV->Prop}(b:BoxT)(fs:List Fact)(n:Nat)(p:List Int)(k:Int)(h:if (decide (k ≥ 0))=true then(decide (0<=k)&&decide (0+Int.toNat k<n)&&List.length (List.map enc p)==n)=true∧((List.length (List.map enc p)==n&&decide (0+Int.toNat k<List.length (List.map enc p)))=true∧((decide (0+List.length [Sh.int .i64]<=List.length (PV.cells (List.getD (List.map enc p) (0+Int.toNat k) default)))&&Yx (PV.cells (List.getD (List.map enc p) (0+Int.toNat k) default)) 0 [Sh.int .i64])=true∧(if (PV.asInt (List.getD (PV.cells (List.getD (List.map enc p) (0+Int.toNat k) default)) 0 default)==BoxT.m b)=true then(decide (0<=k)&&decide (0+Int.toNat k<n)&&List.length (List.map enc p)==n)=true∧((List.length (List.map enc p)==n&&decide (0+Int.toNat k<List.length (List.map enc p))&&List.length (PV.cells (PV.int .i64 0))==1&&decide (0+1<=List.length (PV.cells (List.getD (List.map enc p) (0+Int.toNat k) default)))&&PV.cellsOk (PV.int .i64 0))=true∧(At YO 0 (Zb Yj G) Yi 1 60 [(1,(.pv (.sl 3 false (List.map enc fs)))),(2,(.ptr 0 0)),(7,(.pv (.sl 0 true []))),(8,(.row 1 n 0 n)),(9,(.pv (.int .i64 (IntKind.wrap IntKind.i64 (k - 1)))))] [(.obj (.box [(.pv (.sl 1 false (List.map enc b.v))),(.pv (.int .i64 b.m))])),(.obj (.row false 3 1 (List.set (List.map enc p) (0+Int.toNat k) (PV.withCells (List.getD (List.map enc p) (0+Int.toNat k) default) (splice (PV.cells (List.getD (List.map enc p) (0+Int.toNat k) default)) 0 (PV.cells (PV.int .i64 0)))))))]))else(if (decide (k<0))=true then G ((.tup [(.sl 0 true []),(.int .i64 0)]))else((decide (0<=k)&&decide (0+Int.toNat k<n)&&List.length (List.map enc p)==n)=true∧((List.length (List.map enc p)==n&&decide (0+Int.toNat k<List.length (List.map enc p)))=true∧((decide (0+List.length [Sh.int .i64]<=List.length (PV.cells (List.getD (List.map enc p) (0+Int.toNat k) default)))&&Yx (PV.cells (List.getD (List.map enc p) (0+Int.toNat k) default)) 0 [Sh.int .i64])=true∧((decide (0<=k)&&decide (0+Int.toNat k<n)&&List.length (List.map enc p)==n)=true∧((List.length (List.map enc p)==n&&decide (0+Int.toNat k<List.length (List.map enc p))&&List.length (PV.cells (PV.int .i64 (IntKind.wrap IntKind.i64 (PV.asInt (List.getD (PV.cells (List.getD (List.map enc p) (0+Int.toNat k) default)) 0 default)+1))))==1&&decide (0+1<=List.length (PV.cells (List.getD (List.map enc p) (0+Int.toNat k) default)))&&PV.cellsOk (PV.int .i64 (IntKind.wrap IntKind.i64 (PV.asInt (List.getD (PV.cells (List.getD (List.map enc p) (0+Int.toNat k) default)) 0 default)+1))))=true∧(At YO 0 (Zb Yj G) Yi 0 60 [(1,(.pv (.sl 3 false (List.map enc fs)))),(2,(.ptr 0 0)),(7,(.pv (.sl 0 true []))),(8,(.row 1 n 0 n))] [(.obj (.box [(.pv (.sl 1 false (List.map enc b.v))),(.pv (.int .i64 b.m))])),(.obj (.row false 3 1 (List.set (List.map enc p) (0+Int.toNat k) (PV.withCells (List.getD (List.map enc p) (0+Int.toNat k) default) (splice (PV.cells (List.getD (List.map enc p) (0+Int.toNat k) default)) 0 (PV.cells (PV.int .i64 (IntKind.wrap IntKind.i64 (PV.asInt (List.getD (PV.cells (List.getD (List.map enc p) (0+Int.toNat k) default)) 0 default)+1)))))))))]))))))))))else(if (decide (k<0))=true then G ((.tup [(.sl 0 true []),(.int .i64 0)]))else((decide (0<=k)&&decide (0+Int.toNat k<n)&&List.length (List.map enc p)==n)=true∧((List.length (List.map enc p)==n&&decide (0+Int.toNat k<List.length (List.map enc p)))=true∧((decide (0+List.length [Sh.int .i64]<=List.length (PV.cells (List.getD (List.map enc p) (0+Int.toNat k) default)))&&Yx (PV.cells (List.getD (List.map enc p) (0+Int.toNat k) default)) 0 [Sh.int .i64])=true∧((decide (0<=k)&&decide (0+Int.toNat k<n)&&List.length (List.map enc p)==n)=true∧((List.length (List.map enc p)==n&&decide (0+Int.toNat k<List.length (List.map enc p))&&List.length (PV.cells (PV.int .i64 (IntKind.wrap IntKind.i64 (PV.asInt (List.getD (PV.cells (List.getD (List.map enc p) (0+Int.toNat k) default)) 0 default)+1))))==1&&decide (0+1<=List.length (PV.cells (List.getD (List.map enc p) (0+Int.toNat k) default)))&&PV.cellsOk (PV.int .i64 (IntKind.wrap IntKind.i64 (PV.asInt (List.getD (PV.cells (List.getD (List.map enc p) (0+Int.toNat k) default)) 0 default)+1))))=true∧(At YO 0 (Zb Yj G) Yi 0 60 [(1,(.pv (.sl 3 false (List.map enc fs)))),(2,(.ptr 0 0)),(7,(.pv (.sl 0 true []))),(8,(.row 1 n 0 n))] [(.obj (.box [(.pv (.sl 1 false (List.map enc b.v))),(.pv (.int .i64 b.m))])),(.obj (.row false 3 1 (List.set (List.map enc p) (0+Int.toNat k) (PV.withCells (List.getD (List.map enc p) (0+Int.toNat k) default) (splice (PV.cells (List.getD (List.map enc p) (0+Int.toNat k) default)) 0 (PV.cells (PV.int .i64 (IntKind.wrap IntKind.i64 (PV.asInt (List.getD (PV.cells (List.getD (List.map enc p) (0+Int.toNat k) default)) 0 default)+1)))))))))])))))))):At YO 0 (Zb Yj G) Yi 1 60 [(1,.pv (enc fs)),(2,.ptr 0 0),(8,.row 1 n 0 n),(7,.pv (.sl 0 true [])),(9,.pv (.int .i64 k))] [.obj (.box [.pv (enc b.v),.pv (.int .i64 b.m)]),.obj (.row false 3 1 (p.map enc))]:=At.tp (.lit (.ask (.lit (.lit (.req (.keep (.lit (.req (.req (.lit (.lit (.lit (.lit (.lit (.ask (.req (.keep (.req (.lit (.nil))))) (.lit (.ask (.nil) (.req (.keep (.req (.req (.lit (.req (.keep (.req (.nil)))))))))))))))))))))))) (.lit (.lit (.lit (.lit (.lit (.lit (.lit (.lit (.lit (.ask (.nil) (.req (.keep (.req (.req (.lit (.req (.keep (.req (.nil))))))))))))))))))))) h (by kernel_rfl)
theorem MV{G:PV->Prop}(b:BoxT)(fs:List Fact)(n:Nat)(p:List Int)(k:Int)(q:Nat)(xs:List (List Int))(h:if (decide (k ≥ 0))=true then(decide (0<=k)&&decide (0+Int.toNat k<n)&&List.length (List.map enc p)==n)=true∧((List.length (List.map enc p)==n&&decide (0+Int.toNat k<List.length (List.map enc p)))=true∧((decide (0+List.length [Sh.int .i64]<=List.length (PV.cells (List.getD (List.map enc p) (0+Int.toNat k) default)))&&Yx (PV.cells (List.getD (List.map enc p) (0+Int.toNat k) default)) 0 [Sh.int .i64])=true∧(if (PV.asInt (List.getD (PV.cells (List.getD (List.map enc p) (0+Int.toNat k) default)) 0 default)==BoxT.m b)=true then(decide (0<=k)&&decide (0+Int.toNat k<n)&&List.length (List.map enc p)==n)=true∧((List.length (List.map enc p)==n&&decide (0+Int.toNat k<List.length (List.map enc p))&&List.length (PV.cells (PV.int .i64 0))==1&&decide (0+1<=List.length (PV.cells (List.getD (List.map enc p) (0+Int.toNat k) default)))&&PV.cellsOk (PV.int .i64 0))=true∧(At YO 0 (Zb Yj G) Yi 1 60 [(1,(.pv (.sl 3 false (List.map enc fs)))),(2,(.ptr 0 0)),(7,(.row 1 q 0 q)),(8,(.row 2 n 0 n)),(9,(.pv (.int .i64 (IntKind.wrap IntKind.i64 (k - 1)))))] [(.obj (.box [(.pv (.sl 1 false (List.map enc b.v))),(.pv (.int .i64 b.m))])),(.obj (.row false 34 1 (List.map enc xs))),(.obj (.row false 3 1 (List.set (List.map enc p) (0+Int.toNat k) (PV.withCells (List.getD (List.map enc p) (0+Int.toNat k) default) (splice (PV.cells (List.getD (List.map enc p) (0+Int.toNat k) default)) 0 (PV.cells (PV.int .i64 0)))))))]))else(if (decide (k<0))=true then(List.length (List.map enc xs)==q)=true∧(G ((.tup [(.sl 1 false (List.drop 0 (List.take q (List.map enc xs)))),(.int .i64 0)])))else((decide (0<=k)&&decide (0+Int.toNat k<n)&&List.length (List.map enc p)==n)=true∧((List.length (List.map enc p)==n&&decide (0+Int.toNat k<List.length (List.map enc p)))=true∧((decide (0+List.length [Sh.int .i64]<=List.length (PV.cells (List.getD (List.map enc p) (0+Int.toNat k) default)))&&Yx (PV.cells (List.getD (List.map enc p) (0+Int.toNat k) default)) 0 [Sh.int .i64])=true∧((decide (0<=k)&&decide (0+Int.toNat k<n)&&List.length (List.map enc p)==n)=true∧((List.length (List.map enc p)==n&&decide (0+Int.toNat k<List.length (List.map enc p))&&List.length (PV.cells (PV.int .i64 (IntKind.wrap IntKind.i64 (PV.asInt (List.getD (PV.cells (List.getD (List.map enc p) (0+Int.toNat k) default)) 0 default)+1))))==1&&decide (0+1<=List.length (PV.cells (List.getD (List.map enc p) (0+Int.toNat k) default)))&&PV.cellsOk (PV.int .i64 (IntKind.wrap IntKind.i64 (PV.asInt (List.getD (PV.cells (List.getD (List.map enc p) (0+Int.toNat k) default)) 0 default)+1))))=true∧(At YO 0 (Zb Yj G) Yi 0 60 [(1,(.pv (.sl 3 false (List.map enc fs)))),(2,(.ptr 0 0)),(7,(.row 1 q 0 q)),(8,(.row 2 n 0 n))] [(.obj (.box [(.pv (.sl 1 false (List.map enc b.v))),(.pv (.int .i64 b.m))])),(.obj (.row false 34 1 (List.map enc xs))),(.obj (.row false 3 1 (List.set (List.map enc p) (0+Int.toNat k) (PV.withCells (List.getD (List.map enc p) (0+Int.toNat k) default) (splice (PV.cells (List.getD (List.map enc p) (0+Int.toNat k) default)) 0 (PV.cells (PV.int .i64 (IntKind.wrap IntKind.i64 (PV.asInt (List.getD (PV.cells (List.getD (List.map enc p) (0+Int.toNat k) default)) 0 default)+1)))))))))]))))))))))else(if (decide (k<0))=true then(List.length (List.map enc xs)==q)=true∧(G ((.tup [(.sl 1 false (List.drop 0 (List.take q (List.map enc xs)))),(.int .i64 0)])))else((decide (0<=k)&&decide (0+Int.toNat k<n)&&List.length (List.map enc p)==n)=true∧((List.length (List.map enc p)==n&&decide (0+Int.toNat k<List.length (List.map enc p)))=true∧((decide (0+List.length [Sh.int .i64]<=List.length (PV.cells (List.getD (List.map enc p) (0+Int.toNat k) default)))&&Yx (PV.cells (List.getD (List.map enc p) (0+Int.toNat k) default)) 0 [Sh.int .i64])=true∧((decide (0<=k)&&decide (0+Int.toNat k<n)&&List.length (List.map enc p)==n)=true∧((List.length (List.map enc p)==n&&decide (0+Int.toNat k<List.length (List.map enc p))&&List.length (PV.cells (PV.int .i64 (IntKind.wrap IntKind.i64 (PV.asInt (List.getD (PV.cells (List.getD (List.map enc p) (0+Int.toNat k) default)) 0 default)+1))))==1&&decide (0+1<=List.length (PV.cells (List.getD (List.map enc p) (0+Int.toNat k) default)))&&PV.cellsOk (PV.int .i64 (IntKind.wrap IntKind.i64 (PV.asInt (List.getD (PV.cells (List.getD (List.map enc p) (0+Int.toNat k) default)) 0 default)+1))))=true∧(At YO 0 (Zb Yj G) Yi 0 60 [(1,(.pv (.sl 3 false (List.map enc fs)))),(2,(.ptr 0 0)),(7,(.row 1 q 0 q)),(8,(.row 2 n 0 n))] [(.obj (.box [(.pv (.sl 1 false (List.map enc b.v))),(.pv (.int .i64 b.m))])),(.obj (.row false 34 1 (List.map enc xs))),(.obj (.row false 3 1 (List.set (List.map enc p) (0+Int.toNat k) (PV.withCells (List.getD (List.map enc p) (0+Int.toNat k) default) (splice (PV.cells (List.getD (List.map enc p) (0+Int.toNat k) default)) 0 (PV.cells (PV.int .i64 (IntKind.wrap IntKind.i64 (PV.asInt (List.getD (PV.cells (List.getD (List.map enc p) (0+Int.toNat k) default)) 0 default)+1)))))))))])))))))):At YO 0 (Zb Yj G) Yi 1 60 [(1,.pv (enc fs)),(2,.ptr 0 0),(7,.row 1 q 0 q),(8,.row 2 n 0 n),(9,.pv (.int .i64 k))] [.obj (.box [.pv (enc b.v),.pv (.int .i64 b.m)]),.obj (.row false 34 1 (xs.map enc)),.obj (.row false 3 1 (p.map enc))]:=At.tp (.lit (.ask (.lit (.lit (.req (.keep (.lit (.req (.req (.lit (.lit (.lit (.lit (.lit (.ask (.req (.keep (.req (.lit (.nil))))) (.lit (.ask (.req (.nil)) (.req (.keep (.req (.req (.lit (.req (.keep (.req (.nil)))))))))))))))))))))))) (.lit (.lit (.lit (.lit (.lit (.lit (.lit (.lit (.lit (.ask (.req (.nil)) (.req (.keep (.req (.req (.lit (.req (.keep (.req (.nil))))))))))))))))))))) h (by kernel_rfl)
end Go.Pl
namespace Go.Pl
open Go.RowKit
open Enc (enc dec is)
open EncL (encL decL isL)
theorem Dm{ts:List Coef}(hn:nzP ts)(x:Str):x∈ts.map (·.v) ↔ Xw ts x.s≠0:=by
 induction ts with
 | nil=>simp[Xw]
 | cons t ts ih=>
  have h1:t.c≠0:=hn t (by simp)
  have h2:nzP ts:=fun u hu=>hn u (by simp[hu])
  rw[YM,List.map_cons,List.mem_cons]
  by_cases e:t.v.s=x.s
  ·rw[if_pos e]
   have:x=t.v:=by cases x;cases h:t.v;rw[h]at e;exact congrArg Str.mk e.symm
   exact⟨fun _=>h1,fun _=>.inl this⟩
  ·rw[if_neg e,<- ih h2]
   exact⟨fun h=>h.resolve_left fun e2=>e (by rw[e2]),.inr⟩
theorem c2u{l:Lin}(s:Str)(ha:JQ l.t)(hn:nzP l.t):JQ (KG l s).t∧nzP (KG l s).t∧ ∀ x,x∈Zg (KG l s) ↔ x=s∨x∈Zg l:=by
 unfold KG
 by_cases h:Xw l.t s.s=0
 ·rw[if_pos h]
  refine⟨b6h s 1 ha,a2b l s 1,fun x=> ?_⟩
  unfold Zg
  rw[Dm (a2b l s 1),Dm hn,a9p s (c:=1) (by decide) ha]
  by_cases e:s.s=x.s
  ·rw[if_pos e,h]
   have:x=s:=by cases x;cases s;exact congrArg Str.mk e.symm
   exact⟨fun _=>.inl this,fun _=>by decide⟩
  ·rw[if_neg e]
   exact⟨.inr,fun h=>h.resolve_left fun e2=>e (by rw[e2])⟩
 ·rw[if_neg h]
  refine⟨ha,hn,fun x=>⟨.inr,fun hx=> ?_⟩⟩
  rcases hx with rfl|hx
  ·unfold Zg;rw[Dm hn];exact h
  ·exact hx
theorem Oq: ∀ (ss:List Str) {l:Lin},JQ l.t->nzP l.t->JQ (ss.foldl KG l).t∧nzP (ss.foldl KG l).t∧ ∀ x,x∈Zg (ss.foldl KG l) ↔ x∈ss∨x∈Zg l
 | [],l,ha,hn=>⟨ha,hn,fun x=>by simp⟩
 | s::ss,l,ha,hn=>by
  obtain⟨h1,h2,h3⟩:=c2u s ha hn
  obtain⟨k1,k2,k3⟩:=Oq ss h1 h2
  refine⟨k1,k2,fun x=> ?_⟩
  rw[List.foldl_cons,k3,h3,List.mem_cons]
  constructor
  ·rintro(h|h|h)
   ·exact .inl (.inr h)
   ·exact .inl (.inl h)
   ·exact .inr h
  ·rintro((h|h)|h)
   ·exact .inr (.inl h)
   ·exact .inl h
   ·exact .inr (.inr h)
theorem R5: ∀ (ls:List Lin) {l:Lin},JQ l.t->nzP l.t-> ∀ x,x∈Zg (ls.foldl JX l) ↔ x∈ls.flatMap Zg∨x∈Zg l
 | [],l,ha,hn,x=>by simp
 | a::ls,l,ha,hn,x=>by
  obtain⟨h1,h2,h3⟩:=Oq (Zg a) ha hn
  rw[List.foldl_cons,R5 ls (l:=JX l a) h1 h2,List.flatMap_cons,List.mem_append]
  show _∨x∈Zg (List.foldl KG l (Zg a)) ↔ _
  rw[h3]
  constructor
  ·rintro(h|h|h)
   ·exact .inl (.inr h)
   ·exact .inl (.inl h)
   ·exact .inr h
  ·rintro((h|h)|h)
   ·exact .inr (.inl h)
   ·exact .inl h
   ·exact .inr (.inr h)
theorem a4z(ls:List Lin)(x:Str):x∈UK ls ↔ x∈ls.flatMap Zg:=by
 have:=R5 ls (l:=⟨0,[]⟩) (List.Pairwise.nil) (fun t ht=>by cases ht) x
 exact this.trans ⟨fun h=>h.resolve_right (fun h=>by cases h),Or.inl⟩
theorem a6j{v a b:List Str}(h : ∀ x,x∈a ↔ x∈b):YQ v a=YQ v b:=by
 rw[Bool.eq_iff_iff]
 unfold YQ
 rw[List.all_eq_true,List.all_eq_true]
 exact⟨fun k x hx=>k x ((h x).2 hx),fun k x hx=>k x ((h x).1 hx)⟩
theorem JC(v a b:List Str):YQ v (a++b)=(YQ v a&&YQ v b):=by unfold YQ;rw[List.all_append]
def Dj(b:BoxT)(fs:List Fact)(l:Lin)(p:List Mono):Int:=Zv b fs (Zw l&&ZJ p) (Zg l++XV p)
theorem c8t{b:BoxT}{fs:List Fact}{l:Lin}{p:List Mono}(h1:Y4 b=true)(h2:YC fs=true)(h3:Zw l=true)(h4:ZJ p=true):
  Dj b fs l p=if !(YQ b.v (UK (fs.map (·.l)++[l])))then 7 else if !(YQ b.v (XV p))then 7 else 0:=by
 unfold Dj Zv
 have e:YQ b.v (UK (fs.map (·.l)++[l]))=(YQ b.v (Zg l)&&YQ b.v (fs.flatMap fun f=>Zg f.l)):=by
  rw[<- JC]
  refine a6j fun x=> ?_
  rw[a4z,List.flatMap_append,List.mem_append,List.mem_append,List.flatMap_map]
  simp only[List.flatMap_cons,List.flatMap_nil,List.append_nil]
  exact Or.comm
 rw[h1,h2,h3,h4,e,if_neg (by simp),JC,JC]
 cases YQ b.v (Zg l) <;> cases YQ b.v (XV p) <;> cases YQ b.v (fs.flatMap fun f=>Zg f.l) <;> rfl
theorem b8e(ls:List Lin)(h:VP ls=true):(UK ls).length<=9223372036854775807:=by
 simp only[VP,Bool.and_eq_true,decide_eq_true_eq,List.all_eq_true]at h
 have in1 : ∀ (ss:List Str) (l:Lin),(ss.foldl KG l).t.length<=l.t.length+ss.length:=by
  intro ss
  induction ss with
  | nil=>intro l;simp
  | cons s ss ih=>intro l;rw[List.foldl_cons];have:=ih (KG l s);have:=b3g l s;rw[List.length_cons];omega
 have in2 : ∀ (ls:List Lin),(∀ l∈ls,l.t.length<=1000)-> ∀ l:Lin,(ls.foldl JX l).t.length<=l.t.length+1000*ls.length:=by
  intro ls
  induction ls with
  | nil=>intro _ l;simp
  | cons a ls ih=>
   intro hl l
   rw[List.foldl_cons]
   have h1:=ih (fun x hx=>hl x (by simp[hx])) (JX l a)
   have h2:=in1 (Zg a) l
   have h3:=hl a (by simp)
   have h4:(Zg a).length=a.t.length:=by unfold Zg;rw[List.length_map]
   unfold JX at h1 ⊢
   rw[List.length_cons]
   omega
 have:=in2 ls h.2 ⟨0,[]⟩
 have e:(UK ls).length=(ls.foldl JX ⟨0,[]⟩).t.length:=by
  show(Zg (ls.foldl JX ⟨0,[]⟩)).length=_
  unfold Zg
  rw[List.length_map]
 have e0:((⟨0,[]⟩:Lin).t).length=0:=rfl
 omega
theorem c2g(p:List Mono)(h:Xi p=true):(XV p).length<=9223372036854775807:=Nat.le_trans (a8n p) (by decide)
theorem Ap(b:BoxT)(fs:List Fact)(l:Lin)(p:List Mono)(h1:Y4 b=true)(h2:YC fs=true)(h3:Zw l=true)(h4:ZJ p=true)(hb:Zr b.v=true)(hp:Xi p=true)(hfl:fs.length<=100):
  (Go.Pl.preT (fun(x:List Lin×Unit)=>VP (Prod.fst x)) [(.sl 2 false (List.map enc (fs.map (·.l)++[l])))])=true∧(∃ y1:List Str,AV.pv (Zj (fun(x:List Lin×Unit)=>UK (Prod.fst x)) [(.sl 2 false (List.map enc (fs.map (·.l)++[l])))])=AV.pv (enc y1) ∧
   ((Go.Pl.preT (fun(x:BoxT×List Str×Unit)=>Zr (BoxT.v (Prod.fst x))&&Zr (Prod.fst (Prod.snd x))) [(.agg [(.sl 1 false (List.map enc (BoxT.v b))),(.int .i64 (BoxT.m b))]),(.sl 1 false (List.map enc y1))])=true ∧
   (∃ y2:Bool,AV.pv (Zj (fun(x:BoxT×List Str×Unit)=>YQ (BoxT.v (Prod.fst x)) (Prod.fst (Prod.snd x))) [(.agg [(.sl 1 false (List.map enc (BoxT.v b))),(.int .i64 (BoxT.m b))]),(.sl 1 false (List.map enc y1))])=AV.pv (enc y2) ∧
   (if (!y2)=true then Zi (Dj b fs l p) ((.int .i64 7))else((Go.Pl.preT (fun(x:List Mono×Unit)=>Xi (Prod.fst x)) [(.sl 2 false (List.map enc p))])=true ∧
   (∃ y3:List Str,AV.pv (Zj (fun(x:List Mono×Unit)=>XV (Prod.fst x)) [(.sl 2 false (List.map enc p))])=AV.pv (enc y3) ∧
   ((Go.Pl.preT (fun(x:BoxT×List Str×Unit)=>Zr (BoxT.v (Prod.fst x))&&Zr (Prod.fst (Prod.snd x))) [(.agg [(.sl 1 false (List.map enc (BoxT.v b))),(.int .i64 (BoxT.m b))]),(.sl 1 false (List.map enc y3))])=true ∧
   (∃ y4:Bool,AV.pv (Zj (fun(x:BoxT×List Str×Unit)=>YQ (BoxT.v (Prod.fst x)) (Prod.fst (Prod.snd x))) [(.agg [(.sl 1 false (List.map enc (BoxT.v b))),(.int .i64 (BoxT.m b))]),(.sl 1 false (List.map enc y3))])=AV.pv (enc y4) ∧
   (if (!y4)=true then Zi (Dj b fs l p) ((.int .i64 7))else(Zi (Dj b fs l p) ((.int .i64 0)))))))))))):=by
 have hv6:VP (fs.map (·.l)++[l])=true:=by
  simp only[VP,Bool.and_eq_true,decide_eq_true_eq,List.all_eq_true]
  refine⟨by simp;omega,fun x hx=> ?_⟩
  have hx2:Zw x=true:=by
   rcases List.mem_append.1 hx with hx|hx
   ·obtain⟨f,hf,rfl⟩:=List.mem_map.1 hx
    exact List.all_eq_true.1 h2 f hf
   ·rw[List.mem_singleton.1 hx];exact h3
  have:=RU hx2
  omega
 refine⟨Zl ((fs.map (·.l)++[l]),()) rfl hv6,Zk ((fs.map (·.l)++[l]),()) rfl ⟨Zl (b,UK (fs.map (·.l)++[l]),()) rfl (by
  show(Zr b.v&&Zr (UK (fs.map (·.l)++[l])))=true
  rw[hb,ZF.2 (b8e _ hv6)];rfl),Zk (b,UK (fs.map (·.l)++[l]),()) rfl ?_⟩⟩
 rw[c8t h1 h2 h3 h4]
 refine XU (fun h=> ?_) fun h=>⟨Zl (p,()) rfl hp,Zk (p,()) rfl ⟨Zl (b,XV p,()) rfl (by
  show(Zr b.v&&Zr (XV p))=true
  rw[hb,ZF.2 (c2g p hp)];rfl),Zk (b,XV p,()) rfl ?_⟩⟩
 ·have h:YQ b.v (UK (fs.map (·.l)++[l]))=false:=h
  rw[h];exact VQ rfl
 ·have h:YQ b.v (UK (fs.map (·.l)++[l]))=true:=h
  rw[h]
  refine XU (fun h5=> ?_) fun h5=> ?_
  ·have h5:YQ b.v (XV p)=false:=h5
   rw[h5];exact VQ rfl
  ·have h5:YQ b.v (XV p)=true:=h5
   rw[h5];exact VQ rfl
theorem b5g(f:Fact):PV.agg (VT (List.drop 1 (PV.cells (enc f))) 0 [Sh.int .i64,Sh.sl 2])=enc f.l:=rfl
theorem LA(b:BoxT)(fs:List Fact)(l:Lin)(p:List Mono)(h1:Y4 b=true)(h2:YC fs=true)(h3:Zw l=true)(h4:ZJ p=true)(hb:Zr b.v=true)(hp:Xi p=true)(hfl:fs.length<=100): ∀ (d i:Nat),d+i=fs.length->1<=i ->
  At WX 0 (Zb We (Zi (Dj b fs l p))) WJ 0 58 [(1,.pv (enc fs)),(3,.pv (enc p)),(4,.ptr 0 0),(6,.ptr 1 0),(9,.row 2 i 0 i),(10,.pv (.int .i64 i))] [.obj (.box [.pv (enc b.v),.pv (.int .i64 b.m)]),.obj (.box [.pv (.int .i64 l.k),.pv (enc l.t)]),.obj (.row false 24 2 (((fs.take i).map (·.l)).map enc))]:=by
 intro d
 induction d with
 | zero=>
  intro i hi h1'
  have htk:fs.take i=fs:=List.take_of_length_le (by omega)
  have hmi:(List.map (enc:Lin->PV) (fs.map (·.l))).length=i:=by simp;omega
  rw[htk]
  apply AP (G:=Zi (Dj b fs l p)) b fs l p i i (fs.map (·.l))
  apply ZR (Xq (by omega))
  refine⟨?_,?_,?_⟩
  ·rw[hmi]
   show((i==i)&&(i==i)&&decide ((i+1)*32<=1099511627776)&&decide (i+1<=1099511627776))=true
   rw[decide_eq_true (by omega),decide_eq_true (by omega)];simp
  ·rw[List.length_append,hmi];simp
  ·have e:List.map (enc:Lin->PV) (fs.map (·.l))++List.drop 0 (List.take 1 [PV.agg [PV.int .i64 l.k,enc l.t]])=List.map enc (fs.map (·.l)++[l]):=by rw[List.map_append];rfl
   have e2:List.drop 0 (List.take (i+List.length (List.drop 0 (List.take 1 [PV.agg [PV.int .i64 l.k,enc l.t]]))) (List.map (enc:Lin->PV) (fs.map (·.l)++[l])))=List.map enc (fs.map (·.l)++[l]):=by
    rw[List.drop_zero,List.take_of_length_le (by rw[List.map_append,List.length_append,hmi];simp)]
   rw[e,e2]
   exact Ap b fs l p h1 h2 h3 h4 hb hp hfl
 | succ d ih=>
  intro i hi h1'
  have hlt:i<fs.length:=by omega
  apply AP (G:=Zi (Dj b fs l p)) b fs l p i i ((fs.take i).map (·.l))
  apply ZN (Y3 hlt)
  refine⟨Zu hlt rfl,ZB hlt ⟨?_,?_⟩⟩
  ·rw[b5g]
   have hq:(List.map (enc:Lin->PV) ((fs.take i).map (·.l))).length=i:=by simp;omega
   rw[hq]
   show((i==i)&&(i==i)&&decide ((i+1)*32<=1099511627776)&&decide (i+1<=1099511627776))=true
   rw[decide_eq_true (by omega),decide_eq_true (by omega)];simp
  ·rw[b5g,next (by omega)]
   have:=ih (i+1) (by omega) (by omega)
   rw[List.take_succ_eq_append_getElem hlt,List.map_append,List.map_append]at this
   exact this
theorem a0o: ∀ x:BoxT×List Fact×Lin×List Mono×Unit,(ZH x.1&&Zf x.2.1&&decide (x.2.1.length<=100)&&YF x.2.2.1&&Xi x.2.2.2.1)=true ->
  Ze WX 0 (Zb We (Zi (Zv x.1 x.2.1 (Zw x.2.2.1&&ZJ x.2.2.2.1) (Zg x.2.2.1++XV x.2.2.2.1)))) WJ [] (Yk a8k (encL x)):=by
 rintro⟨b,fs,l,p,⟨⟩⟩ h
 simp only[Bool.and_eq_true,decide_eq_true_eq]at h
 obtain⟨⟨⟨⟨hb,hf⟩,hfl⟩,hl⟩,hp⟩:=h
 have hbo:=hb
 simp only[ZH,XX,Bool.and_eq_true]at hb
 show Ze WX 0 (Zb We (Zi (Dj b fs l p))) _ _ _
 have bad : ∀ q:Bool,q=(Y4 b&&YC fs&&(Zw l&&ZJ p))->q=false->Zi (Dj b fs l p) (.int .i64 1):=by
  intro q hq hq0
  refine VQ ?_
  unfold Dj Zv
  rw[if_pos]
  rw[hq0]at hq
  cases h1:Y4 b
  ·simp
  ·cases h2:YC fs
   ·simp
   ·rw[h1,h2]at hq
    revert hq
    cases Zw l <;> cases ZJ p <;> simp
 refine b0t b fs l p ⟨Zl (b,()) rfl hbo,Zk (b,()) rfl (XU (fun h1=>bad _ rfl ?_) fun h1=>⟨Zl (fs,()) rfl hf,Zk (fs,()) rfl (XU (fun h2=>bad _ rfl ?_) fun h2=>⟨Zl (l,()) rfl hl,Zk (l,()) rfl (XU (fun h3=>bad _ rfl ?_) fun h3=>⟨Zl (p,()) rfl hp,Zk (p,()) rfl (XU (fun h4=>bad _ rfl ?_) fun h4=> ?_)⟩)⟩)⟩)⟩
 ·have h1:Y4 b=false:=h1
  rw[h1];rfl
 ·have h2:YC fs=false:=h2
  rw[h2];simp
 ·have h3:Zw l=false:=h3
  rw[h3];simp
 ·have h4:ZJ p=false:=h4
  rw[h4];simp
 ·have h1:Y4 b=true:=h1
  have h2:YC fs=true:=h2
  have h3:Zw l=true:=h3
  have h4:ZJ p=true:=h4
  cases hfs:fs with
  | nil=>
   subst hfs
   apply Su (G:=Zi (Dj b [] l p)) b [] l p ((0:Nat):Int)
   apply ZR (Xq (by simp))
   exact Ap b [] l p h1 h2 h3 h4 hb.1 hp hfl
  | cons f r=>
   have hlt:0<fs.length:=by rw[hfs];simp
   rw[<- hfs]
   apply Su (G:=Zi (Dj b fs l p)) b fs l p ((0:Nat):Int)
   apply ZN (Y3 hlt)
   refine⟨Zu hlt rfl,ZB hlt ?_⟩
   rw[next (by omega)]
   have:=LA b fs l p h1 h2 h3 h4 hb.1 hp hfl (fs.length - 1) 1 (by omega) (by omega)
   rw[show(1:Nat)=0+1 from rfl,List.take_succ_eq_append_getElem hlt]at this
   exact this
theorem b4u(b:BoxT)(fs:List Fact)(R:List (List Int)×Int)(n:Nat)(p0:List Int)(hend:VY b.m p0=none->Zi R (.tup [.sl 0 true [],.int .i64 0]))
  (hcont : ∀ p,VY b.m p0=some p->At YO 0 (Zb Yj (Zi R)) Yi 0 60 [(1,.pv (enc fs)),(2,.ptr 0 0),(8,.row 1 n 0 n),(7,.pv (.sl 0 true []))] [.obj (.box [.pv (enc b.v),.pv (.int .i64 b.m)]),.obj (.row false 3 1 (p.map enc))]) :
  ∀ (k:Nat) (p:List Int),p.length=n->n<=1000->k<=n->(∀ x∈p,-1<=x∧x<=20000)->Y1 b.m k p=VY b.m p0 ->
  At YO 0 (Zb Yj (Zi R)) Yi 1 60 [(1,.pv (enc fs)),(2,.ptr 0 0),(8,.row 1 n 0 n),(7,.pv (.sl 0 true [])),(9,.pv (.int .i64 ((k:Int) - 1)))] [.obj (.box [.pv (enc b.v),.pv (.int .i64 b.m)]),.obj (.row false 3 1 (p.map enc))]:=by
 intro k
 induction k with
 | zero=>
  intro p hpn hn hk hx hnk
  refine FD b fs n p _ (ZR (by simp) (ZN (by simp) ?_))
  exact hend hnk.symm
 | succ k ih=>
  intro p hpn hn hk hx hnk
  have hlt:k<p.length:=by omega
  have ek:((k+1:Nat):Int) - 1=(k:Int):=by omega
  rw[ek]
  have e:=Qe hlt
  have eg:p.getD k 0=p[k]:=by simp[List.getD,hlt]
  have hxk:=hx _ (List.getElem_mem hlt)
  have q1:(decide (0<=(k:Int))&&decide (0+Int.toNat (k:Int)<n)&&List.length (List.map (enc:Int->PV) p)==n)=true:=by simp;omega
  have q2:(List.length (List.map (enc:Int->PV) p)==n&&decide (0+Int.toNat (k:Int)<List.length (List.map (enc:Int->PV) p)))=true:=by simp;omega
  have hset : ∀ y:Int,List.set (List.map (enc:Int->PV) p) (0+Int.toNat (k:Int)) (enc y)=(p.set k y).map enc:=fun y=>by rw[Nat.zero_add,Int.toNat_natCast,List.map_set]
  refine FD b fs n p k (ZN (by simp) ?_)
  rw[e]
  refine⟨q1,q2,rfl,Kb (fun h=>⟨q1,?_,?_⟩) fun h=>ZR (by simp) ⟨q1,q2,rfl,q1,?_,?_⟩⟩
  ·rw[q2];rfl
  ·have h:p[k]=b.m:=h
   have hn':Y1 b.m (k+1) p=Y1 b.m k (p.set k 0):=by rw[Y1,eg,if_pos h]
   have hw:IntKind.i64.wrap ((k:Int) - 1)=(k:Int) - 1:=X0 (by omega) (by omega)
   rw[hw]
   have:=ih (p.set k 0) (by rw[List.length_set];exact hpn) hn (by omega) (fun x hx'=>by
    rcases List.mem_or_eq_of_mem_set hx' with h|rfl
    ·exact hx x h
    ·omega) (by rw[<- hn'];exact hnk)
   have e0:=hset 0
   rw[<- e0]at this
   exact this
  ·rw[q2];rfl
  ·have h : ¬ p[k]=b.m:=h
   have hn':Y1 b.m (k+1) p=some (p.set k (p[k]+1)):=by rw[Y1,eg,if_neg h]
   have hw:IntKind.i64.wrap (p[k]+1)=p[k]+1:=X0 (by omega) (by omega)
   have:=hcont _ (hnk.symm.trans hn')
   have e0:=hset (IntKind.i64.wrap (p[k]+1))
   rw[hw]at e0
   rw[<- e0]at this
   have hww:(PV.int .i64 (IntKind.i64.wrap (p[k]+1)))=enc (p[k]+1):=by rw[hw];rfl
   show At YO 0 (Zb Yj (Zi R)) Yi 0 60 _ [_,.obj (.row false 3 1 (List.set (List.map enc p) (0+Int.toNat (k:Int)) (PV.int .i64 (IntKind.i64.wrap (p[k]+1)))))]
   rw[hww]
   exact this
theorem b8a(b:BoxT)(fs:List Fact)(R:List (List Int)×Int)(n:Nat)(q:Nat)(xs:List (List Int))(hq:xs.length=q)(p0:List Int)(hend:VY b.m p0=none->Zi R (.tup [.sl 1 false (xs.map enc),.int .i64 0]))
  (hcont : ∀ p,VY b.m p0=some p->At YO 0 (Zb Yj (Zi R)) Yi 0 60 [(1,.pv (enc fs)),(2,.ptr 0 0),(7,.row 1 q 0 q),(8,.row 2 n 0 n)] [.obj (.box [.pv (enc b.v),.pv (.int .i64 b.m)]),.obj (.row false 34 1 (xs.map enc)),.obj (.row false 3 1 (p.map enc))]) :
  ∀ (k:Nat) (p:List Int),p.length=n->n<=1000->k<=n->(∀ x∈p,-1<=x∧x<=20000)->Y1 b.m k p=VY b.m p0 ->
  At YO 0 (Zb Yj (Zi R)) Yi 1 60 [(1,.pv (enc fs)),(2,.ptr 0 0),(7,.row 1 q 0 q),(8,.row 2 n 0 n),(9,.pv (.int .i64 ((k:Int) - 1)))] [.obj (.box [.pv (enc b.v),.pv (.int .i64 b.m)]),.obj (.row false 34 1 (xs.map enc)),.obj (.row false 3 1 (p.map enc))]:=by
 intro k
 induction k with
 | zero=>
  intro p hpn hn hk hx hnk
  refine MV b fs n p _ q xs (ZR (by simp) (ZN (by simp) ?_))
  refine⟨by simp[hq],?_⟩
  rw[List.drop_zero,List.take_of_length_le (by simp[hq])]
  exact hend hnk.symm
 | succ k ih=>
  intro p hpn hn hk hx hnk
  have hlt:k<p.length:=by omega
  have ek:((k+1:Nat):Int) - 1=(k:Int):=by omega
  rw[ek]
  have e:=Qe hlt
  have eg:p.getD k 0=p[k]:=by simp[List.getD,hlt]
  have hxk:=hx _ (List.getElem_mem hlt)
  have q1:(decide (0<=(k:Int))&&decide (0+Int.toNat (k:Int)<n)&&List.length (List.map (enc:Int->PV) p)==n)=true:=by simp;omega
  have q2:(List.length (List.map (enc:Int->PV) p)==n&&decide (0+Int.toNat (k:Int)<List.length (List.map (enc:Int->PV) p)))=true:=by simp;omega
  have hset : ∀ y:Int,List.set (List.map (enc:Int->PV) p) (0+Int.toNat (k:Int)) (enc y)=(p.set k y).map enc:=fun y=>by rw[Nat.zero_add,Int.toNat_natCast,List.map_set]
  refine MV b fs n p k q xs (ZN (by simp) ?_)
  rw[e]
  refine⟨q1,q2,rfl,Kb (fun h=>⟨q1,?_,?_⟩) fun h=>ZR (by simp) ⟨q1,q2,rfl,q1,?_,?_⟩⟩
  ·rw[q2];rfl
  ·have h:p[k]=b.m:=h
   have hn':Y1 b.m (k+1) p=Y1 b.m k (p.set k 0):=by rw[Y1,eg,if_pos h]
   have hw:IntKind.i64.wrap ((k:Int) - 1)=(k:Int) - 1:=X0 (by omega) (by omega)
   rw[hw]
   have:=ih (p.set k 0) (by rw[List.length_set];exact hpn) hn (by omega) (fun x hx'=>by
    rcases List.mem_or_eq_of_mem_set hx' with h|rfl
    ·exact hx x h
    ·omega) (by rw[<- hn'];exact hnk)
   have e0:=hset 0
   rw[<- e0]at this
   exact this
  ·rw[q2];rfl
  ·have h : ¬ p[k]=b.m:=h
   have hn':Y1 b.m (k+1) p=some (p.set k (p[k]+1)):=by rw[Y1,eg,if_neg h]
   have hw:IntKind.i64.wrap (p[k]+1)=p[k]+1:=X0 (by omega) (by omega)
   have:=hcont _ (hnk.symm.trans hn')
   have e0:=hset (IntKind.i64.wrap (p[k]+1))
   rw[hw]at e0
   rw[<- e0]at this
   have hww:(PV.int .i64 (IntKind.i64.wrap (p[k]+1)))=enc (p[k]+1):=by rw[hw];rfl
   show At YO 0 (Zb Yj (Zi R)) Yi 0 60 _ [_,_,.obj (.row false 3 1 (List.set (List.map enc p) (0+Int.toNat (k:Int)) (PV.int .i64 (IntKind.i64.wrap (p[k]+1)))))]
   rw[hww]
   exact this
def a0q(b:BoxT)(fs:List Fact)(R:List (List Int)×Int)(n:Nat)(p:List Int)(k:Nat):Prop:=
 if k=0 then At YO 0 (Zb Yj (Zi R)) Yi 0 60 [(1,.pv (enc fs)),(2,.ptr 0 0),(8,.row 1 n 0 n),(7,.pv (.sl 0 true []))] [.obj (.box [.pv (enc b.v),.pv (.int .i64 b.m)]),.obj (.row false 3 1 (p.map enc))]
 else At YO 0 (Zb Yj (Zi R)) Yi 0 60 [(1,.pv (enc fs)),(2,.ptr 0 0),(7,.row 1 k 0 k),(8,.row 2 n 0 n)] [.obj (.box [.pv (enc b.v),.pv (.int .i64 b.m)]),.obj (.row false 34 1 (((ZY b fs).take k).map enc)),.obj (.row false 3 1 (p.map enc))]
theorem Mr(p:List Int)(n:Nat)(h:p.length=n):(PV.sl 1 false (List.drop 0 (List.take (0+List.length (List.drop 0 (List.take n (List.map (enc:Int->PV) p)))) (([]:List PV)++List.drop 0 (List.take n (List.map enc p))))))=enc p:=by
 subst h
 rw[List.nil_append,List.drop_zero,List.take_of_length_le (by simp:(List.map (enc:Int->PV) p).length<=p.length),List.drop_zero,List.take_of_length_le (by simp)]
 rfl
theorem a9a(b:BoxT)(fs:List Fact)(hv:Y4 b=true)(hf:Zf fs=true)(hl:b.v.length<=1000): ∀ (lst:List (List Int)) (p:List Int) (k:Nat),Walk b.m p lst->p.length=b.v.length->(∀ y∈lst,∀ x∈y,-1<=x∧x<=20000)->(ZY b fs).drop k=lst.filter (XJ b.v fs)->k<=(ZY b fs).length ->
  a0q b fs (ZY b fs,0) b.v.length p k:=by
 intro lst
 induction lst with
 | nil=>intro p k hw;cases hw
 | cons p' rest ih=>
  intro p k hw hpl hpx hdr hk
  obtain⟨t,ht⟩ : ∃ t,p'::rest=p::t:=by
   cases hw with
   | last h=>exact⟨[],rfl⟩
   | step h k=>exact⟨_,rfl⟩
  injection ht with ht1 ht2
  subst ht1 ht2
  have hlen:=a3r (fs:=fs) hv
  have hp:p'.length<=1000:=by omega
  have hpre:Wo [(.pv (.agg [(.sl 1 false (List.map enc (BoxT.v b))),(.int .i64 (BoxT.m b))])),(.row 0 b.v.length 0 b.v.length)] [(.row false 3 1 (List.map enc p'))]=true:=by
   show(b.v.length==b.v.length&&(p'.map enc).length==b.v.length&&3==3&&VV (List Int) (enc p')&&VV (List Str) (enc b.v)&&decide ((dec (enc b.v:PV):List Str).length<=1000)&&decide (b.v.length<=1000))=true
   rw[Yb,Yb,Enc.dec_enc,decide_eq_true hl,List.length_map,hpl];simp
  have hvals:Zq (dec (enc b.v:PV)) (Sa (List.map enc p'))=Zq b.v p':=by rw[Gr,Enc.dec_enc]
  have hh:(fs,Zq b.v p',()).1=fs:=rfl
  have hpreH:(Go.Pl.preT (fun(x:List Fact×List Coef×Unit)=>Zf (Prod.fst x)&&decide (List.length (Prod.fst (Prod.snd x))<=9223372036854775807)) [(.sl 3 false (List.map enc fs)),(.sl 2 false (List.map enc (Zq b.v p')))])=true:=by
   refine Zl (fs,Zq b.v p',()) rfl ?_
   show(Zf fs&&decide ((Zq b.v p').length<=9223372036854775807))=true
   rw[hf,decide_eq_true (by unfold Zq;rw[List.length_zipWith];omega)];rfl
  -- what comes behind the point
  have hend : ∀ k',(ZY b fs).drop k'=rest.filter (XJ b.v fs)->k'<=(ZY b fs).length->VY b.m p'=none->k'=(ZY b fs).length:=by
   intro k' h1 h2 h3
   cases hw with
   | step h _=>rw[h]at h3;cases h3
   | last h=>
    have e:=congrArg List.length h1
    rw[List.length_drop]at e
    simp at e
    omega
  have hcont : ∀ k',(ZY b fs).drop k'=rest.filter (XJ b.v fs)->k'<=(ZY b fs).length-> ∀ q,VY b.m p'=some q->a0q b fs (ZY b fs,0) b.v.length q k':=by
   intro k' h1 h2 q hq
   cases hw with
   | last h=>rw[h]at hq;cases hq
   | step h hw'=>
    rw[h]at hq
    cases hq
    exact ih q k' hw' ((Di _ _ _ _ h).trans hpl) (fun y hy=>hpx y (by simp[hy])) h1 h2
  have hx:=hpx p' (by simp)
  -- the two ways on
  have goA:(ZY b fs).drop 0=rest.filter (XJ b.v fs)->At YO 0 (Zb Yj (Zi (ZY b fs,(0:Int)))) Yi 1 60 [(1,.pv (enc fs)),(2,.ptr 0 0),(8,.row 1 b.v.length 0 b.v.length),(7,.pv (.sl 0 true [])),(9,.pv (.int .i64 ((b.v.length:Int) - 1)))] [.obj (.box [.pv (enc b.v),.pv (.int .i64 b.m)]),.obj (.row false 3 1 (p'.map enc))]:=by
   intro h1
   refine b4u b fs (ZY b fs,0) b.v.length p' (fun hn=> ?_) (fun q hq=> ?_) b.v.length p' hpl hl (Nat.le_refl _) hx (by unfold VY;rw[hpl])
   ·have:=hend 0 h1 (Nat.zero_le _) hn
    rw[List.length_eq_zero_iff.1 this.symm]
    exact⟨rfl,rfl⟩
   ·have:=hcont 0 h1 (Nat.zero_le _) q hq
    unfold a0q at this
    rw[if_pos rfl]at this
    exact this
  have goB : ∀ k',k'≠0->(ZY b fs).drop k'=rest.filter (XJ b.v fs)->k'<=(ZY b fs).length->At YO 0 (Zb Yj (Zi (ZY b fs,(0:Int)))) Yi 1 60 [(1,.pv (enc fs)),(2,.ptr 0 0),(7,.row 1 k' 0 k'),(8,.row 2 b.v.length 0 b.v.length),(9,.pv (.int .i64 ((b.v.length:Int) - 1)))] [.obj (.box [.pv (enc b.v),.pv (.int .i64 b.m)]),.obj (.row false 34 1 (((ZY b fs).take k').map enc)),.obj (.row false 3 1 (p'.map enc))]:=by
   intro k' hk0 h1 h2
   refine b8a b fs (ZY b fs,0) b.v.length k' ((ZY b fs).take k') (by rw[List.length_take];omega) p' (fun hn=> ?_) (fun q hq=> ?_) b.v.length p' hpl hl (Nat.le_refl _) hx (by unfold VY;rw[hpl])
   ·have:=hend k' h1 h2 hn
    rw[this,List.take_length]
    exact Z0 (x:=(ZY b fs,(0:Int))) rfl
   ·have:=hcont k' h1 h2 q hq
    unfold a0q at this
    rw[if_neg hk0]at this
    exact this
  have hw0:IntKind.i64.wrap (((b.v.length - 0:Nat):Int) - 1)=(b.v.length:Int) - 1:=by rw[Nat.sub_zero];exact X0 (by omega) (by omega)
  have c1:(List.length (List.map (enc:Int->PV) p')==b.v.length)=true:=by simp[hpl]
  have c2:(List.length ([]:List PV)==0&&0==0&&decide ((0+List.length (List.drop 0 (List.take b.v.length (List.map (enc:Int->PV) p'))))*8<=1099511627776)&&decide (0+List.length (List.drop 0 (List.take b.v.length (List.map (enc:Int->PV) p')))<=1099511627776))=true:=by simp;omega
  have c3:(List.length (([]:List PV)++List.drop 0 (List.take b.v.length (List.map (enc:Int->PV) p')))==0+List.length (List.drop 0 (List.take b.v.length (List.map (enc:Int->PV) p'))))=true:=by simp
  by_cases hin:XJ b.v fs p'=true
  ·rw[List.filter_cons,if_pos hin]at hdr
   have hk1:k<(ZY b fs).length:=by
    have e:=congrArg List.length hdr
    rw[List.length_drop]at e
    simp at e
    omega
   have hpk:(ZY b fs)[k]=p':=by
    have:=List.drop_eq_getElem_cons hk1
    rw[hdr]at this
    injection this with this _
    exact this.symm
   have hdr2:(ZY b fs).drop (k+1)=rest.filter (XJ b.v fs):=by
    have:=List.drop_eq_getElem_cons hk1
    rw[hdr]at this
    injection this with _ this
    exact this.symm
   have ht:(ZY b fs).take (k+1)=(ZY b fs).take k++[p']:=by rw[List.take_succ_eq_append_getElem hk1,hpk]
   have hb:=goB (k+1) (by omega) hdr2 hk1
   unfold a0q
   by_cases hk0:k=0
   ·subst hk0
    rw[if_pos rfl]
    refine FT b fs b.v.length p' ⟨hpre,?_⟩
    rw[hvals]
    refine⟨hpreH,Zk (fs,Zq b.v p',()) rfl (ZN hin ⟨c1,c2,c3,?_⟩)⟩
    rw[Mr p' _ hpl,hw0]
    rw[ht]at hb
    exact hb
   ·rw[if_neg hk0]
    have el:((ZY b fs).take k).length=k:=by rw[List.length_take];omega
    refine F7 b fs b.v.length p' k ((ZY b fs).take k) ⟨hpre,?_⟩
    rw[hvals]
    refine⟨hpreH,Zk (fs,Zq b.v p',()) rfl (ZN hin ⟨c1,c2,c3,?_,?_⟩)⟩
    ·rw[Mr p' _ hpl,List.length_map,el]
     show((k==k)&&(k==k)&&decide ((k+1)*24<=1099511627776)&&decide (k+1<=1099511627776))=true
     rw[decide_eq_true (by omega),decide_eq_true (by omega)];simp
    ·rw[Mr p' _ hpl,hw0]
     rw[ht,List.map_append]at hb
     exact hb
  ·rw[List.filter_cons,if_neg hin]at hdr
   unfold a0q
   by_cases hk0:k=0
   ·subst hk0
    rw[if_pos rfl]
    refine FT b fs b.v.length p' ⟨hpre,?_⟩
    rw[hvals]
    refine⟨hpreH,Zk (fs,Zq b.v p',()) rfl (ZR hin ?_)⟩
    rw[hw0]
    exact goA hdr
   ·rw[if_neg hk0]
    refine F7 b fs b.v.length p' k ((ZY b fs).take k) ⟨hpre,?_⟩
    rw[hvals]
    refine⟨hpreH,Zk (fs,Zq b.v p',()) rfl (ZR hin ?_)⟩
    rw[hw0]
    exact goB k hk0 hdr hk
theorem a3y{b:BoxT}(h:Y4 b=true): ∀ y∈Jj b.m.toNat b.v.length,∀ x∈y,-1<=x∧x<=20000:=by
 intro y hy x hx
 obtain⟨q1,q2⟩:=Gn.1 hy
 have:=q2 x hx
 obtain⟨_,_,h3,h4,_⟩:=UE.1 h
 rcases h3 with h3|h3
 ·rw[h3]at q1
  rw[List.length_eq_zero_iff.1 q1]at hx
  cases hx
 ·omega
theorem b8l{b:BoxT}(h:Y4 b=true):Walk b.m (Wu b.v) (Jj b.m.toNat b.v.length):=by
 have:=DN b.m.toNat b.v.length
 have e:(b.m.toNat:Int)=b.m:=by
  have:0<=b.m:=(UE.1 h).2.2.2.1
  omega
 have hz:Wu b.v=List.replicate b.v.length 0:=List.map_const' ..
 rw[e,<- hz]at this
 exact this
theorem b3i: ∀ x:BoxT×List Fact×Unit,(ZH x.1&&Zf x.2.1&&decide (x.2.1.length<=100)&&decide (x.1.v.length<=1000))=true->Ze YO 0 (Zb Yj (Zi (Zo x.1 x.2.1))) Yi [] (Yk c3b (encL x)):=by
 rintro⟨b,fs,⟨⟩⟩ hp
 simp only[Bool.and_eq_true,decide_eq_true_eq]at hp
 obtain⟨⟨⟨h1,h2⟩,h3⟩,h4⟩:=hp
 have hrd:Zv b fs (Zw ⟨0,[]⟩&&ZJ []) (Zg ⟨0,[]⟩++XV [])=Zv b fs true []:=rfl
 refine c8j b fs ⟨CZ (b,fs,⟨0,[]⟩,[],()) ?_ ?_ (by simp[h1,h2,h3,YF,Xi,Zr]),DC (b,fs,⟨0,[]⟩,[],()) ?_ ?_⟩
 ·show(is BoxT (enc b)&&(is (List Fact) (enc fs)&&(true&&(true&&true))))=true
  rw[Enc.is_enc,Enc.is_enc];rfl
 ·show((dec (enc b:PV):BoxT),(dec (enc fs:PV):List Fact),(⟨0,[]⟩:Lin),([]:List Mono),())=_
  rw[Enc.dec_enc,Enc.dec_enc]
 ·show((dec (enc b:PV):BoxT),(dec (enc fs:PV):List Fact),(⟨0,[]⟩:Lin),([]:List Mono),())=_
  rw[Enc.dec_enc,Enc.dec_enc]
 ·show if (Zv b fs true [] != 0)=true then _ else _
  by_cases h0:Zv b fs true []=0
  ·rw[if_neg (by simp[h0])]
   obtain⟨hv,_⟩:=Uy b fs true [] h0
   have hpt:Zo b fs=(ZY b fs,0):=by unfold Zo;rw[if_pos h0]
   rw[hpt]
   have hp0:(ZY b fs).drop 0=(Jj b.m.toNat b.v.length).filter (XJ b.v fs):=by
    unfold ZY
    rw[Um hv];rfl
   have:=a9a b fs hv h2 h4 _ _ 0 (b8l hv) (by simp[Wu]) (a3y hv) hp0 (Nat.zero_le _)
   unfold a0q at this
   rw[if_pos rfl]at this
   refine⟨by simp;omega,?_⟩
   have en:Int.toNat ((List.length (List.map (enc:Str->PV) b.v):Nat):Int)=b.v.length:=by simp
   have ez:List.replicate b.v.length (PV.int .i64 0)=(Wu b.v).map enc:=by
    unfold Wu
    rw[List.map_map]
    exact(List.map_const' ..).symm
   rw[en,ez]
   exact this
  ·rw[if_pos (by simpa using h0)]
   have hpt:Zo b fs=([],Zv b fs true []):=by unfold Zo;rw[if_neg h0]
   rw[hpt]
   exact⟨rfl,rfl⟩
def lessB(m n:Int):Bool:=decide (m<n)
def Ko(g:Nat):List AV->List AObj->Bool
 | [.pv (.int .i64 n),.ptr 0 0,.ptr 1 0,.ptr 2 0],[.box [.pv (.bool s)],.box [.pv (.fn g')],.box [.pv (.int .i64 z)]]=>g'==g
 | _,_=>false
def Jw(f:Int->Int->Bool):List AV->List AObj->AV×List AObj×List AObj
 | [.pv (.int .i64 n),_,_,_],[.box [.pv (.bool s)],.box [.pv (.fn g)],.box [.pv (.int .i64 z)]]=>(.tup [],[.box [.pv (.bool true)],.box [.pv (.fn g)],.box [.pv (.int .i64 (if !s||f n z then n else z))]],[])
 | _,_=>VM
def Cj(f:Int->Int->Bool):List Int->Option Int
 | []=>none
 | x::l=>some (l.foldl (fun z n=>if f n z then n else z) x)
def YR(b:BoxT)(fs:List Fact)(l:Lin):List Int:=(ZY b fs).map fun p=>(Yy l (Zq b.v p)).1
def Qd(b:BoxT)(fs:List Fact)(l:Lin):Bool:=ZH b&&Zf fs&&decide (fs.length<=100)&&decide (b.v.length<=1000)&&Yz l&&decide (l.t.length<=1000)
def Qs(f:Int->Int->Bool)(b:BoxT)(fs:List Fact)(l:Lin):Int×Int:=
 if Zv b fs (Zw l) (Zg l)=0 then(match Cj f (YR b fs l)with|none=>(0,9)|some z=>(z,0))else(0,Zv b fs (Zw l) (Zg l))
end Go.Pl
namespace Go.Pl
open Go.RowKit
open Enc (enc dec is)
open EncL (encL decL isL)
set_option maxRecDepth 100000
def a1i:IC:=(Zh [Za 4 (Xo false) 0] (Zh [Za 5 (Zc 0) 0,Za 6 (Zc 1) 0,Za 7 (ZA .lss (.t 5) (.t 6)) 0,Za 4 (Zc 7) 0] .ret))
def EZ:List IRes:=[(.tmp 4)]
abbrev c5u:Nat:=8
def b2x:ZO:=Xc []
theorem d1m{G:PV->Prop}(m n:Int)(h:G ((.bool (decide (m<n))))):Ze b2x 0 (Zb EZ G) a1i [] (Yk 8 [enc m,enc n]):=Ze.tp (.lit (.nil)) h (by kernel_rfl)
def NG:IC:=(Zh [Za 5 (.load false [.bool] (.t 1)) 0,Za 6 (.un .not (.t 5)) 0,Za 7 (Zc 6) 0,ZX 8 (.load false [.any] (.t 2)) 0 7,ZX 9 (Zc 0) 0 7,ZX 10 (Yl [(.int .i64)] (.t 3)) 0 7,ZX 11 (.call (.t 8) [(.t 9),(.t 10)]) 0 7,Za 12 (.pick (.t 7) (.c (.bool true)) (.t 11)) 2] (.cond (.t 12) (.reg [Za 13 (Zc 0) 0,Ui (.store 1 (.t 3) (.t 13)) 0,Ui (.store 1 (.t 1) (.c (.bool true))) 0] none) .skip))
def NT:List IRes:=[]
abbrev c4g:Nat:=14
def Es:ZO:=Xc [(128,.pure (preT (fun _:Int×Int×Unit=>true)) (Zj (fun x:Int×Int×Unit=>decide (x.1<x.2.1))))]
theorem c9x{G:AV×List AObj×List AObj->Prop}(n:Int)(s:Bool)(z:Int)(h:if (!s)=true then G (((.tup []),([(.box [(.pv (.bool true))]),(.box [(.pv (.fn 128))]),(.box [(.pv (.int .i64 n))])],[])))else(∃ y0:Bool,AV.pv (Zj (fun(x:Int×Int×Unit)=>decide (x.1<x.2.1)) [(.int .i64 n),(.int .i64 z)])=AV.pv (enc y0)∧(if (y0)=true then G (((.tup []),([(.box [(.pv (.bool true))]),(.box [(.pv (.fn 128))]),(.box [(.pv (.int .i64 n))])],[])))else(G (((.tup []),([(.box [(.pv (.bool s))]),(.box [(.pv (.fn 128))]),(.box [(.pv (.int .i64 z))])],[]))))))):Ze Es 3 (Zt 3 NT G) NG [] (YV 14 [.pv (.int .i64 n),.ptr 0 0,.ptr 1 0,.ptr 2 0] [.box [.pv (.bool s)],.box [.pv (.fn 128)],.box [.pv (.int .i64 z)]]):=Ze.to (.ask (.lit (.lit (.lit (.lit (.lit (.nil)))))) (.lit (.lit (.lit (.lit (.abs (Bool) (fun YY=>AV.pv (enc YY)) (.lit (.ask (.nil) (.nil))))))))) h (by kernel_rfl)
def UY:IC:=(Zh [Za 4 (.box 2 (.t 0)) 0,Za 6 (.box 2 (.t 2)) 1,Za 7 (.box 1 (.t 3)) 2,Za 8 (.alloc (.int .i64 0)) 3,Za 9 (.alloc (.int .i64 0)) 4] (.seq (.seq (.reg [Za 18 (.load true [(.sl 1),(.int .i64)] (.t 4)) 0,Za 19 (Zc 1) 0,Za 20 (.load true [(.int .i64),(.sl 2)] (.t 6)) 0,Za 21 (YT 73 [(.t 20)]) 0,Za 22 (.load true [(.int .i64),(.sl 2)] (.t 6)) 2,Za 23 (YT 174 [(.t 22)]) 2,Za 24 (YT 116 [(.t 18),(.t 19),(.t 21),(.t 23)]) 4,Za 10 (Zc 24) 6] (some [[],[],[],[2],[],[4,3,2],[0,1,3,5,2,4],[6,0,1,2,3,4,5]])) (Zh [Za 25 (Zc 10) 0,Za 26 (ZA .neq (.t 25) (Zy 0)) 0] (.cond (.t 26) (Zh [Za 27 (Zc 10) 0,Ui (.store 1 (.t 8) (Zy 0)) 0,Ui (.store 1 (.t 9) (.t 27)) 0] .ret) .skip))) (Zh [Za 11 (.alloc (.int .i64 0)) 0,Za 12 (.alloc (.bool false)) 1,Ui (.store 1 (.t 11) (Zy 0)) 2,Ui (.store 1 (.t 12) (.c (.bool false))) 2] (Zh [Za 28 (.mkfn 194 [] [(.t 12),(.t 7),(.t 11)]) 0,Za 13 (.alloc .nilfn) 0,Ui (.store 1 (.t 13) (.t 28)) 1] (.seq (Zh [Za 29 (.load true [(.sl 1),(.int .i64)] (.t 4)) 0,Za 30 (Zc 1) 0,Za 31 (YT 117 [(.t 29),(.t 30)]) 0] (.block 0 (.ext 0 [31,33,6,15,35,36,37,34,38,39,17,40,41,8,9,42,13,16,43,44,12,11]))) (.seq (Zh [Za 46 (.load false [.bool] (.t 12)) 0,Za 47 (.un .not (.t 46)) 0] (.cond (.t 47) (Zh [Ui (.store 1 (.t 8) (Zy 0)) 0,Ui (.store 1 (.t 9) (Zy 9)) 0] .ret) .skip)) (Zh [Za 48 (Yl [(.int .i64)] (.t 11)) 0,Ui (.store 1 (.t 8) (.t 48)) 0,Ui (.store 1 (.t 9) (Zy 0)) 0] .ret)))))))
def Ke:List IRes:=[(.cell false 1 8),(.cell false 1 9)]
abbrev b9d:Nat:=49
def Us:ZO:=Xc [(73,.pure (preT (fun x:Lin×Unit=>Yz x.1)) (Zj (fun x:Lin×Unit=>Zw x.1))),(174,.own Jo CY),(116,.pure (preT (fun x:BoxT×List Fact×Bool×NilS×Unit=>ZH x.1&&Zf x.2.1&&decide (x.2.1.length<=100))) (Zj (fun x:BoxT×List Fact×Bool×NilS×Unit=>Zv x.1 x.2.1 x.2.2.1 []))),(117,.own Xn Vd),(38,.pure (preT (fun x:Lin×List Coef×Unit=>Yz x.1&&decide (x.2.1.length<=9223372036854775807))) (Zj (fun x:Lin×List Coef×Unit=>Yy x.1 x.2.1))),(194,.own (Ko 128) (Jw lessB))]
theorem c1z{G:PV->Prop}(E:YL)(b:BoxT)(fs:List Fact)(l:Lin)(h:(Go.Pl.preT (fun(x:Lin×Unit)=>Yz x.1) [(.agg [(.int .i64 l.k),(.sl 2 false (List.map enc l.t))])])=true∧(∃ y0:Bool,AV.pv (Zj (fun(x:Lin×Unit)=>Zw x.1) [(.agg [(.int .i64 l.k),(.sl 2 false (List.map enc l.t))])])=AV.pv (enc y0)∧((Jo [(.pv (.agg [(.int .i64 l.k),(.sl 2 false (List.map enc l.t))]))] [])=true∧((Go.Pl.preT (fun(x:BoxT×List Fact×Bool×NilS×Unit)=>ZH x.1&&Zf x.2.1&&decide (List.length x.2.1<=100)) [(.agg [(.sl 1 false (List.map enc b.v)),(.int .i64 b.m)]),(.sl 3 false (List.map enc fs)),(.bool y0),(.sl 0 true [])])=true∧(∃ y1:Int,AV.pv (Zj (fun(x:BoxT×List Fact×Bool×NilS×Unit)=>Zv x.1 x.2.1 x.2.2.1 []) [(.agg [(.sl 1 false (List.map enc b.v)),(.int .i64 b.m)]),(.sl 3 false (List.map enc fs)),(.bool y0),(.sl 0 true [])])=AV.pv (enc y1)∧(if (y1 != 0)=true then G ((.tup [(.int .i64 0),(.int .i64 y1)]))else((Xn [(.pv (.agg [(.sl 1 false (List.map enc b.v)),(.int .i64 b.m)])),(.pv (.sl 3 false (List.map enc fs)))] [])=true∧(E 0 ⟨Z4 49 0 [(6,(.ptr 0 0)),(8,(.ptr 1 0)),(9,(.ptr 2 0)),(11,(.ptr 3 0)),(12,(.ptr 4 0)),(13,(.ptr 5 0)),(15,.undef),(16,.undef),(17,.undef),(31,(.fn 177 [] [(.ptr 6 0),(.ptr 7 0)])),(33,.undef),(34,.undef),(35,.undef),(36,.undef),(37,.undef),(38,.undef),(39,.undef),(40,.undef),(41,.undef),(42,.undef),(43,.undef),(44,.undef)],[(.obj (.box [(.pv (.int .i64 l.k)),(.pv (.sl 2 false (List.map enc l.t)))])),(.obj (.box [(.pv (.int .i64 0))])),(.obj (.box [(.pv (.int .i64 0))])),(.obj (.box [(.pv (.int .i64 0))])),(.obj (.box [(.pv (.bool false))])),(.obj (.box [(.fn 194 [] [(.ptr 4 0),(.ptr 8 0),(.ptr 3 0)])])),(.obj (.box [(.pv (.sl 1 false (List.map enc b.v))),(.pv (.int .i64 b.m))])),(.obj (.box [(.pv (.sl 3 false (List.map enc fs)))])),(.obj (.box [(.pv (.fn 128))]))]⟩ (fun x S'=>JP Us E 0 (Zb Ke G) UY 0 x S'))))))))):ZM Us E 0 (Zb Ke G) (.inl UY) [] (Yk 49 [enc b,enc fs,enc l,.fn 128]):=ZM.mp (.req (.abs (Bool) (fun YY=>AV.pv (enc YY)) (.req (.keep (.req (.abs (Int) (fun YY=>AV.pv (enc YY)) (.lit (.ask (.nil) (.req (.keep (.nil))))))))))) h (by kernel_rfl)
theorem b5n{G:PV->Prop}(E:YL)(b:BoxT)(fs:List Fact)(l:Lin)(z:Int)(s:Bool)(h:if (!s)=true then G ((.tup [(.int .i64 0),(.int .i64 9)]))else(G ((.tup [(.int .i64 z),(.int .i64 0)])))):JP Us E 0 (Zb Ke G) UY 0 .normal ⟨Z4 49 0 [(6,.ptr 0 0),(8,.ptr 1 0),(9,.ptr 2 0),(11,.ptr 3 0),(12,.ptr 4 0),(13,.ptr 5 0)],[.obj (.box [.pv (.int .i64 l.k),.pv (enc l.t)]),.obj (.box [.pv (.int .i64 0)]),.obj (.box [.pv (.int .i64 0)]),.obj (.box [.pv (.int .i64 z)]),.obj (.box [.pv (.bool s)]),.obj (.box [.fn 194 [] [.ptr 4 0,.ptr 6 0,.ptr 3 0]]),.obj (.box [.pv (.fn 128)])]⟩:=ZM.mp (.ask (.nil) (.nil)) h (by kernel_rfl)
def Q8:IC:=UY
def QY:List IRes:=[(.cell false 1 8),(.cell false 1 9)]
abbrev b2s:Nat:=49
def Un:ZO:=Xc [(73,.pure (preT (fun x:Lin×Unit=>Yz x.1)) (Zj (fun x:Lin×Unit=>Zw x.1))),(174,.own JN G8),(116,.own UM KE),(117,.own Xn Vd),(38,.pure (preT (fun x:Lin×List Coef×Unit=>Yz x.1&&decide (x.2.1.length<=9223372036854775807))) (Zj (fun x:Lin×List Coef×Unit=>Yy x.1 x.2.1))),(194,.own (Ko 128) (Jw lessB))]
theorem c2l{G:PV->Prop}(E:YL)(b:BoxT)(fs:List Fact)(l:Lin)(h:(Go.Pl.preT (fun(x:Lin×Unit)=>Yz x.1) [(.agg [(.int .i64 l.k),(.sl 2 false (List.map enc l.t))])])=true∧(∃ y0:Bool,AV.pv (Zj (fun(x:Lin×Unit)=>Zw x.1) [(.agg [(.int .i64 l.k),(.sl 2 false (List.map enc l.t))])])=AV.pv (enc y0)∧((JN [(.pv (.agg [(.int .i64 l.k),(.sl 2 false (List.map enc l.t))]))] [])=true∧((UM [(.pv (.agg [(.sl 1 false (List.map enc b.v)),(.int .i64 b.m)])),(.pv (.sl 3 false (List.map enc fs))),(.pv (.bool y0)),(.row 0 (List.length (Zg (Ea (PV.agg [enc l.k,enc l.t])))) 0 (List.length (Zg (Ea (PV.agg [enc l.k,enc l.t])))))] [(.row false 9 1 (List.map enc (Zg (Ea (PV.agg [enc l.k,enc l.t])))))])=true∧(if (Zv (a1g (PV.agg [enc b.v,enc b.m])) (BX (enc fs)) y0 (KS (List.map enc (Zg (Ea (PV.agg [enc l.k,enc l.t]))))) != 0)=true then G ((.tup [(.int .i64 0),(.int .i64 (Zv (a1g (PV.agg [enc b.v,enc b.m])) (BX (enc fs)) y0 (KS (List.map enc (Zg (Ea (PV.agg [enc l.k,enc l.t])))))))]))else((Xn [(.pv (.agg [(.sl 1 false (List.map enc b.v)),(.int .i64 b.m)])),(.pv (.sl 3 false (List.map enc fs)))] [])=true∧(E 0 ⟨Z4 49 0 [(6,(.ptr 0 0)),(8,(.ptr 1 0)),(9,(.ptr 2 0)),(11,(.ptr 3 0)),(12,(.ptr 4 0)),(13,(.ptr 5 0)),(15,.undef),(16,.undef),(17,.undef),(31,(.fn 177 [] [(.ptr 6 0),(.ptr 7 0)])),(33,.undef),(34,.undef),(35,.undef),(36,.undef),(37,.undef),(38,.undef),(39,.undef),(40,.undef),(41,.undef),(42,.undef),(43,.undef),(44,.undef)],[(.obj (.box [(.pv (.int .i64 l.k)),(.pv (.sl 2 false (List.map enc l.t)))])),(.obj (.box [(.pv (.int .i64 0))])),(.obj (.box [(.pv (.int .i64 0))])),(.obj (.box [(.pv (.int .i64 0))])),(.obj (.box [(.pv (.bool false))])),(.obj (.box [(.fn 194 [] [(.ptr 4 0),(.ptr 8 0),(.ptr 3 0)])])),(.obj (.box [(.pv (.sl 1 false (List.map enc b.v))),(.pv (.int .i64 b.m))])),(.obj (.box [(.pv (.sl 3 false (List.map enc fs)))])),(.obj (.box [(.pv (.fn 128))]))]⟩ (fun x S'=>JP Un E 0 (Zb QY G) Q8 0 x S')))))))):ZM Un E 0 (Zb QY G) (.inl Q8) [] (Yk 49 [enc b,enc fs,enc l,.fn 128]):=ZM.mp (.req (.abs (Bool) (fun YY=>AV.pv (enc YY)) (.req (.keep (.req (.keep (.lit (.ask (.nil) (.req (.keep (.nil))))))))))) h (by kernel_rfl)
theorem b4n{G:PV->Prop}(E:YL)(b:BoxT)(fs:List Fact)(l:Lin)(z:Int)(s:Bool)(h:if (!s)=true then G ((.tup [(.int .i64 0),(.int .i64 9)]))else(G ((.tup [(.int .i64 z),(.int .i64 0)])))):JP Un E 0 (Zb QY G) Q8 0 .normal ⟨Z4 49 0 [(6,.ptr 0 0),(8,.ptr 1 0),(9,.ptr 2 0),(11,.ptr 3 0),(12,.ptr 4 0),(13,.ptr 5 0)],[.obj (.box [.pv (.int .i64 l.k),.pv (enc l.t)]),.obj (.box [.pv (.int .i64 0)]),.obj (.box [.pv (.int .i64 0)]),.obj (.box [.pv (.int .i64 z)]),.obj (.box [.pv (.bool s)]),.obj (.box [.fn 194 [] [.ptr 4 0,.ptr 6 0,.ptr 3 0]]),.obj (.box [.pv (.fn 128)])]⟩:=ZM.mp (.ask (.nil) (.nil)) h (by kernel_rfl)
def PW:IC:=(Zh [Za 3 (.box 2 (.t 0)) 0,Za 5 (.box 2 (.t 2)) 1,Za 6 (.mv (Zy 0)) 2,Za 7 (.mv (Zy 0)) 2] (Zh [Za 8 (.load true [(.sl 1),(.int .i64)] (.t 3)) 0,Za 9 (Zc 1) 0,Za 10 (.load true [(.int .i64),(.sl 2)] (.t 5)) 0,Za 11 (YT 127 [(.t 8),(.t 9),(.t 10),(.c (.fn 128))]) 0,Za 12 (.extract (.t 11) 0) 2,Za 13 (.extract (.t 11) 1) 2,Za 6 (Zc 12) 2,Za 7 (Zc 13) 2] .ret))
def Pw:List IRes:=[(.tmp 6),(.tmp 7)]
abbrev c0n:Nat:=14
def a0k:ZO:=Xc [(127,.pure (preT (fun x:BoxT×List Fact×Lin×FnV 128×Unit=>Qd x.1 x.2.1 x.2.2.1)) (Zj (fun x:BoxT×List Fact×Lin×FnV 128×Unit=>Qs lessB x.1 x.2.1 x.2.2.1)))]
theorem c6j{G:PV->Prop}(b:BoxT)(fs:List Fact)(l:Lin)(h:(Go.Pl.preT (fun(x:BoxT×List Fact×Lin×FnV 128×Unit)=>Qd x.1 x.2.1 x.2.2.1) [(.agg [(.sl 1 false (List.map enc b.v)),(.int .i64 b.m)]),(.sl 3 false (List.map enc fs)),(.agg [(.int .i64 l.k),(.sl 2 false (List.map enc l.t))]),(.fn 128)])=true∧(∃ y0:Int×Int,AV.pv (Zj (fun(x:BoxT×List Fact×Lin×FnV 128×Unit)=>Qs lessB x.1 x.2.1 x.2.2.1) [(.agg [(.sl 1 false (List.map enc b.v)),(.int .i64 b.m)]),(.sl 3 false (List.map enc fs)),(.agg [(.int .i64 l.k),(.sl 2 false (List.map enc l.t))]),(.fn 128)])=AV.pv (enc y0)∧(G ((.tup [(.int .i64 y0.1),(.int .i64 y0.2)]))))):Ze a0k 0 (Zb Pw G) PW [] (Yk 14 [enc b,enc fs,enc l]):=Ze.tp (.req (.abs (Int×Int) (fun YY=>AV.pv (enc YY)) (.nil))) h (by kernel_rfl)
def Qj:IC:=(.block 1 (Zh [Za 35 (.load true [(.int .i64),(.sl 2)] (.t 6)) 0,Za 36 (Zc 15) 0,Za 37 (YT 38 [(.t 35),(.t 36)]) 0,Za 34 (Zc 37) 2,Za 38 (.extract (.t 34) 0) 2,Za 39 (.extract (.t 34) 1) 2,Za 16 (Zc 38) 2,Za 17 (Zc 39) 2] (.seq (Zh [Za 40 (Zc 17) 0,Za 41 (ZA .neq (.t 40) (Zy 0)) 0] (.cond (.t 41) (Zh [Za 42 (Zc 17) 0,Ui (.store 1 (.t 8) (Zy 0)) 0,Ui (.store 1 (.t 9) (.t 42)) 0] .ret) .skip)) (.reg [Za 43 (.load false [.any] (.t 13)) 0,Za 44 (Zc 16) 0,Za 45 (.call (.t 43) [(.t 44)]) 0] none))))
def a4a:ZO:=Xc [(73,.pure (preT (fun x:Lin×Unit=>Yz x.1)) (Zj (fun x:Lin×Unit=>Zw x.1))),(174,.own Jo CY),(116,.pure (preT (fun x:BoxT×List Fact×Bool×NilS×Unit=>ZH x.1&&Zf x.2.1&&decide (x.2.1.length<=100))) (Zj (fun x:BoxT×List Fact×Bool×NilS×Unit=>Zv x.1 x.2.1 x.2.2.1 []))),(117,.own Xn Vd),(38,.pure (preT (fun x:Lin×List Coef×Unit=>Yz x.1&&decide (x.2.1.length<=9223372036854775807))) (Zj (fun x:Lin×List Coef×Unit=>Yy x.1 x.2.1))),(194,.own (Ko 128) (Jw lessB))]
theorem b5j{G:ZC->Prop}(E:YL)(l:Lin)(p:List Int)(vs:List Coef)(z:Int)(s:Bool)(h:(Go.Pl.preT (fun(x:Lin×List Coef×Unit)=>Yz x.1&&decide (List.length x.2.1<=9223372036854775807)) [(.agg [(.int .i64 l.k),(.sl 2 false (List.map enc l.t))]),(.sl 2 false (List.map enc vs))])=true∧(∃ y0:Int×Int,AV.pv (Zj (fun(x:Lin×List Coef×Unit)=>Yy x.1 x.2.1) [(.agg [(.int .i64 l.k),(.sl 2 false (List.map enc l.t))]),(.sl 2 false (List.map enc vs))])=AV.pv (enc y0)∧(if (y0.2 != 0)=true then G ([(.obj (.box [(.pv (.int .i64 l.k)),(.pv (.sl 2 false (List.map enc l.t)))])),(.obj (.box [(.pv (.int .i64 0))])),(.obj (.box [(.pv (.int .i64 y0.2))])),(.obj (.box [(.pv (.int .i64 z))])),(.obj (.box [(.pv (.bool s))])),(.obj (.box [(.fn 194 [] [(.ptr 4 0),(.ptr 6 0),(.ptr 3 0)])])),(.obj (.box [(.pv (.fn 128))])),.fresh,.fresh])else(E 99 ⟨Z4 49 0 [],[(.obj (.box [(.pv (.int .i64 l.k)),(.pv (.sl 2 false (List.map enc l.t)))])),(.obj (.box [(.pv (.int .i64 0))])),(.obj (.box [(.pv (.int .i64 0))])),(.obj (.box [(.pv (.int .i64 (if (!s||lessB y0.1 z)=true then y0.1 else z)))])),(.obj (.box [(.pv (.bool true))])),(.obj (.box [(.fn 194 [] [(.ptr 4 0),(.ptr 6 0),(.ptr 3 0)])])),(.obj (.box [(.pv (.fn 128))]))]⟩ (fun x S'=>JP a4a E 7 (fun st=>G st.heap) Qj 99 x S'))))):ZM a4a E 7 (fun st=>G st.heap) (.inl Qj) [.seq (.ext 99 [])] ⟨Z4 49 0 [(6,.ptr 0 0),(8,.ptr 1 0),(9,.ptr 2 0),(11,.ptr 3 0),(12,.ptr 4 0),(13,.ptr 5 0),(15,.pv (enc vs)),(32,.pv (enc p)),(33,.pv (enc vs))],[.obj (.box [.pv (.int .i64 l.k),.pv (enc l.t)]),.obj (.box [.pv (.int .i64 0)]),.obj (.box [.pv (.int .i64 0)]),.obj (.box [.pv (.int .i64 z)]),.obj (.box [.pv (.bool s)]),.obj (.box [.fn 194 [] [.ptr 4 0,.ptr 6 0,.ptr 3 0]]),.obj (.box [.pv (.fn 128)])]⟩:=ZM.mh (.req (.abs (Int×Int) (fun YY=>AV.pv (enc YY)) (.lit (.ask (.nil) (.lit (.keep (.nil))))))) h (by kernel_rfl)
def QT:IC:=Qj
def a4p:ZO:=Xc [(73,.pure (preT (fun x:Lin×Unit=>Yz x.1)) (Zj (fun x:Lin×Unit=>Zw x.1))),(174,.own JN G8),(116,.own UM KE),(117,.own Xn Vd),(38,.pure (preT (fun x:Lin×List Coef×Unit=>Yz x.1&&decide (x.2.1.length<=9223372036854775807))) (Zj (fun x:Lin×List Coef×Unit=>Yy x.1 x.2.1))),(194,.own (Ko 128) (Jw lessB))]
theorem b5c{G:ZC->Prop}(E:YL)(l:Lin)(p:List Int)(vs:List Coef)(z:Int)(s:Bool)(h:(Go.Pl.preT (fun(x:Lin×List Coef×Unit)=>Yz x.1&&decide (List.length x.2.1<=9223372036854775807)) [(.agg [(.int .i64 l.k),(.sl 2 false (List.map enc l.t))]),(.sl 2 false (List.map enc vs))])=true∧(∃ y0:Int×Int,AV.pv (Zj (fun(x:Lin×List Coef×Unit)=>Yy x.1 x.2.1) [(.agg [(.int .i64 l.k),(.sl 2 false (List.map enc l.t))]),(.sl 2 false (List.map enc vs))])=AV.pv (enc y0)∧(if (y0.2 != 0)=true then G ([(.obj (.box [(.pv (.int .i64 l.k)),(.pv (.sl 2 false (List.map enc l.t)))])),(.obj (.box [(.pv (.int .i64 0))])),(.obj (.box [(.pv (.int .i64 y0.2))])),(.obj (.box [(.pv (.int .i64 z))])),(.obj (.box [(.pv (.bool s))])),(.obj (.box [(.fn 194 [] [(.ptr 4 0),(.ptr 6 0),(.ptr 3 0)])])),(.obj (.box [(.pv (.fn 128))])),.fresh,.fresh])else(E 99 ⟨Z4 49 0 [],[(.obj (.box [(.pv (.int .i64 l.k)),(.pv (.sl 2 false (List.map enc l.t)))])),(.obj (.box [(.pv (.int .i64 0))])),(.obj (.box [(.pv (.int .i64 0))])),(.obj (.box [(.pv (.int .i64 (if (!s||lessB y0.1 z)=true then y0.1 else z)))])),(.obj (.box [(.pv (.bool true))])),(.obj (.box [(.fn 194 [] [(.ptr 4 0),(.ptr 6 0),(.ptr 3 0)])])),(.obj (.box [(.pv (.fn 128))]))]⟩ (fun x S'=>JP a4p E 7 (fun st=>G st.heap) QT 99 x S'))))):ZM a4p E 7 (fun st=>G st.heap) (.inl QT) [.seq (.ext 99 [])] ⟨Z4 49 0 [(6,.ptr 0 0),(8,.ptr 1 0),(9,.ptr 2 0),(11,.ptr 3 0),(12,.ptr 4 0),(13,.ptr 5 0),(15,.pv (enc vs)),(32,.pv (enc p)),(33,.pv (enc vs))],[.obj (.box [.pv (.int .i64 l.k),.pv (enc l.t)]),.obj (.box [.pv (.int .i64 0)]),.obj (.box [.pv (.int .i64 0)]),.obj (.box [.pv (.int .i64 z)]),.obj (.box [.pv (.bool s)]),.obj (.box [.fn 194 [] [.ptr 4 0,.ptr 6 0,.ptr 3 0]]),.obj (.box [.pv (.fn 128)])]⟩:=ZM.mh (.req (.abs (Int×Int) (fun YY=>AV.pv (enc YY)) (.lit (.ask (.nil) (.lit (.keep (.nil))))))) h (by kernel_rfl)
end Go.Pl
namespace Go.Pl
open Go.RowKit
open Enc (enc dec is)
open EncL (encL decL isL)
theorem Rv{s:Str}: ∀ {vs:List Str} {p:List Int},s∈vs->p.length=vs.length-> ∃ x∈p,QA (Zq vs p) s=some x
 | [],_,h,_=>by cases h
 | v::vs,[],_,h=>by simp at h
 | v::vs,x::p,h,hl=>by
  by_cases e:v=s
  ·refine⟨x,by simp,?_⟩
   show((List.find? (fun t:Coef=>decide (t.v=s)) (⟨v,x⟩::Zq vs p)).map (·.c))=some x
   rw[List.find?_cons_of_pos (by simpa using e)];rfl
  ·obtain⟨y,hy,h2⟩:=Rv (s:=s) (vs:=vs) (p:=p) ((List.mem_cons.1 h).resolve_left fun h=>e h.symm) (by simpa using hl)
   refine⟨y,by simp[hy],?_⟩
   show((List.find? (fun t:Coef=>decide (t.v=s)) (⟨v,x⟩::Zq vs p)).map (·.c))=some y
   rw[List.find?_cons_of_neg (by simpa using e)]
   exact h2
theorem Sl{vs:List Str}{p:List Int}(hl:p.length=vs.length)(hx : ∀ x∈p,-1000000000<=x∧x<=1000000000): ∀ (ts:List Coef) (n:Int),(∀ t∈ts,t.v∈vs)->(KZ (Zq vs p) n ts).2=0
 | [],n,_=>rfl
 | t::r,n,h=>by
  obtain⟨x,h1,h2⟩:=Rv (h t (by simp)) hl
  have:=hx x h1
  rw[KZ,h2]
  show(if x < -1000000000 then((0:Int),(2:Int))else if x>1000000000 then(0,2)else _).2=0
  rw[if_neg (by omega),if_neg (by omega)]
  exact Sl hl hx r _ fun u hu=>h u (by simp[hu])
theorem c0s{b:BoxT}{fs:List Fact}{p:List Int}(hv:Y4 b=true)(h:p∈ZY b fs):p.length=b.v.length∧(∀ x∈p,0<=x∧x<=b.m)∧ ∀ x∈p,-1<=x∧x<=20000:=by
 unfold ZY at h
 rw[Um hv]at h
 have h:=(List.mem_filter.1 h).1
 obtain⟨h1,h2⟩:=Gn.1 h
 have:0<=b.m:=(UE.1 hv).2.2.2.1
 exact⟨h1,fun x hx=>by have:=h2 x hx;omega,a3y hv p h⟩
theorem MI{b:BoxT}{fs:List Fact}{l:Lin}{p:List Int}(hr:Zv b fs (Zw l) (Zg l)=0)(h:p∈ZY b fs):(Yy l (Zq b.v p)).2=0:=by
 obtain⟨hv,_,hl,hin⟩:=Uy _ _ _ _ hr
 obtain⟨h1,_,h3⟩:=c0s hv h
 rw[JC,Bool.and_eq_true]at hin
 unfold Yy
 rw[if_pos hl]
 refine Sl h1 (fun x hx=>by have:=h3 x hx;omega) _ _ fun t ht=> ?_
 have:=List.all_eq_true.1 hin.1 t.v (by unfold Zg;exact List.mem_map.2 ⟨t,ht,rfl⟩)
 simpa using this
theorem a6p(f:Int->Int->Bool)(l:List Int)(x:Int):Cj f (l++[x])=some (match Cj f l with|none=>x|some z=>if f x z then x else z):=by
 cases l with
 | nil=>rfl
 | cons y l=>simp[Cj,List.foldl_append]
def VC(f:Int->Int->Bool)(l:List Int):Int×Bool:=match Cj f l with|none=>(0,false)|some z=>(z,true)
theorem RD(f:Int->Int->Bool)(l:List Int)(x:Int):VC f (l++[x])=(if !(VC f l).2||f x (VC f l).1 then x else(VC f l).1,true):=by
 unfold VC
 rw[a6p]
 cases Cj f l <;> rfl
theorem c8h(l:Lin):Ea (PV.agg [enc l.k,enc l.t])=l:=Enc.dec_enc l
theorem a4s(b:BoxT):a1g (PV.agg [enc b.v,enc b.m])=b:=Enc.dec_enc b
theorem OA(fs:List Fact):BX (enc fs)=fs:=Enc.dec_enc fs
def Fw(l:Lin)(z:Int)(s:Bool):ZC:=[.obj (.box [.pv (.int .i64 l.k),.pv (enc l.t)]),.obj (.box [.pv (.int .i64 0)]),.obj (.box [.pv (.int .i64 0)]),.obj (.box [.pv (.int .i64 z)]),.obj (.box [.pv (.bool s)]),.obj (.box [.fn 194 [] [.ptr 4 0,.ptr 6 0,.ptr 3 0]]),.obj (.box [.pv (.fn 128)])]
theorem b1t: ∀ args os,Ko 128 args os=true->Ze Es os.length (Zt os.length NT fun r=>r=Jw lessB args os) NG [] (YV c4g args os):=by
 intro args os h
 unfold Ko at h
 split at h
 ·rename_i n s g z
  have h:g=128:=by simpa using h
  subst h
  refine c9x n s z (XU (fun h=> ?_) fun h=>Zk (n,z,()) rfl (XT (fun h2=> ?_) fun h2=> ?_))
  ·subst h;rfl
  ·subst h
   have h2:lessB n z=true:=h2
   show _=(AV.tup [],[AObj.box [.pv (.bool true)],.box [.pv (.fn 128)],.box [.pv (.int .i64 (if !true||lessB n z then n else z))]],[])
   rw[h2];rfl
  ·subst h
   have h2:lessB n z=false:=h2
   show _=(AV.tup [],[AObj.box [.pv (.bool true)],.box [.pv (.fn 128)],.box [.pv (.int .i64 (if !true||lessB n z then n else z))]],[])
   rw[h2];rfl
 ·cases h
def Hw:YL:=fun n st q=>n=0∧DL Us 0 (.t 31) 177 [32,33] [(15,33)] Qj KJ Qw Cw st q
theorem Oj(b:BoxT)(fs:List Fact)(l:Lin)(hl:Yz l=true)(hb:b.v.length<=1000)(hr:Zv b fs (Zw l) (Zg l)=0)(k:Nat)(p:List Int)(hp:(ZY b fs)[k]? = some p):
  ZM Us (fun n S' _=>n=99∧S'.heap=Fw l (VC lessB ((YR b fs l).take (k+1))).1 (VC lessB ((YR b fs l).take (k+1))).2) 7 (fun st=>False) (.inl Qj) [.seq (.ext 99 [])]
   ⟨Z4 49 0 [(6,.ptr 0 0),(8,.ptr 1 0),(9,.ptr 2 0),(11,.ptr 3 0),(12,.ptr 4 0),(13,.ptr 5 0),(15,.pv (enc (Zq b.v p))),(32,.pv (enc p)),(33,.pv (enc (Zq b.v p)))],Fw l (VC lessB ((YR b fs l).take k)).1 (VC lessB ((YR b fs l).take k)).2⟩:=by
 have hk:=(List.getElem?_eq_some_iff.1 hp).1
 have hkp:=(List.getElem?_eq_some_iff.1 hp).2
 have hm:p∈ZY b fs:=List.mem_of_getElem? hp
 have hkv:k<(YR b fs l).length:=by unfold YR;rw[List.length_map];exact hk
 have hgv:(YR b fs l)[k]=(Yy l (Zq b.v p)).1:=by
  have:(YR b fs l)[k]? = some (Yy l (Zq b.v p)).1:=by unfold YR;rw[List.getElem?_map,hp];rfl
  exact(List.getElem?_eq_some_iff.1 this).2
 have ht:(YR b fs l).take (k+1)=(YR b fs l).take k++[(Yy l (Zq b.v p)).1]:=by rw[List.take_succ_eq_append_getElem hkv,hgv]
 rw[ht,RD]
 refine b5j (G:=fun _=>False) _ l p (Zq b.v p) _ _ ⟨Zl (l,Zq b.v p,()) rfl ?_,Zk (l,Zq b.v p,()) rfl ?_⟩
 ·show(Yz l&&decide ((Zq b.v p).length<=9223372036854775807))=true
  rw[hl,decide_eq_true (by unfold Zq;rw[List.length_zipWith];omega)];rfl
 ·refine ZR (by rw[MI hr hm];simp) ⟨rfl,rfl⟩
theorem a7i: ∀ x:BoxT×List Fact×Lin×FnV 128×Unit,(Qd x.1 x.2.1 x.2.2.1&&x.2.2.1.t.isEmpty)=true->KL Us Hw 0 (Zb Ke (Zi (Qs lessB x.1 x.2.1 x.2.2.1))) UY [] (Yk b9d (encL x)):=by
 rintro⟨b,fs,l,⟨⟩,⟨⟩⟩ hp
 simp only[Qd,Bool.and_eq_true,decide_eq_true_eq]at hp
 obtain⟨⟨⟨⟨⟨⟨h1,h2⟩,h3⟩,h4⟩,h5⟩,h6⟩,h7⟩:=hp
 have key:Zv b fs (Zw l) (Zg l)=0->Hw 0 ⟨Z4 49 0 [(6,(.ptr 0 0)),(8,(.ptr 1 0)),(9,(.ptr 2 0)),(11,(.ptr 3 0)),(12,(.ptr 4 0)),(13,(.ptr 5 0)),(15,.undef),(16,.undef),(17,.undef),(31,(.fn 177 [] [(.ptr 6 0),(.ptr 7 0)])),(33,.undef),(34,.undef),(35,.undef),(36,.undef),(37,.undef),(38,.undef),(39,.undef),(40,.undef),(41,.undef),(42,.undef),(43,.undef),(44,.undef)],[(.obj (.box [(.pv (.int .i64 (Lin.k l))),(.pv (.sl 2 false (List.map enc (Lin.t l))))])),(.obj (.box [(.pv (.int .i64 0))])),(.obj (.box [(.pv (.int .i64 0))])),(.obj (.box [(.pv (.int .i64 0))])),(.obj (.box [(.pv (.bool false))])),(.obj (.box [(.fn 194 [] [(.ptr 4 0),(.ptr 8 0),(.ptr 3 0)])])),(.obj (.box [(.pv (.sl 1 false (List.map enc (BoxT.v b)))),(.pv (.int .i64 (BoxT.m b)))])),(.obj (.box [(.pv (.sl 3 false (List.map enc fs)))])),(.obj (.box [(.pv (.fn 128))]))]⟩ (fun x S'=>JP Us Hw 0 (Zb Ke (Zi (Qs lessB b fs l))) UY 0 x S'):=by
  intro h0
  obtain⟨hv,_⟩:=Uy _ _ _ _ h0
  refine⟨rfl,[6,7],[[enc b.v,.int .i64 b.m],[enc fs]],[6,8,9,11,12,13],[],⟨Z4 49 0 [(6,.ptr 0 0),(8,.ptr 1 0),(9,.ptr 2 0),(11,.ptr 3 0),(12,.ptr 4 0),(13,.ptr 5 0)],Fw l 0 false⟩,(fun k σ=>σ=Fw l (VC lessB ((YR b fs l).take k)).1 (VC lessB ((YR b fs l).take k)).2),fun _=>False,rfl,by simp,rfl,?_,by kernel_rfl,Af hv h2 h4,rfl,?_,?_,fun σ h=>h.elim⟩
  ·intro j l' ps hl hps
   match j with
   | 0=>cases hl;cases hps;rfl
   | 1=>cases hl;cases hps;rfl
   | j+2=>simp at hl
  ·intro k x σ hx hI
   rw[Tw,List.getElem?_map]at hx
   obtain⟨p,hp,rfl⟩:=Option.map_eq_some_iff.1 hx
   subst hI
   have e:TC [(15,33)] (CQ [32,33] ((KJ (p,Zq b.v p)).map .pv) (Z4 49 0 [(6,.ptr 0 0),(8,.ptr 1 0),(9,.ptr 2 0),(11,.ptr 3 0),(12,.ptr 4 0),(13,.ptr 5 0)]))=Z4 49 0 [(6,.ptr 0 0),(8,.ptr 1 0),(9,.ptr 2 0),(11,.ptr 3 0),(12,.ptr 4 0),(13,.ptr 5 0),(15,.pv (enc (Zq b.v p))),(32,.pv (enc p)),(33,.pv (enc (Zq b.v p)))]:=by kernel_rfl
   have:=Oj b fs l h5 h4 h0 k p hp
   rw[<- e]at this
   exact this
  ·intro σ hI
   rw[Tw,List.length_map]at hI
   subst hI
   have hall:(YR b fs l).take (ZY b fs).length=YR b fs l:=List.take_of_length_le (by unfold YR;rw[List.length_map];exact Nat.le_refl _)
   rw[hall]
   refine b5n (G:=Zi (Qs lessB b fs l)) Hw b fs l _ _ ?_
   unfold Qs VC
   rw[if_pos h0]
   cases Cj lessB (YR b fs l)with
   | none=>exact ZN rfl (Z0 (x:=((0:Int),(9:Int))) rfl)
   | some z=>exact ZR (by simp) (Z0 (x:=((z:Int),(0:Int))) rfl)
 have hbad:Zv b fs (Zw l) (Zg l)≠0->Zi (Qs lessB b fs l) (.tup [.int .i64 0,.int .i64 (Zv b fs (Zw l) (Zg l))]):=by
  intro h0
  unfold Qs
  rw[if_neg h0]
  exact Z0 (x:=((0:Int),Zv b fs (Zw l) (Zg l))) rfl
 have ht:l.t=[]:=List.isEmpty_iff.1 h7
 have hn:Zg l=[]:=by unfold Zg;rw[ht];rfl
 refine c1z Hw b fs l ⟨Zl (l,()) rfl h5,Zk (l,()) rfl ⟨?_,Zl (b,fs,Zw l,⟨⟩,()) rfl (by simp[h1,h2,h3]),Zk (b,fs,Zw l,⟨⟩,()) rfl ?_⟩⟩
 ·show(VV Lin (enc l)&&(dec (enc l:PV):Lin).t.isEmpty)=true
  rw[Yb,Enc.dec_enc,ht];rfl
 ·show if (Zv b fs (Zw l) [] != 0)=true then _ else _
  rw[hn]at key hbad
  by_cases h0:Zv b fs (Zw l) []=0
  ·rw[if_neg (by simp[h0])]
   refine⟨?_,key h0⟩
   show(VV (List Str) (enc b.v)&&VV (List Fact) (enc fs))=true
   rw[Yb,Yb];rfl
  ·rw[if_pos (by simpa using h0)]
   exact hbad h0
def Gd:YL:=fun n st q=>n=0∧DL Un 0 (.t 31) 177 [32,33] [(15,33)] QT KJ Qw Cw st q
theorem Ff(b:BoxT)(fs:List Fact)(l:Lin)(hl:Yz l=true)(hb:b.v.length<=1000)(hr:Zv b fs (Zw l) (Zg l)=0)(k:Nat)(p:List Int)(hp:(ZY b fs)[k]? = some p):
  ZM Un (fun n S' _=>n=99∧S'.heap=Fw l (VC lessB ((YR b fs l).take (k+1))).1 (VC lessB ((YR b fs l).take (k+1))).2) 7 (fun st=>False) (.inl QT) [.seq (.ext 99 [])]
   ⟨Z4 49 0 [(6,.ptr 0 0),(8,.ptr 1 0),(9,.ptr 2 0),(11,.ptr 3 0),(12,.ptr 4 0),(13,.ptr 5 0),(15,.pv (enc (Zq b.v p))),(32,.pv (enc p)),(33,.pv (enc (Zq b.v p)))],Fw l (VC lessB ((YR b fs l).take k)).1 (VC lessB ((YR b fs l).take k)).2⟩:=by
 have hk:=(List.getElem?_eq_some_iff.1 hp).1
 have hkp:=(List.getElem?_eq_some_iff.1 hp).2
 have hm:p∈ZY b fs:=List.mem_of_getElem? hp
 have hkv:k<(YR b fs l).length:=by unfold YR;rw[List.length_map];exact hk
 have hgv:(YR b fs l)[k]=(Yy l (Zq b.v p)).1:=by
  have:(YR b fs l)[k]? = some (Yy l (Zq b.v p)).1:=by unfold YR;rw[List.getElem?_map,hp];rfl
  exact(List.getElem?_eq_some_iff.1 this).2
 have ht:(YR b fs l).take (k+1)=(YR b fs l).take k++[(Yy l (Zq b.v p)).1]:=by rw[List.take_succ_eq_append_getElem hkv,hgv]
 rw[ht,RD]
 refine b5c (G:=fun _=>False) _ l p (Zq b.v p) _ _ ⟨Zl (l,Zq b.v p,()) rfl ?_,Zk (l,Zq b.v p,()) rfl ?_⟩
 ·show(Yz l&&decide ((Zq b.v p).length<=9223372036854775807))=true
  rw[hl,decide_eq_true (by unfold Zq;rw[List.length_zipWith];omega)];rfl
 ·refine ZR (by rw[MI hr hm];simp) ⟨rfl,rfl⟩
theorem a5x: ∀ x:BoxT×List Fact×Lin×FnV 128×Unit,(Qd x.1 x.2.1 x.2.2.1&& !x.2.2.1.t.isEmpty)=true->KL Un Gd 0 (Zb QY (Zi (Qs lessB x.1 x.2.1 x.2.2.1))) Q8 [] (Yk b2s (encL x)):=by
 rintro⟨b,fs,l,⟨⟩,⟨⟩⟩ hp
 simp only[Qd,Bool.and_eq_true,decide_eq_true_eq]at hp
 obtain⟨⟨⟨⟨⟨⟨h1,h2⟩,h3⟩,h4⟩,h5⟩,h6⟩,h7⟩:=hp
 have key:Zv b fs (Zw l) (Zg l)=0->Gd 0 ⟨Z4 49 0 [(6,(.ptr 0 0)),(8,(.ptr 1 0)),(9,(.ptr 2 0)),(11,(.ptr 3 0)),(12,(.ptr 4 0)),(13,(.ptr 5 0)),(15,.undef),(16,.undef),(17,.undef),(31,(.fn 177 [] [(.ptr 6 0),(.ptr 7 0)])),(33,.undef),(34,.undef),(35,.undef),(36,.undef),(37,.undef),(38,.undef),(39,.undef),(40,.undef),(41,.undef),(42,.undef),(43,.undef),(44,.undef)],[(.obj (.box [(.pv (.int .i64 (Lin.k l))),(.pv (.sl 2 false (List.map enc (Lin.t l))))])),(.obj (.box [(.pv (.int .i64 0))])),(.obj (.box [(.pv (.int .i64 0))])),(.obj (.box [(.pv (.int .i64 0))])),(.obj (.box [(.pv (.bool false))])),(.obj (.box [(.fn 194 [] [(.ptr 4 0),(.ptr 8 0),(.ptr 3 0)])])),(.obj (.box [(.pv (.sl 1 false (List.map enc (BoxT.v b)))),(.pv (.int .i64 (BoxT.m b)))])),(.obj (.box [(.pv (.sl 3 false (List.map enc fs)))])),(.obj (.box [(.pv (.fn 128))]))]⟩ (fun x S'=>JP Un Gd 0 (Zb QY (Zi (Qs lessB b fs l))) Q8 0 x S'):=by
  intro h0
  obtain⟨hv,_⟩:=Uy _ _ _ _ h0
  refine⟨rfl,[6,7],[[enc b.v,.int .i64 b.m],[enc fs]],[6,8,9,11,12,13],[],⟨Z4 49 0 [(6,.ptr 0 0),(8,.ptr 1 0),(9,.ptr 2 0),(11,.ptr 3 0),(12,.ptr 4 0),(13,.ptr 5 0)],Fw l 0 false⟩,(fun k σ=>σ=Fw l (VC lessB ((YR b fs l).take k)).1 (VC lessB ((YR b fs l).take k)).2),fun _=>False,rfl,by simp,rfl,?_,by kernel_rfl,Af hv h2 h4,rfl,?_,?_,fun σ h=>h.elim⟩
  ·intro j l' ps hl hps
   match j with
   | 0=>cases hl;cases hps;rfl
   | 1=>cases hl;cases hps;rfl
   | j+2=>simp at hl
  ·intro k x σ hx hI
   rw[Tw,List.getElem?_map]at hx
   obtain⟨p,hp,rfl⟩:=Option.map_eq_some_iff.1 hx
   subst hI
   have e:TC [(15,33)] (CQ [32,33] ((KJ (p,Zq b.v p)).map .pv) (Z4 49 0 [(6,.ptr 0 0),(8,.ptr 1 0),(9,.ptr 2 0),(11,.ptr 3 0),(12,.ptr 4 0),(13,.ptr 5 0)]))=Z4 49 0 [(6,.ptr 0 0),(8,.ptr 1 0),(9,.ptr 2 0),(11,.ptr 3 0),(12,.ptr 4 0),(13,.ptr 5 0),(15,.pv (enc (Zq b.v p))),(32,.pv (enc p)),(33,.pv (enc (Zq b.v p)))]:=by kernel_rfl
   have:=Ff b fs l h5 h4 h0 k p hp
   rw[<- e]at this
   exact this
  ·intro σ hI
   rw[Tw,List.length_map]at hI
   subst hI
   have hall:(YR b fs l).take (ZY b fs).length=YR b fs l:=List.take_of_length_le (by unfold YR;rw[List.length_map];exact Nat.le_refl _)
   rw[hall]
   refine b4n (G:=Zi (Qs lessB b fs l)) Gd b fs l _ _ ?_
   unfold Qs VC
   rw[if_pos h0]
   cases Cj lessB (YR b fs l)with
   | none=>exact ZN rfl (Z0 (x:=((0:Int),(9:Int))) rfl)
   | some z=>exact ZR (by simp) (Z0 (x:=((z:Int),(0:Int))) rfl)
 have hbad:Zv b fs (Zw l) (Zg l)≠0->Zi (Qs lessB b fs l) (.tup [.int .i64 0,.int .i64 (Zv b fs (Zw l) (Zg l))]):=by
  intro h0
  unfold Qs
  rw[if_neg h0]
  exact Z0 (x:=((0:Int),Zv b fs (Zw l) (Zg l))) rfl
 have hne:l.t≠[]:=by intro h;rw[h]at h7;simp at h7
 refine c2l Gd b fs l ⟨Zl (l,()) rfl h5,Zk (l,()) rfl ⟨?_,?_⟩⟩
 ·show(VV Lin (enc l)&& !(dec (enc l:PV):Lin).t.isEmpty&&decide ((dec (enc l:PV):Lin).t.length<=1000000))=true
  rw[Yb,Enc.dec_enc,decide_eq_true (by omega)]
  simpa using hne
 ·rw[c8h,a4s,OA,Qc]
  have hnl:(Zg l).length=l.t.length:=by unfold Zg;rw[List.length_map]
  refine⟨?_,?_⟩
  ·show(VV BoxT (enc b)&&VV (List Fact) (enc fs)&&9==9&&TF (Zg l).length (Zg l).length ((Zg l).map enc)&&decide ((Zg l).length<=1000)&& !((Zg l).map (enc:Str->PV)).isEmpty&&ZH (dec (enc b:PV))&&Zf (dec (enc fs:PV))&&decide ((dec (enc fs:PV):List Fact).length<=100)&&decide (((Zg l).map (enc:Str->PV)).length<=1000))=true
   rw[List.length_map,Yb,Yb,Enc.dec_enc,Enc.dec_enc,Br rfl (by omega),h1,h2,decide_eq_true h3,decide_eq_true (show(Zg l).length<=1000 by omega)]
   have:((Zg l).map (enc:Str->PV)).isEmpty=false:=by
    rw[List.isEmpty_eq_false_iff]
    intro h
    have:=congrArg List.length h
    rw[List.length_map,hnl]at this
    exact hne (List.length_eq_zero_iff.1 this)
   rw[this];simp
  ·show if (Zv b fs (Zw l) (Zg l) != 0)=true then _ else _
   by_cases h0:Zv b fs (Zw l) (Zg l)=0
   ·rw[if_neg (by simp[h0])]
    refine⟨?_,key h0⟩
    show(VV (List Str) (enc b.v)&&VV (List Fact) (enc fs))=true
    rw[Yb,Yb];rfl
   ·rw[if_pos (by simpa using h0)]
    exact hbad h0
theorem b0e: ∀ x:BoxT×List Fact×Lin×Unit,Qd x.1 x.2.1 x.2.2.1=true->Ze a0k 0 (Zb Pw (Zi (Qs lessB x.1 x.2.1 x.2.2.1))) PW [] (Yk c0n (encL x)):=by
 rintro⟨b,fs,l,⟨⟩⟩ hp
 exact c6j b fs l ⟨Zl (b,fs,l,⟨()⟩,()) rfl hp,Zk (b,fs,l,⟨()⟩,()) rfl (Z0 (x:=Qs lessB b fs l) rfl)⟩
theorem b9o: ∀ x:Int×Int×Unit,(fun _:Int×Int×Unit=>true) x=true->Ze b2x 0 (Zb EZ (Zi (decide (x.1<x.2.1)))) a1i [] (Yk c5u (encL x)):=by
 rintro⟨m,n,⟨⟩⟩ _
 exact d1m m n (ZL rfl)
end Go.Pl
namespace Go.Pl
open Go.RowKit
open Enc (enc dec is)
open EncL (encL decL isL)
set_option maxRecDepth 100000
def Nl:IC:=(Zh [Za 2 (Xo false) 0] (Zh [Za 3 (Zc 0) 0,Za 4 (YT 119 [(.t 3)]) 0,Za 5 (.un .not (.t 4)) 2,Za 2 (Zc 5) 2] .ret))
def NB:List IRes:=[(.tmp 2)]
abbrev b9s:Nat:=6
def OP:ZO:=Xc [(119,.pure (preT (fun x:Str×Unit=>decide (x.1.s.length<=281474976710656))) (Zj (fun x:Str×Unit=>ZG x.1)))]
theorem c8i{G:PV->Prop}(s:List UInt8)(h:(Go.Pl.preT (fun(x:Str×Unit)=>decide (List.length (Str.s x.1)<=281474976710656)) [(.str s)])=true∧(∃ y0:Bool,AV.pv (Zj (fun(x:Str×Unit)=>ZG x.1) [(.str s)])=AV.pv (enc y0)∧(G ((.bool !y0))))):Ze OP 0 (Zb NB G) Nl [] (Yk 6 [.str s]):=Ze.tp (.req (.abs (Bool) (fun YY=>AV.pv (enc YY)) (.nil))) h (by kernel_rfl)
def Ha:IC:=Qn
def J8:List IRes:=[(.tmp 4)]
abbrev c8c:Nat:=19
def BG:ZO:=Xc [(185,.pure (preT (fun x:Str×Unit=>decide (x.1.s.length<=281474976710656))) (Zj (fun x:Str×Unit=> !(ZG x.1))))]
theorem d2d{G:PV->Prop}(l:List Str)(h:At BG 0 (Zb J8 G) Ha 0 19 [(0,(.pv (.sl 1 false (List.map enc l)))),(1,(.pv (.fn 185))),(7,(.pv (.int .i64 (↑(List.length (List.map enc l)):Int)))),(8,(.pv (.int .i64 0)))] []):Ze BG 0 (Zb J8 G) Ha [] (Yk 19 [enc l,.fn 185]):=Ze.tp (.nil) h (by kernel_rfl)
theorem b6e{G:PV->Prop}(l:List Str)(i:Int)(h:if (decide (i<(↑(List.length l):Int)))=true then(decide (0<=i)&&decide (Int.toNat i<List.length (List.map enc l))&&Enc.sz Str==1)=true∧(∃ y0:Str,AV.pv (PV.rptr (PV.cells (List.getD (List.map enc l) (Int.toNat i) default)))=AV.pv (PV.rptr (PV.cells ((enc) y0)))∧((Go.Pl.preT (fun(x:Str×Unit)=>decide (List.length (Str.s x.1)<=281474976710656)) [(.str (PV.asStr (List.getD (PV.cells (enc y0)) 0 default)))])=true∧(∃ y1:Bool,AV.pv (Zj (fun(x:Str×Unit)=> !ZG x.1) [(.str (PV.asStr (List.getD (PV.cells (enc y0)) 0 default)))])=AV.pv (enc y1)∧(if (y1)=true then G ((.int .i64 i))else(At BG 0 (Zb J8 G) Ha 0 19 [(0,(.pv (.sl 1 false (List.map enc l)))),(1,(.pv (.fn 185))),(7,(.pv (.int .i64 (↑(List.length l):Int)))),(8,(.pv (.int .i64 (IntKind.wrap IntKind.i64 (i+1)))))] [])))))else(G ((.int .i64 (-1))))):At BG 0 (Zb J8 G) Ha 0 19 [(0,.pv (enc l)),(1,.pv (.fn 185)),(7,.pv (.int .i64 l.length)),(8,.pv (.int .i64 i))] []:=At.tp (.lit (.ask (.req (.abs (Str) (fun YY=>AV.pv (PV.rptr (PV.cells ((enc) YY)))) (.lit (.req (.abs (Bool) (fun YY=>AV.pv (enc YY)) (.ask (.nil) (.lit (.nil)))))))) (.nil))) h (by kernel_rfl)
def a1x:IC:=BN
def O7:List IRes:=[(.tmp 4)]
abbrev c5y:Nat:=9
def b4p:ZO:=Xc [(238,.pure (preT (fun x:List Str×FnV 185×Unit=>XX x.1)) (Zj (fun x:List Str×FnV 185×Unit=>ZI (fun s:Str=> !(ZG s)) x.1)))]
theorem d0h{G:PV->Prop}(l:List Str)(h:(Go.Pl.preT (fun(x:List Str×FnV 185×Unit)=>XX x.1) [(.sl 1 false (List.map enc l)),(.fn 185)])=true∧(∃ y0:Int,AV.pv (Zj (fun(x:List Str×FnV 185×Unit)=>ZI (fun(s:Str)=> !ZG s) x.1) [(.sl 1 false (List.map enc l)),(.fn 185)])=AV.pv (enc y0)∧(G ((.bool (decide (y0 ≥ 0))))))):Ze b4p 0 (Zb O7 G) a1x [] (Yk 9 [enc l,.fn 185]):=Ze.tp (.req (.abs (Int) (fun YY=>AV.pv (enc YY)) (.lit (.nil)))) h (by kernel_rfl)
def Nk:IC:=(Zh [Za 2 (Xo false) 0] (Zh [Za 3 (Zc 0) 0,Za 4 (Zc 0) 0,Za 5 (ZA .neq (.t 3) (.t 4)) 0,Za 2 (Zc 5) 0] .ret))
def P8:List IRes:=[(.tmp 2)]
abbrev c1v:Nat:=6
def EH:ZO:=Xc []
theorem c9l{G:PV->Prop}(s:List UInt8)(h:G ((.bool (!s==s)))):Ze EH 0 (Zb P8 G) Nk [] (Yk 6 [.str s]):=Ze.tp (.lit (.nil)) h (by kernel_rfl)
def AC:IC:=(Zh [Za 4 (Xo false) 0] (Zh [Za 5 (Zc 0) 0,Za 6 (YT 283 [(.t 5)]) 0,Za 7 (Zc 6) 2,Z6 8 (Zc 1) 2 7,Z6 9 (YT 283 [(.t 8)]) 2 7,Z6 10 (.un .not (.t 9)) 4 7,Za 11 (.pick (.t 7) (.t 10) (.c (.bool false))) 4,Za 12 (Zc 11) 4,ZX 13 (Zc 0) 4 12,ZX 14 (Zc 1) 4 12,ZX 15 (ZA .lss (.t 13) (.t 14)) 4 12,Za 16 (.pick (.t 12) (.c (.bool true)) (.t 15)) 4,Za 4 (Zc 16) 4] .ret))
def BH:List IRes:=[(.tmp 4)]
abbrev b2b:Nat:=17
def N9:ZO:=Xc [(283,.pure (preT (fun _:Str×Unit=>true)) (Zj (fun _:Str×Unit=>false)))]
theorem c4b{G:PV->Prop}(s t:List UInt8)(h : ∃ y0:Bool,AV.pv (Zj (fun(x:Str×Unit)=>false) [(.str s)])=AV.pv (enc y0)∧(if (y0)=true then ∃ y1:Bool,AV.pv (Zj (fun(x:Str×Unit)=>false) [(.str t)])=AV.pv (enc y1)∧(if (!y1)=true then G ((.bool true))else(G ((.bool (Op.bytesLess s t)))))else(G ((.bool (Op.bytesLess s t)))))):Ze N9 0 (Zb BH G) AC [] (Yk 17 [.str s,.str t]):=Ze.tp (.lit (.abs (Bool) (fun YY=>AV.pv (enc YY)) (.ask (.lit (.lit (.abs (Bool) (fun YY=>AV.pv (enc YY)) (.lit (.lit (.ask (.lit (.lit (.lit (.nil)))) (.lit (.lit (.lit (.lit (.nil))))))))))) (.lit (.lit (.lit (.lit (.lit (.lit (.lit (.lit (.nil)))))))))))) h (by kernel_rfl)
def Nv:IC:=(Zh [Za 4 (.mv (Zy 0)) 0] (Zh [Za 7 (Zc 0) 0,Za 8 (YT 283 [(.t 7)]) 0,Za 5 (Zc 8) 2] (Zh [Za 9 (Zc 1) 0,Za 10 (YT 283 [(.t 9)]) 0,Za 6 (Zc 10) 2] (.seq (Zh [Za 11 (Zc 5) 0] (.cond (.t 11) (.seq (Zh [Za 12 (Zc 6) 0] (.cond (.t 12) (Zh [Za 4 (.mv (Zy 0)) 0] .ret) .skip)) (Zh [Za 4 (.mv (.c (.int .i64 (-1)))) 0] .ret)) .skip)) (.seq (Zh [Za 13 (Zc 6) 0] (.cond (.t 13) (Zh [Za 4 (.mv (Zy 1)) 0] .ret) .skip)) (.seq (Zh [Za 14 (Zc 0) 0,Za 15 (Zc 1) 0,Za 16 (ZA .lss (.t 14) (.t 15)) 0] (.cond (.t 16) (Zh [Za 4 (.mv (.c (.int .i64 (-1)))) 0] .ret) .skip)) (.seq (Zh [Za 17 (Zc 0) 0,Za 18 (Zc 1) 0,Za 19 (ZA .gtr (.t 17) (.t 18)) 0] (.cond (.t 19) (Zh [Za 4 (.mv (Zy 1)) 0] .ret) .skip)) (Zh [Za 4 (.mv (Zy 0)) 0] .ret))))))))
def NM:List IRes:=[(.tmp 4)]
abbrev c1j:Nat:=20
def a0f:ZO:=Xc [(283,.pure (preT (fun _:Str×Unit=>true)) (Zj (fun _:Str×Unit=>false)))]
theorem c5p{G:PV->Prop}(s t:List UInt8)(h : ∃ y0:Bool,AV.pv (Zj (fun(x:Str×Unit)=>false) [(.str s)])=AV.pv (enc y0)∧(∃ y1:Bool,AV.pv (Zj (fun(x:Str×Unit)=>false) [(.str t)])=AV.pv (enc y1)∧(if (y0)=true then if (y1)=true then G ((.int .i64 0))else(G ((.int .i64 (-1))))else(if (y1)=true then G ((.int .i64 1))else(if (Op.bytesLess s t)=true then G ((.int .i64 (-1)))else(if (!(Op.bytesLess s t||s==t))=true then G ((.int .i64 1))else(G ((.int .i64 0))))))))):Ze a0f 0 (Zb NM G) Nv [] (Yk 20 [.str s,.str t]):=Ze.tp (.lit (.abs (Bool) (fun YY=>AV.pv (enc YY)) (.lit (.abs (Bool) (fun YY=>AV.pv (enc YY)) (.ask (.ask (.nil) (.nil)) (.ask (.nil) (.lit (.ask (.nil) (.lit (.ask (.nil) (.nil))))))))))) h (by kernel_rfl)
def Vi:IC:=(Zh [Za 2 (Xo false) 0] (.seq (Zh [Za 4 (Zc 0) 0,Za 5 (.len 1 (.t 4)) 0,Za 6 (ZA .sub (.t 5) (Zy 1)) 0,Za 3 (Zc 6) 0] (.block 0 (.loop [3,0] (.seq (Zh [Za 7 (Zc 3) 0,Za 8 (ZA .gtr (.t 7) (Zy 0)) 0] (.cond (.t 8) .skip (.exit 0))) (.seq (.block 1 (.seq (.reg [Za 11 (Zc 0) 0,Za 12 (Zc 3) 0,Za 13 (.iaddr 1 (.t 11) (.t 12)) 0,Za 14 (.load false [.str] (.t 13)) 0,Za 15 (Zc 0) 0,Za 16 (Zc 3) 0,Za 17 (ZA .sub (.t 16) (Zy 1)) 0,Za 18 (.iaddr 1 (.t 15) (.t 17)) 0,Za 19 (.load false [.str] (.t 18)) 0,Za 20 (YT 244 [(.t 14),(.t 19)]) 0] (some [[],[],[0,1],[2,0,1],[],[],[5],[4,6,5],[7,4,6,5],[3,8,2,0,1,7,4,6,5]])) (.cond (.t 20) (Zh [Za 2 (Xo false) 0] .ret) .skip))) (.reg [Za 9 (Zc 3) 0,Za 10 (ZA .sub (.t 9) (Zy 1)) 0,Za 3 (Zc 10) 0] none)))))) (Zh [Za 2 (Xo true) 0] .ret)))
def Vl:List IRes:=[(.tmp 2)]
abbrev a1v:Nat:=21
def V5:ZO:=Xc [(244,.pure (preT (fun _:Str×Str×Unit=>true)) (Zj (fun x:Str×Str×Unit=>decide (x.1.s<x.2.1.s))))]
theorem a8g{G:PV->Prop}(l:List Str)(h:At V5 0 (Zb Vl G) Vi 0 21 [(0,(.pv (.sl 1 false (List.map enc l)))),(3,(.pv (.int .i64 (IntKind.wrap IntKind.i64 ((↑(List.length (List.map enc l)):Int) - 1)))))] []):Ze V5 0 (Zb Vl G) Vi [] (Yk 21 [enc l]):=Ze.tp (.lit (.nil)) h (by kernel_rfl)
theorem Hd{G:PV->Prop}(l:List Str)(i:Int)(h:if (decide (i>0))=true then(decide (0<=i)&&decide (Int.toNat i<List.length (List.map enc l))&&Enc.sz Str==1)=true∧(∃ y0:Str,AV.pv (PV.rptr (PV.cells (List.getD (List.map enc l) (Int.toNat i) default)))=AV.pv (PV.rptr (PV.cells ((enc) y0)))∧((decide (0<=IntKind.wrap IntKind.i64 (i - 1))&&decide (Int.toNat (IntKind.wrap IntKind.i64 (i - 1))<List.length (List.map enc l))&&Enc.sz Str==1)=true∧(∃ y1:Str,AV.pv (PV.rptr (PV.cells (List.getD (List.map enc l) (Int.toNat (IntKind.wrap IntKind.i64 (i - 1))) default)))=AV.pv (PV.rptr (PV.cells ((enc) y1)))∧(∃ y2:Bool,AV.pv (Zj (fun(x:Str×Str×Unit)=>decide (Str.s x.1<Str.s x.2.1)) [(.str (PV.asStr (List.getD (PV.cells (enc y0)) 0 default))),(.str (PV.asStr (List.getD (PV.cells (enc y1)) 0 default)))])=AV.pv (enc y2)∧(if (y2)=true then G ((.bool false))else(At V5 0 (Zb Vl G) Vi 0 21 [(0,(.pv (.sl 1 false (List.map enc l)))),(3,(.pv (.int .i64 (IntKind.wrap IntKind.i64 (i - 1)))))] []))))))else(G ((.bool true)))):At V5 0 (Zb Vl G) Vi 0 21 [(0,.pv (enc l)),(3,.pv (.int .i64 i))] []:=At.tp (.lit (.ask (.req (.abs (Str) (fun YY=>AV.pv (PV.rptr (PV.cells ((enc) YY)))) (.lit (.lit (.req (.abs (Str) (fun YY=>AV.pv (PV.rptr (PV.cells ((enc) YY)))) (.lit (.lit (.abs (Bool) (fun YY=>AV.pv (enc YY)) (.ask (.nil) (.lit (.nil)))))))))))) (.nil))) h (by kernel_rfl)
def Uh:IC:=(Zh [Za 4 (.mv (Zy 0)) 0] (.seq (Zh [Za 9 (Zc 0) 0,Za 10 (.len 1 (.t 9)) 0,Za 11 (.mv (Zy 0)) 0] (.block 0 (.loop [11,10,9,1,0] (Zh [Za 12 (ZA .lss (.t 11) (.t 10)) 0] (.seq (.cond (.t 12) .skip (.exit 0)) (.seq (.block 1 (Zh [Za 13 (Zc 11) 0,Za 14 (.iaddr 1 (.t 9) (.t 11)) 0,Za 15 (.load false [.str] (.t 14)) 0,Za 5 (Zc 13) 0,Za 6 (Zc 15) 0] (.seq (Zh [Za 16 (Zc 5) 0,Za 17 (Zc 1) 0,Za 18 (.len 1 (.t 17)) 0,Za 19 (ZA .geq (.t 16) (.t 18)) 0] (.cond (.t 19) (Zh [Za 4 (.mv (Zy 1)) 0] .ret) .skip)) (Zh [Za 20 (Zc 1) 0,Za 21 (Zc 5) 0,Za 22 (.iaddr 1 (.t 20) (.t 21)) 0,Za 23 (.load false [.str] (.t 22)) 0,Za 7 (Zc 23) 0] (Zh [Za 24 (Zc 6) 0,Za 25 (Zc 7) 0,Za 26 (YT 245 [(.t 24),(.t 25)]) 0,Za 8 (Zc 26) 2] (Zh [Za 27 (Zc 8) 0,Za 28 (ZA .neq (.t 27) (Zy 0)) 0] (.cond (.t 28) (Zh [Za 29 (Zc 8) 0,Za 4 (Zc 29) 0] .ret) .skip))))))) (.reg [Za 30 (ZA .add (.t 11) (Zy 1)) 0,Za 11 (Zc 30) 0] none))))))) (.seq (Zh [Za 31 (Zc 0) 0,Za 32 (.len 1 (.t 31)) 0,Za 33 (Zc 1) 0,Za 34 (.len 1 (.t 33)) 0,Za 35 (ZA .lss (.t 32) (.t 34)) 0] (.cond (.t 35) (Zh [Za 4 (.mv (.c (.int .i64 (-1)))) 0] .ret) .skip)) (Zh [Za 4 (.mv (Zy 0)) 0] .ret))))
def VZ:List IRes:=[(.tmp 4)]
abbrev a8a:Nat:=36
def Qm:ZO:=Xc [(245,.pure (preT (fun _:Str×Str×Unit=>true)) (Zj (fun x:Str×Str×Unit=>Ty x.1 x.2.1)))]
theorem b6w{G:PV->Prop}(a b:List Str)(h:At Qm 0 (Zb VZ G) Uh 0 36 [(0,(.pv (.sl 1 false (List.map enc a)))),(1,(.pv (.sl 1 false (List.map enc b)))),(9,(.pv (.sl 1 false (List.map enc a)))),(10,(.pv (.int .i64 (↑(List.length (List.map enc a)):Int)))),(11,(.pv (.int .i64 0)))] []):Ze Qm 0 (Zb VZ G) Uh [] (Yk 36 [enc a,enc b]):=Ze.tp (.nil) h (by kernel_rfl)
theorem TQ{G:PV->Prop}(a b:List Str)(i:Int)(h:if (decide (i<(↑(List.length a):Int)))=true then(decide (0<=i)&&decide (Int.toNat i<List.length (List.map enc a))&&Enc.sz Str==1)=true∧(∃ y0:Str,AV.pv (PV.rptr (PV.cells (List.getD (List.map enc a) (Int.toNat i) default)))=AV.pv (PV.rptr (PV.cells ((enc) y0)))∧(if (decide (i ≥ (↑(List.length (List.map enc b)):Int)))=true then G ((.int .i64 1))else((decide (0<=i)&&decide (Int.toNat i<List.length (List.map enc b))&&Enc.sz Str==1)=true∧(∃ y1:Str,AV.pv (PV.rptr (PV.cells (List.getD (List.map enc b) (Int.toNat i) default)))=AV.pv (PV.rptr (PV.cells ((enc) y1)))∧(∃ y2:Int,AV.pv (Zj (fun(x:Str×Str×Unit)=>Ty x.1 x.2.1) [(.str (PV.asStr (List.getD (PV.cells (enc y0)) 0 default))),(.str (PV.asStr (List.getD (PV.cells (enc y1)) 0 default)))])=AV.pv (enc y2)∧(if (y2 != 0)=true then G ((.int .i64 y2))else(At Qm 0 (Zb VZ G) Uh 0 36 [(0,(.pv (.sl 1 false (List.map enc a)))),(1,(.pv (.sl 1 false (List.map enc b)))),(9,(.pv (.sl 1 false (List.map enc a)))),(10,(.pv (.int .i64 (↑(List.length a):Int)))),(11,(.pv (.int .i64 (IntKind.wrap IntKind.i64 (i+1)))))] [])))))))else(if (decide ((↑(List.length (List.map enc a)):Int)<(↑(List.length (List.map enc b)):Int)))=true then G ((.int .i64 (-1)))else(G ((.int .i64 0))))):At Qm 0 (Zb VZ G) Uh 0 36 [(0,.pv (enc a)),(1,.pv (enc b)),(9,.pv (enc a)),(10,.pv (.int .i64 a.length)),(11,.pv (.int .i64 i))] []:=At.tp (.lit (.ask (.req (.abs (Str) (fun YY=>AV.pv (PV.rptr (PV.cells ((enc) YY)))) (.lit (.lit (.ask (.nil) (.req (.abs (Str) (fun YY=>AV.pv (PV.rptr (PV.cells ((enc) YY)))) (.lit (.lit (.abs (Int) (fun YY=>AV.pv (enc YY)) (.lit (.ask (.nil) (.lit (.nil)))))))))))))) (.lit (.ask (.nil) (.nil))))) h (by kernel_rfl)
def Vr:IC:=(Zh [Za 2 (Xo false) 0] (.seq (Zh [Za 5 (Zc 0) 0,Za 6 (.len 1 (.t 5)) 0,Za 7 (.mv (Zy 0)) 0] (.block 0 (.loop [7,6,5,0] (Zh [Za 8 (ZA .lss (.t 7) (.t 6)) 0] (.seq (.cond (.t 8) .skip (.exit 0)) (.seq (.block 1 (Zh [Za 9 (Zc 7) 0,Za 10 (.iaddr 2 (.t 5) (.t 7)) 0,Za 11 (.load true [(.int .i64),(.sl 1)] (.t 10)) 0,Za 4 (.alloc (.agg [(.int .i64 0),(.sl 0 true [])])) 0,Za 3 (Zc 9) 1,Ui (.store 2 (.t 4) (.t 11)) 1] (.seq (Zh [Za 12 (.faddr 0 (.t 4)) 0,Za 13 (Yl [(.int .i64)] (.t 12)) 0,Za 14 (ZA .eql (.t 13) (Zy 0)) 0,Za 15 (Zc 14) 0,ZX 16 (.faddr 0 (.t 4)) 0 15,ZX 17 (Yl [(.int .i64)] (.t 16)) 0 15,ZX 18 (ZA .lss (.t 17) (.c (.int .i64 (-1099511627776)))) 0 15,Za 19 (.pick (.t 15) (.c (.bool true)) (.t 18)) 0,Za 20 (Zc 19) 0,ZX 21 (.faddr 0 (.t 4)) 0 20,ZX 22 (Yl [(.int .i64)] (.t 21)) 0 20,ZX 23 (ZA .gtr (.t 22) (Zy 1099511627776)) 0 20,Za 24 (.pick (.t 20) (.c (.bool true)) (.t 23)) 0,Za 25 (Zc 24) 0,ZX 26 (.faddr 1 (.t 4)) 0 25,ZX 27 (Yl [(.sl 1)] (.t 26)) 0 25,ZX 28 (.len 1 (.t 27)) 0 25,ZX 29 (ZA .gtr (.t 28) (Zy 8)) 0 25,Za 30 (.pick (.t 25) (.c (.bool true)) (.t 29)) 0,Za 31 (Zc 30) 0,ZX 32 (.faddr 1 (.t 4)) 0 31,ZX 33 (Yl [(.sl 1)] (.t 32)) 0 31,ZX 34 (YT 184 [(.t 33)]) 0 31,ZX 35 (.un .not (.t 34)) 2 31,Za 36 (.pick (.t 31) (.c (.bool true)) (.t 35)) 2] (.cond (.t 36) (Zh [Za 2 (Xo false) 0] .ret) .skip)) (.seq (Zh [Za 37 (.faddr 1 (.t 4)) 0,Za 38 (Yl [(.sl 1)] (.t 37)) 0,Za 39 (YT 175 [(.t 38),(.c (.fn 185))]) 0] (.cond (.t 39) (Zh [Za 2 (Xo false) 0] .ret) .skip)) (.seq (.reg [Za 40 (Zc 3) 0,Za 41 (ZA .gtr (.t 40) (Zy 0)) 0,Za 42 (Zc 41) 0,Z6 43 (Zc 0) 0 42,Z6 44 (Zc 3) 0 42,Z6 45 (ZA .sub (.t 44) (Zy 1)) 0 42,Z6 46 (.iaddr 2 (.t 43) (.t 45)) 0 42,Z6 47 (.faddr 1 (.t 46)) 0 42,Z6 48 (Yl [(.sl 1)] (.t 47)) 0 42,Z6 49 (.faddr 1 (.t 4)) 0 42,Z6 50 (Yl [(.sl 1)] (.t 49)) 0 42,Z6 51 (YT 186 [(.t 48),(.t 50)]) 0 42,Z6 52 (ZA .geq (.t 51) (Zy 0)) 2 42,Za 53 (.pick (.t 42) (.t 52) (.c (.bool false))) 2] (some [[],[0],[1,0],[2,1,0],[2,1,0],[4,2,1,0],[3,5,2,1,0,4],[6,2,3,5,1,0,4],[7,2,6,3,5,1,0,4],[2,1,0],[9,2,1,0],[8,10,2,7,6,3,5,1,0,4,9],[11,2,8,10,7,6,3,5,1,0,4,9],[2,12,1,0,11,8,10,7,6,3,5,4,9]])) (.cond (.t 53) (Zh [Za 2 (Xo false) 0] .ret) .skip)))))) (.reg [Za 54 (ZA .add (.t 7) (Zy 1)) 0,Za 7 (Zc 54) 0] none))))))) (Zh [Za 55 (Zc 0) 0,Za 56 (.len 1 (.t 55)) 0,Za 57 (ZA .leq (.t 56) (Zy 60)) 0,Za 2 (Zc 57) 0] .ret)))
def WB:List IRes:=[(.tmp 2)]
abbrev a5l:Nat:=58
def Vx:ZO:=Xc [(184,.pure (preT (fun x:List Str×Unit=>Zr x.1)) (Zj (fun x:List Str×Unit=>Q4 x.1))),(175,.pure (preT (fun x:List Str×FnV 185×Unit=>XX x.1)) (Zj (fun x:List Str×FnV 185×Unit=>x.1.any fun s:Str=> !(ZG s)))),(186,.pure (preT (fun x:List Str×List Str×Unit=>Zr x.1&&Zr x.2.1)) (Zj (fun x:List Str×List Str×Unit=>Du x.1 x.2.1)))]
theorem b4s{G:PV->Prop}(p:List Mono)(h:At Vx 0 (Zb WB G) Vr 0 58 [(0,(.pv (.sl 2 false (List.map enc p)))),(5,(.pv (.sl 2 false (List.map enc p)))),(6,(.pv (.int .i64 (↑(List.length (List.map enc p)):Int)))),(7,(.pv (.int .i64 0)))] []):Ze Vx 0 (Zb WB G) Vr [] (Yk 58 [enc p]):=Ze.tp (.nil) h (by kernel_rfl)
theorem TY{G:PV->Prop}(p:List Mono)(i:Int)(h:if (decide (i<(↑(List.length p):Int)))=true then(decide (0<=i)&&decide (Int.toNat i<List.length (List.map enc p))&&Enc.sz Mono==2)=true∧(∃ y0:Mono,AV.pv (PV.rptr (PV.cells (List.getD (List.map enc p) (Int.toNat i) default)))=AV.pv (PV.rptr (PV.cells ((enc) y0)))∧(if (PV.asInt (List.getD (PV.cells (enc y0)) 0 default)==0)=true then G ((.bool false))else(if (decide (PV.asInt (List.getD (PV.cells (enc y0)) 0 default)<(-1099511627776:Int)))=true then G ((.bool false))else(if (decide (PV.asInt (List.getD (PV.cells (enc y0)) 0 default)>1099511627776))=true then G ((.bool false))else(if (decide ((↑(List.length (PV.asXs (List.getD (PV.cells (enc y0)) (0+1) default))):Int)>8))=true then G ((.bool false))else((Go.Pl.preT (fun(x:List Str×Unit)=>Zr x.1) [(.sl 1 false (PV.asXs (List.getD (PV.cells (enc y0)) (0+1) default)))])=true∧(∃ y1:Bool,AV.pv (Zj (fun(x:List Str×Unit)=>Q4 x.1) [(.sl 1 false (PV.asXs (List.getD (PV.cells (enc y0)) (0+1) default)))])=AV.pv (enc y1)∧(if (!y1)=true then G ((.bool false))else((Go.Pl.preT (fun(x:List Str×FnV 185×Unit)=>XX x.1) [(.sl 1 false (PV.asXs (List.getD (PV.cells (enc y0)) (0+1) default))),(.fn 185)])=true∧(∃ y2:Bool,AV.pv (Zj (fun(x:List Str×FnV 185×Unit)=>List.any x.1 fun(s:Str)=> !ZG s) [(.sl 1 false (PV.asXs (List.getD (PV.cells (enc y0)) (0+1) default))),(.fn 185)])=AV.pv (enc y2)∧(if (y2)=true then G ((.bool false))else(if (decide (i>0))=true then(decide (0<=IntKind.wrap IntKind.i64 (i - 1))&&decide (Int.toNat (IntKind.wrap IntKind.i64 (i - 1))<List.length (List.map enc p))&&Enc.sz Mono==2)=true∧(∃ y3:Mono,AV.pv (PV.rptr (PV.cells (List.getD (List.map enc p) (Int.toNat (IntKind.wrap IntKind.i64 (i - 1))) default)))=AV.pv (PV.rptr (PV.cells ((enc) y3)))∧((Go.Pl.preT (fun(x:List Str×List Str×Unit)=>Zr x.1&&Zr x.2.1) [(.sl 1 false (PV.asXs (List.getD (List.drop 1 (PV.cells (enc y3))) 0 default))),(.sl 1 false (PV.asXs (List.getD (PV.cells (enc y0)) (0+1) default)))])=true∧(∃ y4:Int,AV.pv (Zj (fun(x:List Str×List Str×Unit)=>Du x.1 x.2.1) [(.sl 1 false (PV.asXs (List.getD (List.drop 1 (PV.cells (enc y3))) 0 default))),(.sl 1 false (PV.asXs (List.getD (PV.cells (enc y0)) (0+1) default)))])=AV.pv (enc y4)∧(if (decide (y4 ≥ 0))=true then G ((.bool false))else(At Vx 0 (Zb WB G) Vr 0 58 [(0,(.pv (.sl 2 false (List.map enc p)))),(5,(.pv (.sl 2 false (List.map enc p)))),(6,(.pv (.int .i64 (↑(List.length p):Int)))),(7,(.pv (.int .i64 (IntKind.wrap IntKind.i64 (i+1)))))] [])))))else(At Vx 0 (Zb WB G) Vr 0 58 [(0,(.pv (.sl 2 false (List.map enc p)))),(5,(.pv (.sl 2 false (List.map enc p)))),(6,(.pv (.int .i64 (↑(List.length p):Int)))),(7,(.pv (.int .i64 (IntKind.wrap IntKind.i64 (i+1)))))] [])))))))))))))else(G ((.bool (decide ((↑(List.length (List.map enc p)):Int)<=60)))))):At Vx 0 (Zb WB G) Vr 0 58 [(0,.pv (enc p)),(5,.pv (enc p)),(6,.pv (.int .i64 p.length)),(7,.pv (.int .i64 i))] []:=At.tp (.lit (.ask (.req (.abs (Mono) (fun YY=>AV.pv (PV.rptr (PV.cells ((enc) YY)))) (.lit (.lit (.ask (.lit (.lit (.lit (.lit (.lit (.lit (.lit (.lit (.lit (.lit (.lit (.lit (.lit (.lit (.lit (.lit (.lit (.lit (.nil))))))))))))))))))) (.lit (.lit (.lit (.lit (.ask (.lit (.lit (.lit (.lit (.lit (.lit (.lit (.lit (.lit (.lit (.lit (.lit (.lit (.lit (.nil))))))))))))))) (.lit (.lit (.lit (.lit (.ask (.lit (.lit (.lit (.lit (.lit (.lit (.lit (.lit (.lit (.lit (.nil))))))))))) (.lit (.lit (.lit (.lit (.lit (.ask (.lit (.lit (.lit (.lit (.lit (.nil)))))) (.lit (.lit (.req (.abs (Bool) (fun YY=>AV.pv (enc YY)) (.lit (.lit (.ask (.nil) (.req (.abs (Bool) (fun YY=>AV.pv (enc YY)) (.ask (.nil) (.lit (.ask (.lit (.lit (.lit (.lit (.req (.abs (Mono) (fun YY=>AV.pv (PV.rptr (PV.cells ((enc) YY)))) (.lit (.lit (.lit (.lit (.lit (.lit (.req (.abs (Int) (fun YY=>AV.pv (enc YY)) (.lit (.lit (.lit (.ask (.nil) (.lit (.nil)))))))))))))))))))) (.lit (.lit (.lit (.lit (.lit (.lit (.lit (.lit (.lit (.lit (.lit (.lit (.nil)))))))))))))))))))))))))))))))))))))))))))))) (.lit (.nil)))) h (by kernel_rfl)
end Go.Pl
namespace Go.Pl
open Go.RowKit
open Enc (enc dec is)
open EncL (encL decL isL)
theorem b0s: ∀ x:Str×Unit,decide (x.1.s.length<=281474976710656)=true->Ze OP 0 (Zb NB (Zi (!(ZG x.1)))) Nl [] (Yk b9s (encL x)):=by
 rintro⟨⟨s⟩,⟨⟩⟩ h
 exact c8i s ⟨Zl (⟨s⟩,()) rfl h,Zk (⟨s⟩,()) rfl (ZL rfl)⟩
theorem b7o(l:List Str)(hs : ∀ s∈l,decide (s.s.length<=281474976710656)=true)(hl:l.length<=9223372036854775807): ∀ (m i:Nat),m+i=l.length->(∀ j (h:j<l.length),j<i->(!(ZG l[j]))=false) ->
  At BG 0 (Zb J8 (Zi (ZI (fun s:Str=> !(ZG s)) l))) Ha 0 19 [(0,.pv (enc l)),(1,.pv (.fn 185)),(7,.pv (.int .i64 l.length)),(8,.pv (.int .i64 i))] []:=by
 intro m
 induction m with
 | zero=>
  intro i hi hno
  refine b6e l i (ZR (Yd (by omega)) (VQ ?_))
  rw[Qz _ _ (fun j hj=>hno j hj (by omega))]
 | succ m ih=>
  intro i hi hno
  have hlt:i<l.length:=by omega
  refine b6e l i (ZN (Z8 hlt) ⟨Zu hlt rfl,ZB hlt ⟨Zl (l[i],()) rfl (hs _ (List.getElem_mem hlt)),Zk (l[i],()) rfl (XT (fun hb=> ?_) fun hb=> ?_)⟩⟩)
  ·exact VQ (QC (fun s:Str=> !(ZG s)) l i hlt hno hb).symm
  ·rw[next (by omega)]
   refine ih (i+1) (by omega) fun j hj hji=> ?_
   by_cases e:j=i
   ·subst e;exact hb
   ·exact hno j hj (by omega)
theorem c3q: ∀ a:List Str×FnV 185×Unit,XX a.1=true->Ze BG 0 (Zb J8 (Zi (ZI (fun s:Str=> !(ZG s)) a.1))) Ha [] (Yk c8c (encL a)):=by
 rintro⟨l,g,⟨⟩⟩ h
 have h':=h
 simp only[XX,Bool.and_eq_true,List.all_eq_true]at h'
 refine d2d l ?_
 rw[List.length_map]
 exact b7o l h'.2 (ZF.1 h'.1) l.length 0 (by omega) (fun j hj h=>by omega)
theorem c4w: ∀ a:List Str×FnV 185×Unit,XX a.1=true->Ze b4p 0 (Zb O7 (Zi (a.1.any fun s:Str=> !(ZG s)))) a1x [] (Yk c5y (encL a)):=by
 rintro⟨l,g,⟨⟩⟩ h
 exact d0h l ⟨Zl (l,{},()) rfl h,Zk (l,{},()) rfl (ZL (Wi _ _))⟩
theorem b8j: ∀ a:Str×Unit,(fun _:Str×Unit=>true) a=true->Ze EH 0 (Zb P8 (Zi (false:Bool))) Nk [] (Yk c1v (encL a)):=by
 rintro⟨⟨s⟩,⟨⟩⟩ _
 exact c9l s (ZL (by simp))
theorem a7t: ∀ a:Str×Str×Unit,(fun _:Str×Str×Unit=>true) a=true->Ze N9 0 (Zb BH (Zi (decide (a.1.s<a.2.1.s)))) AC [] (Yk b2b (encL a)):=by
 rintro⟨⟨s⟩,⟨t⟩,⟨⟩⟩ _
 exact c4b s t (Zk (⟨s⟩,()) rfl (ZR (by simp) (ZL (Yr s t))))
theorem b1q: ∀ a:Str×Str×Unit,(fun _:Str×Str×Unit=>true) a=true->Ze a0f 0 (Zb NM (Zi (Ty a.1 a.2.1))) Nv [] (Yk c1j (encL a)):=by
 rintro⟨⟨s⟩,⟨t⟩,⟨⟩⟩ _
 refine c5p s t (Zk (⟨s⟩,()) rfl (Zk (⟨t⟩,()) rfl (ZR (by simp) (ZR (by simp) ?_))))
 show if (Op.bytesLess s t)=true then Zi (Ty ⟨s⟩ ⟨t⟩) _ else if (!(Op.bytesLess s t||s==t))=true then Zi (Ty ⟨s⟩ ⟨t⟩) _ else Zi (Ty ⟨s⟩ ⟨t⟩) _
 rw[Yr]
 unfold Ty
 by_cases h1:s<t
 ·rw[decide_eq_true h1,if_pos rfl,if_pos h1];exact VQ rfl
 ·rw[decide_eq_false h1,if_neg (by simp),if_neg h1]
  by_cases h2:s=t
  ·subst h2
   rw[if_neg (by simp),if_neg h1];exact VQ rfl
  ·have h3:t<s:=by
    rcases List.le_total s t with h|h
    ·exact absurd (Std.lt_of_le_of_ne h h2) h1
    ·exact Std.lt_of_le_of_ne h (Ne.symm h2)
   rw[if_pos (by simp[h2]),if_pos h3];exact VQ rfl
theorem b1y(l:List Str):Q4 l=true ↔ ∀ i (h:i+1<l.length),¬ l[i+1].s<l[i].s:=by
 induction l with
 | nil=>simp[Q4]
 | cons x l ih=>
  cases l with
  | nil=>simp[Q4]
  | cons y r=>
   rw[Q4,Bool.and_eq_true,ih]
   constructor
   ·rintro⟨h1,h2⟩ i hi
    cases i with
    | zero=>simpa using h1
    | succ i=>exact h2 i (by simpa using hi)
   ·intro h
    exact⟨by simpa using h 0 (by simp),fun i hi=>h (i+1) (by simpa using hi)⟩
theorem NF(l:List Str)(hl:l.length<=9223372036854775807): ∀ (i:Nat),i<l.length->(∀ j (h:j+1<l.length),i<=j-> ¬ l[j+1].s<l[j].s) ->
  At V5 0 (Zb Vl (Zi (Q4 l))) Vi 0 21 [(0,.pv (enc l)),(3,.pv (.int .i64 i))] []:=by
 intro i
 induction i with
 | zero=>
  intro hi hok
  refine Hd l ((0:Nat):Int) (ZR (by decide) (ZL ?_))
  exact((b1y l).2 fun j hj=>hok j hj (Nat.zero_le _)).symm
 | succ i ih=>
  intro hi hok
  have hi2:i<l.length:=by omega
  have e:((i+1:Nat):Int) - 1=(i:Int):=by omega
  have hw:IntKind.i64.wrap (((i+1:Nat):Int) - 1)=(i:Int):=by rw[e];exact X0 (by omega) (by omega)
  refine Hd l ((i+1:Nat):Int) (ZN (by simp) ⟨Zu hi rfl,ZB hi ?_⟩)
  rw[hw]
  refine⟨Zu hi2 rfl,ZB hi2 (Zk (l[i+1],l[i],()) rfl (XT (fun h=>ZL ?_) fun h=>ih hi2 fun j hj hij=> ?_))⟩
  ·have h:l[i+1].s<l[i].s:=of_decide_eq_true h
   cases hc:Q4 l
   ·rfl
   ·exact absurd h ((b1y l).1 hc i hi)
  ·have h : ¬ l[i+1].s<l[i].s:=of_decide_eq_false h
   by_cases ej:j=i
   ·subst ej;exact h
   ·exact hok j hj (by omega)
theorem LH: ∀ a:List Str×Unit,Zr a.1=true->Ze V5 0 (Zb Vl (Zi (Q4 a.1))) Vi [] (Yk a1v (encL a)):=by
 rintro⟨l,⟨⟩⟩ h
 have hl:=ZF.1 h
 refine a8g l ?_
 rw[List.length_map]
 cases hc:l with
 | nil=>
  refine Hd [] _ (ZR (by decide) (ZL rfl))
 | cons x r=>
  have hw:IntKind.i64.wrap (((x::r).length:Int) - 1)=((r.length:Nat):Int):=by
   rw[List.length_cons]
   rw[hc,List.length_cons]at hl
   rw[show((r.length+1:Nat):Int) - 1=(r.length:Int) by omega]
   exact X0 (by omega) (by omega)
  rw[hw]
  exact NF (x::r) (by rw[<- hc];exact hl) r.length (by simp) (fun j hj h=>by simp at hj;omega)
theorem F4(a b:List Str)(ha:a.length<=9223372036854775807)(hb:b.length<=9223372036854775807): ∀ (k i:Nat),k+i=a.length->i<=b.length ->
  At Qm 0 (Zb VZ (Zi (Du (a.drop i) (b.drop i)))) Uh 0 36 [(0,.pv (enc a)),(1,.pv (enc b)),(9,.pv (enc a)),(10,.pv (.int .i64 a.length)),(11,.pv (.int .i64 i))] []:=by
 intro k
 induction k with
 | zero=>
  intro i hi hib
  rw[List.drop_of_length_le (show a.length<=i by omega)]
  refine TQ a b i (ZR (Yd (by omega)) ?_)
  simp only[List.length_map]
  refine XQ (fun h=> ?_) fun h=> ?_
  ·rw[List.drop_eq_getElem_cons (show i<b.length by omega)]
   exact VQ rfl
  ·rw[List.drop_of_length_le (show b.length<=i by omega)]
   exact VQ rfl
 | succ k ih=>
  intro i hi hib
  have hlt:i<a.length:=by omega
  rw[List.drop_eq_getElem_cons hlt]
  refine TQ a b i (ZN (Z8 hlt) ⟨Zu hlt rfl,ZB hlt ?_⟩)
  simp only[List.length_map]
  refine XQ (fun h=> ?_) fun h=> ?_
  ·rw[List.drop_of_length_le (show b.length<=i by omega)]
   exact VQ rfl
  ·have hlt2:i<b.length:=by omega
   have h1:=ih (i+1) (by omega) (by omega)
   rw[List.drop_eq_getElem_cons hlt2]
   refine⟨by simp[hlt2],ZB hlt2 (Zk (a[i],b[i],()) rfl ?_)⟩
   show if (Ty a[i] b[i] != 0)=true then _ else _
   unfold Du Ty
   by_cases q1:a[i].s<b[i].s
   ·rw[if_pos q1,if_pos (by simp),if_pos q1];exact VQ rfl
   ·rw[if_neg q1,if_neg q1]
    by_cases q2:b[i].s<a[i].s
    ·rw[if_pos q2,if_pos (by simp),if_pos q2];exact VQ rfl
    ·rw[if_neg q2,if_neg (by simp),if_neg q2,next (by omega)]
     exact h1
theorem ER: ∀ x:List Str×List Str×Unit,(Zr x.1&&Zr x.2.1)=true->Ze Qm 0 (Zb VZ (Zi (Du x.1 x.2.1))) Uh [] (Yk a8a (encL x)):=by
 rintro⟨a,b,⟨⟩⟩ h
 simp only[Bool.and_eq_true]at h
 refine b6w a b ?_
 rw[List.length_map]
 exact F4 a b (ZF.1 h.1) (ZF.1 h.2) a.length 0 (by omega) (Nat.zero_le _)
theorem BM: ∀ a b:List Str,Du a b<0 ↔ Xz a b<0
 | [],[]=>by decide
 | [],y::b=>by
  have e1:Du [] (y::b) = -1:=rfl
  have e2:Xz [] (y::b) = -((y::b).length:Int):=rfl
  rw[e1,e2,List.length_cons];omega
 | x::a,[]=>by
  have e1:Du (x::a) []=1:=rfl
  have e2:Xz (x::a) []=((x::a).length:Int):=rfl
  rw[e1,e2];omega
 | x::a,y::b=>by
  rw[Du,Xz]
  split
  ·exact Iff.rfl
  ·split
   ·exact Iff.rfl
   ·exact BM a b
def pvL:Option Mono->List Mono->Bool
 | _,[]=>true
 | o,m::r=>Y0 m&&(match o with|none=>true|some q=>decide (Xz q.v m.v<0))&&pvL (some m) r
theorem b2k(o:Option Mono)(m:Mono)(r:List Mono):pvL o (m::r)=(Y0 m&&(match o with|none=>true|some q=>decide (Xz q.v m.v<0))&&pvL (some m) r):=by cases o <;> rfl
theorem Oh: ∀ (l:List Mono) (q:Mono),pvL (some q) l=(l.all Y0&&CR (q::l))
 | [],q=>rfl
 | m::r,q=>by
  rw[pvL,Oh r m,CR,List.all_cons]
  cases Y0 m <;> cases decide (Xz q.v m.v<0) <;> cases r.all Y0 <;> cases CR (m::r) <;> rfl
theorem b5s(l:List Mono):(pvL none l&&decide (l.length<=60))=ZJ l:=by
 unfold ZJ
 cases l with
 | nil=>rfl
 | cons m r=>
  rw[pvL,Oh,List.all_cons,Bool.and_true]
  cases Y0 m <;> cases decide ((m::r).length<=60) <;> cases r.all Y0 <;> cases CR (m::r) <;> rfl
def LV(p:List Mono):Nat->Option Mono
 | 0=>none
 | i+1=>p[i]?
theorem FB(p:List Mono)(hp:Yo p=true): ∀ (k i:Nat),k+i=p.length ->
  At Vx 0 (Zb WB (Zi (pvL (LV p i) (p.drop i)&&decide (p.length<=60)))) Vr 0 58 [(0,.pv (enc p)),(5,.pv (enc p)),(6,.pv (.int .i64 p.length)),(7,.pv (.int .i64 i))] []:=by
 simp only[Yo,Bool.and_eq_true,List.all_eq_true]at hp
 have hl:=ZF.1 hp.1
 intro k
 induction k with
 | zero=>
  intro i hi
  rw[List.drop_of_length_le (by omega)]
  refine TY p i (ZR (Yd (by omega)) (ZL ?_))
  rw[List.length_map,pvL,Bool.true_and]
  exact decide_eq_decide.2 (by omega)
 | succ k ih=>
  intro i hi
  have hlt:i<p.length:=by omega
  have hm:=hp.2 _ (List.getElem_mem hlt)
  have hml:Zr p[i].v=true:=by
   simp only[XX,Bool.and_eq_true]at hm
   exact hm.1
  have h1:=ih (i+1) (by omega)
  have hpr:LV p (i+1)=some p[i]:=List.getElem?_eq_getElem hlt
  rw[hpr]at h1
  rw[List.drop_eq_getElem_cons hlt,b2k]
  have bad:Y0 p[i]=false->Zi (Y0 p[i]&&(match LV p i with|none=>true|some q=>decide (Xz q.v p[i].v<0))&&pvL (some p[i]) (p.drop (i+1))&&decide (p.length<=60)) (.bool false):=fun h=>ZL (by rw[h];simp)
  apply TY (G:=Zi (Y0 p[i]&&(match LV p i with|none=>true|some q=>decide (Xz q.v p[i].v<0))&&pvL (some p[i]) (p.drop (i+1))&&decide (p.length<=60))) p i
  apply ZN (Z8 hlt)
  refine⟨Zu hlt rfl,ZB hlt (Kb (fun h=>bad ?_) fun h2=>XQ (fun h=>bad ?_) fun h3=>XQ (fun h=>bad ?_) fun h4=>XQ (fun h=>bad ?_) fun h5=>⟨Zl (p[i].v,()) rfl hml,Zk (p[i].v,()) rfl (XU (fun h=>bad ?_) fun h6=>⟨Zl (p[i].v,{},()) rfl hm,Zk (p[i].v,{},()) rfl (XT (fun h=>bad ?_) fun h7=> ?_)⟩)⟩)⟩
  ·have h:p[i].c=0:=h
   simp[Y0,h]
  ·have h:p[i].c < -1099511627776:=h
   unfold Y0
   rw[decide_eq_false (show ¬ -1099511627776<=p[i].c by omega)];simp
  ·have h:p[i].c>1099511627776:=h
   unfold Y0
   rw[decide_eq_false (show ¬ p[i].c<=1099511627776 by omega)];simp
  ·have h:((p[i].v.map (enc:Str->PV)).length:Int)>8:=h
   rw[List.length_map]at h
   unfold Y0
   rw[decide_eq_false (show ¬ p[i].v.length<=8 by omega)];simp
  ·have h:Q4 p[i].v=false:=h
   simp[Y0,h]
  ·have h:(p[i].v.any fun s=> !(ZG s))=true:=h
   have h2:p[i].v.all ZG=false:=by
    rw[<- Bool.not_eq_true]
    intro h3
    obtain⟨s,hs,h4⟩:=List.any_eq_true.1 h
    rw[List.all_eq_true.1 h3 s hs]at h4
    cases h4
   unfold Y0
   rw[h2];simp
  ·have hok:Y0 p[i]=true:=by
    have h2 : ¬ p[i].c=0:=h2
    have h3 : ¬ p[i].c < -1099511627776:=h3
    have h4 : ¬ p[i].c>1099511627776:=h4
    have h5 : ¬ ((p[i].v.map (enc:Str->PV)).length:Int)>8:=h5
    rw[List.length_map]at h5
    have h6:Q4 p[i].v=true:=h6
    have h7:(p[i].v.any fun s=> !(ZG s))=false:=h7
    have h8:p[i].v.all ZG=true:=by
     rw[List.all_eq_true]
     intro s hs
     cases hn:ZG s
     ·rw[<- Bool.not_eq_true]at h7
      exact absurd (List.any_eq_true.2 ⟨s,hs,by rw[hn];rfl⟩) h7
     ·rfl
    unfold Y0
    rw[decide_eq_true h2,decide_eq_true (show -1099511627776<=p[i].c by omega),decide_eq_true (show p[i].c<=1099511627776 by omega),decide_eq_true (show p[i].v.length<=8 by omega),h6,h8]
    rfl
   rw[hok,Bool.true_and]
   cases i with
   | zero=>
    refine ZR (by decide) ?_
    rw[next (by omega)]
    exact h1
   | succ j=>
    have hj:j<p.length:=by omega
    have e:((j+1:Nat):Int) - 1=(j:Int):=by omega
    have hw:IntKind.i64.wrap (((j+1:Nat):Int) - 1)=(j:Int):=by rw[e];exact X0 (by omega) (by omega)
    have hprev:LV p (j+1)=some p[j]:=List.getElem?_eq_getElem hj
    rw[hprev]
    have hjl:Zr p[j].v=true:=by
     have:=hp.2 _ (List.getElem_mem hj)
     simp only[XX,Bool.and_eq_true]at this
     exact this.1
    refine ZN (by simp) ?_
    rw[hw]
    refine⟨Zu hj rfl,ZB hj ⟨Zl (p[j].v,p[j+1].v,()) rfl (by show(Zr p[j].v&&Zr p[j+1].v)=true;rw[hjl,hml];rfl),Zk (p[j].v,p[j+1].v,()) rfl (XQ (fun h=> ?_) fun h=> ?_)⟩⟩
    ·have h:Du p[j].v p[j+1].v ≥ 0:=h
     have : ¬ Xz p[j].v p[j+1].v<0:=fun h2=>by have:=(BM _ _).2 h2;omega
     exact ZL (by simp[this])
    ·have h : ¬ Du p[j].v p[j+1].v ≥ 0:=h
     have:Xz p[j].v p[j+1].v<0:=(BM _ _).1 (by omega)
     show At Vx 0 (Zb WB (Zi (decide (Xz p[j].v p[j+1].v<0)&&_&&_))) _ _ _ _ _
     rw[decide_eq_true this,Bool.true_and,next (by omega)]
     exact h1
theorem Ez: ∀ x:List Mono×Unit,Yo x.1=true->Ze Vx 0 (Zb WB (Zi (ZJ x.1))) Vr [] (Yk a5l (encL x)):=by
 rintro⟨p,⟨⟩⟩ h
 refine b4s p ?_
 rw[List.length_map,<- b5s]
 exact FB p h p.length 0 (by omega)
end Go.Pl
namespace Go.Pl
open Go.RowKit
open Enc (enc dec is)
open EncL (encL decL isL)
set_option maxRecDepth 100000
def XC:IC:=(Zh [Za 2 (.mv (.c (.sl 0 true []))) 0] (.seq (Zh [Za 6 (Zc 0) 0,Za 7 (YT 122 [(.t 6)]) 0,Za 8 (.un .not (.t 7)) 2] (.cond (.t 8) (Zh [Za 2 (.mv (.c (.sl 0 true []))) 0] .ret) .skip)) (Zh [Za 3 (.mv (.c (.sl 0 true []))) 0] (.seq (Zh [Za 9 (Zc 0) 0,Za 10 (.len 1 (.t 9)) 0,Za 11 (.mv (Zy 0)) 0] (.block 0 (.loop [11,10,9,3] (Zh [Za 12 (ZA .lss (.t 11) (.t 10)) 0] (.seq (.cond (.t 12) .skip (.exit 0)) (.seq (.block 1 (Zh [Za 13 (.iaddr 2 (.t 9) (.t 11)) 0,Za 14 (.load true [(.int .i64),(.sl 1)] (.t 13)) 0,Za 5 (.alloc (.agg [(.int .i64 0),(.sl 0 true [])])) 0,Ui (.store 2 (.t 5) (.t 14)) 1] (.reg [Za 15 (Zc 3) 0,Za 16 (.faddr 1 (.t 5)) 0,Za 17 (Yl [(.sl 1)] (.t 16)) 0,Za 18 (.append 9 1 16 (.t 15) (.t 17)) 0,Za 3 (Zc 18) 1] none))) (.reg [Za 19 (ZA .add (.t 11) (Zy 1)) 0,Za 11 (Zc 19) 0] none))))))) (Zh [Za 20 (Zc 3) 0,Za 21 (YT 154 [(.t 20)]) 0] (Zh [Za 22 (Zc 3) 0,Za 23 (YT 187 [(.t 22)]) 0,Za 2 (Zc 23) 2] .ret))))))
def Xy:List IRes:=[(.tmp 2)]
abbrev Sk:Nat:=24
def Wl:ZO:=Xc [(122,.pure (preT (fun x:List Mono×Unit=>Yo x.1)) (Zj (fun x:List Mono×Unit=>ZJ x.1))),(154,.own Wh Kg),(187,.own Wh QZ)]
theorem a4u{G:AV×List AObj×List AObj->Prop}(p:List Mono)(h:(Go.Pl.preT (fun(x:List Mono×Unit)=>Yo x.1) [(.sl 2 false (List.map enc p))])=true∧(∃ y0:Bool,AV.pv (Zj (fun(x:List Mono×Unit)=>ZJ x.1) [(.sl 2 false (List.map enc p))])=AV.pv (enc y0)∧(if (!y0)=true then G (((.pv (.sl 0 true [])),([],[])))else(At Wl 0 (Zt 0 Xy G) XC 0 24 [(3,(.pv (.sl 0 true []))),(9,(.pv (.sl 2 false (List.map enc p)))),(10,(.pv (.int .i64 (↑(List.length (List.map enc p)):Int)))),(11,(.pv (.int .i64 0)))] [])))):Ze Wl 0 (Zt 0 Xy G) XC [] (YV 24 [.pv (enc p)] []):=Ze.to (.req (.abs (Bool) (fun YY=>AV.pv (enc YY)) (.ask (.nil) (.nil)))) h (by kernel_rfl)
theorem RB{G:AV×List AObj×List AObj->Prop}(p:List Mono)(i:Int)(h:if (decide (i<(↑(List.length p):Int)))=true then(decide (0<=i)&&decide (Int.toNat i<List.length (List.map enc p))&&Enc.sz Mono==2)=true∧(∃ y0:Mono,AV.pv (PV.rptr (PV.cells (List.getD (List.map enc p) (Int.toNat i) default)))=AV.pv (PV.rptr (PV.cells ((enc) y0)))∧((List.isEmpty (PV.asXs (List.getD (PV.cells (enc y0)) (0+1) default))||1==1)=true∧(if (List.isEmpty (PV.asXs (List.getD (PV.cells (enc y0)) (0+1) default)))=true then At Wl 0 (Zt 0 Xy G) XC 0 24 [(3,(.pv (.sl 0 true []))),(9,(.pv (.sl 2 false (List.map enc p)))),(10,(.pv (.int .i64 (↑(List.length p):Int)))),(11,(.pv (.int .i64 (IntKind.wrap IntKind.i64 (i+1)))))] []else(((List.isEmpty ([]:List PV)||0==1)&&decide ((List.length ([]:List PV)+List.length (PV.asXs (List.getD (PV.cells (enc y0)) (0+1) default)))*16<=1099511627776)&&decide (List.length ([]:List PV)+List.length (PV.asXs (List.getD (PV.cells (enc y0)) (0+1) default))<=1099511627776))=true∧(At Wl 0 (Zt 0 Xy G) XC 0 24 [(3,(.row 0 (List.length ([]:List PV)+List.length (PV.asXs (List.getD (PV.cells (enc y0)) (0+1) default))) 0 (List.length ([]:List PV)+List.length (PV.asXs (List.getD (PV.cells (enc y0)) (0+1) default))))),(9,(.pv (.sl 2 false (List.map enc p)))),(10,(.pv (.int .i64 (↑(List.length p):Int)))),(11,(.pv (.int .i64 (IntKind.wrap IntKind.i64 (i+1)))))] [(.obj (.row false 9 1 (([]:List PV)++PV.asXs (List.getD (PV.cells (enc y0)) (0+1) default))))])))))else(G (((.pv (.sl 0 true [])),([],[]))))):At Wl 0 (Zt 0 Xy G) XC 0 24 [(3,.pv (.sl 0 true [])),(9,.pv (enc p)),(10,.pv (.int .i64 p.length)),(11,.pv (.int .i64 i))] []:=At.to (.lit (.ask (.req (.abs (Mono) (fun YY=>AV.pv (PV.rptr (PV.cells ((enc) YY)))) (.lit (.req (.lit (.ask (.lit (.nil)) (.req (.lit (.nil))))))))) (.lit (.keep (.lit (.keep (.nil))))))) h (by kernel_rfl)
theorem R6{G:AV×List AObj×List AObj->Prop}(p:List Mono)(i:Int)(q:Nat)(xs:List Str)(h:if (decide (i<(↑(List.length p):Int)))=true then(decide (0<=i)&&decide (Int.toNat i<List.length (List.map enc p))&&Enc.sz Mono==2)=true∧(∃ y0:Mono,AV.pv (PV.rptr (PV.cells (List.getD (List.map enc p) (Int.toNat i) default)))=AV.pv (PV.rptr (PV.cells ((enc) y0)))∧((List.isEmpty (PV.asXs (List.getD (PV.cells (enc y0)) (0+1) default))||1==1)=true∧((List.length (List.map enc xs)==q&&q==q&&decide ((q+List.length (PV.asXs (List.getD (PV.cells (enc y0)) (0+1) default)))*16<=1099511627776)&&decide (q+List.length (PV.asXs (List.getD (PV.cells (enc y0)) (0+1) default))<=1099511627776))=true∧(At Wl 0 (Zt 0 Xy G) XC 0 24 [(3,(.row 0 (q+List.length (PV.asXs (List.getD (PV.cells (enc y0)) (0+1) default))) 0 (q+List.length (PV.asXs (List.getD (PV.cells (enc y0)) (0+1) default))))),(9,(.pv (.sl 2 false (List.map enc p)))),(10,(.pv (.int .i64 (↑(List.length p):Int)))),(11,(.pv (.int .i64 (IntKind.wrap IntKind.i64 (i+1)))))] [(.obj (.row false 9 1 (List.map enc xs++PV.asXs (List.getD (PV.cells (enc y0)) (0+1) default))))]))))else((Wh [(.row 0 q 0 q)] [(.row false 9 1 (List.map enc xs))])=true∧((Wh [(.row 0 q 0 q)] [(.row false 9 1 (List.map PV.str (WR (List.map U9 (List.map enc xs)))))])=true∧(G (((.row 0 q 0 (List.length (Lib.compact (List.map U9 (List.map PV.str (WR (List.map U9 (List.map enc xs)))))))),([],[(.row false 9 1 (List.map PV.str (VW (List.map U9 (List.map PV.str (WR (List.map U9 (List.map enc xs))))))))]))))))):At Wl 0 (Zt 0 Xy G) XC 0 24 [(3,.row 0 q 0 q),(9,.pv (enc p)),(10,.pv (.int .i64 p.length)),(11,.pv (.int .i64 i))] [.obj (.row false 9 1 (xs.map enc))]:=At.to (.lit (.ask (.req (.abs (Mono) (fun YY=>AV.pv (PV.rptr (PV.cells ((enc) YY)))) (.lit (.req (.req (.lit (.nil))))))) (.req (.keep (.req (.keep (.nil))))))) h (by kernel_rfl)
def a0m:IC:=(Zh [Za 2 (.box 2 (.t 0)) 0,Za 3 (Xo false) 1] (Zh [Za 4 (.faddr 0 (.t 2)) 0,Za 5 (.load false [.str] (.t 4)) 0,Za 6 (.load false [.str] (.t 1)) 0,Za 7 (ZA .eql (.t 5) (.t 6)) 0,Za 3 (Zc 7) 0] .ret))
def OZ:List IRes:=[(.tmp 3)]
abbrev c6i:Nat:=8
def b3s:ZO:=Xc []
theorem d1l{G:AV×List AObj×List AObj->Prop}(x:Coef)(v:List UInt8)(h:G (((.pv (.bool (Str.s x.v==v))),([(.box [(.pv (.str v))])],[])))):Ze b3s 1 (Zt 1 OZ G) a0m [] (YV 8 [.pv (enc x),.ptr 0 0] [.box [.pv (.str v)]]):=Ze.to (.lit (.nil)) h (by kernel_rfl)
def J4:IC:=KO
def HV:List IRes:=[(.tmp 4)]
abbrev c9o:Nat:=19
def SX:ZO:=Xc [(188,.own Gv Be)]
theorem d1s{G:AV×List AObj×List AObj->Prop}(l:List Coef)(v:List UInt8)(h:At SX 1 (Zt 1 HV G) J4 0 19 [(0,(.pv (.sl 2 false (List.map enc l)))),(1,(.fn 188 [] [(.ptr 0 0)])),(7,(.pv (.int .i64 (↑(List.length (List.map enc l)):Int)))),(8,(.pv (.int .i64 0)))] [(.obj (.box [(.pv (.str v))]))]):Ze SX 1 (Zt 1 HV G) J4 [] (YV 19 [.pv (enc l),.fn 188 [] [.ptr 0 0]] [.box [.pv (.str v)]]):=Ze.to (.nil) h (by kernel_rfl)
theorem b4x{G:AV×List AObj×List AObj->Prop}(l:List Coef)(v:List UInt8)(i:Int)(h:if (decide (i<(↑(List.length l):Int)))=true then(decide (0<=i)&&decide (Int.toNat i<List.length (List.map enc l))&&Enc.sz Coef==2)=true∧(∃ y0:Coef,AV.pv (PV.rptr (PV.cells (List.getD (List.map enc l) (Int.toNat i) default)))=AV.pv (PV.rptr (PV.cells ((enc) y0)))∧((Gv [(.pv (.agg [(.str (PV.asStr (List.getD (PV.cells (enc y0)) 0 default))),(.int .i64 (PV.asInt (List.getD (PV.cells (enc y0)) (0+1) default)))])),(.ptr 0 0)] [(.box [(.pv (.str v))])])=true∧(if (Str.s (Coef.v (dec (PV.agg (VT (PV.cells (enc y0)) 0 [Sh.str,Sh.int .i64]))))==v)=true then G (((.pv (.int .i64 i)),([(.box [(.pv (.str v))])],[])))else(At SX 1 (Zt 1 HV G) J4 0 19 [(0,(.pv (.sl 2 false (List.map enc l)))),(1,(.fn 188 [] [(.ptr 0 0)])),(7,(.pv (.int .i64 (↑(List.length l):Int)))),(8,(.pv (.int .i64 (IntKind.wrap IntKind.i64 (i+1)))))] [(.obj (.box [(.pv (.str v))]))]))))else(G (((.pv (.int .i64 (-1))),([(.box [(.pv (.str v))])],[]))))):At SX 1 (Zt 1 HV G) J4 0 19 [(0,.pv (enc l)),(1,.fn 188 [] [.ptr 0 0]),(7,.pv (.int .i64 l.length)),(8,.pv (.int .i64 i))] [.obj (.box [.pv (.str v)])]:=At.to (.lit (.ask (.req (.abs (Coef) (fun YY=>AV.pv (PV.rptr (PV.cells ((enc) YY)))) (.lit (.req (.keep (.ask (.nil) (.lit (.nil)))))))) (.nil))) h (by kernel_rfl)
def Kn:IC:=(Zh [Za 4 (.mv (Zy 0)) 0] (.seq (Zh [Za 6 (Zc 0) 0,Za 7 (.len 1 (.t 6)) 0,Za 8 (.mv (Zy 0)) 0] (.block 0 (.loop [8,7,1,0] (Zh [Za 9 (ZA .lss (.t 8) (.t 7)) 0] (.seq (.cond (.t 9) .skip (.exit 0)) (.seq (.block 1 (Zh [Za 10 (Zc 8) 0,Za 5 (Zc 10) 0] (Zh [Za 11 (Zc 1) 0,Za 12 (Zc 0) 0,Za 13 (Zc 5) 0,Za 14 (.iaddr 1 (.t 12) (.t 13)) 0,Za 15 (Yl [(.int .i64)] (.t 14)) 0,Za 16 (ZA .eql (.t 11) (.t 15)) 0] (.cond (.t 16) (Zh [Za 17 (Zc 5) 0,Za 4 (Zc 17) 0] .ret) .skip)))) (.reg [Za 18 (ZA .add (.t 8) (Zy 1)) 0,Za 8 (Zc 18) 0] none))))))) (Zh [Za 4 (.mv (.c (.int .i64 (-1)))) 0] .ret)))
def Kr:List IRes:=[(.tmp 4)]
abbrev c3e:Nat:=19
def Hg:ZO:=Xc []
theorem c8k{G:PV->Prop}(l:List Int)(n:Int)(h:At Hg 0 (Zb Kr G) Kn 0 19 [(0,(.pv (.sl 1 false (List.map enc l)))),(1,(.pv (.int .i64 n))),(7,(.pv (.int .i64 (↑(List.length (List.map enc l)):Int)))),(8,(.pv (.int .i64 0)))] []):Ze Hg 0 (Zb Kr G) Kn [] (Yk 19 [enc l,enc n]):=Ze.tp (.nil) h (by kernel_rfl)
theorem a4t{G:PV->Prop}(l:List Int)(n:Int)(i:Int)(h:if (decide (i<(↑(List.length l):Int)))=true then(decide (0<=i)&&decide (Int.toNat i<List.length (List.map enc l))&&Enc.sz Int==1)=true∧(∃ y0:Int,AV.pv (PV.rptr (PV.cells (List.getD (List.map enc l) (Int.toNat i) default)))=AV.pv (PV.rptr (PV.cells ((enc) y0)))∧(if (n==PV.asInt (List.getD (PV.cells (enc y0)) 0 default))=true then G ((.int .i64 i))else(At Hg 0 (Zb Kr G) Kn 0 19 [(0,(.pv (.sl 1 false (List.map enc l)))),(1,(.pv (.int .i64 n))),(7,(.pv (.int .i64 (↑(List.length l):Int)))),(8,(.pv (.int .i64 (IntKind.wrap IntKind.i64 (i+1)))))] [])))else(G ((.int .i64 (-1))))):At Hg 0 (Zb Kr G) Kn 0 19 [(0,.pv (enc l)),(1,.pv (enc n)),(7,.pv (.int .i64 l.length)),(8,.pv (.int .i64 i))] []:=At.tp (.lit (.ask (.req (.abs (Int) (fun YY=>AV.pv (PV.rptr (PV.cells ((enc) YY)))) (.lit (.lit (.ask (.nil) (.lit (.nil))))))) (.nil))) h (by kernel_rfl)
def D5:IC:=(Zh [Za 4 (Xo false) 0] (Zh [Za 5 (Zc 0) 0,Za 6 (Zc 1) 0,Za 7 (YT 284 [(.t 5),(.t 6)]) 0,Za 8 (ZA .geq (.t 7) (Zy 0)) 2,Za 4 (Zc 8) 2] .ret))
def D9:List IRes:=[(.tmp 4)]
abbrev a6h:Nat:=9
def AO:ZO:=Xc [(284,.pure (preT (fun x:List Int×Int×Unit=>Zr x.1)) (Zj (fun x:List Int×Int×Unit=>ZI (fun n:Int=>decide (x.2.1=n)) x.1)))]
theorem b8d{G:PV->Prop}(l:List Int)(n:Int)(h:(Go.Pl.preT (fun(x:List Int×Int×Unit)=>Zr x.1) [(.sl 1 false (List.map enc l)),(.int .i64 n)])=true∧(∃ y0:Int,AV.pv (Zj (fun(x:List Int×Int×Unit)=>ZI (fun(n:Int)=>decide (x.2.1=n)) x.1) [(.sl 1 false (List.map enc l)),(.int .i64 n)])=AV.pv (enc y0)∧(G ((.bool (decide (y0 ≥ 0))))))):Ze AO 0 (Zb D9 G) D5 [] (Yk 9 [enc l,enc n]):=Ze.tp (.req (.abs (Int) (fun YY=>AV.pv (enc YY)) (.lit (.nil)))) h (by kernel_rfl)
def Qb:IC:=(Zh [Za 2 (.mv (Zy 0)) 0,Za 3 (.mv (Zy 0)) 0] (.seq (Zh [Za 9 (Zc 0) 0,Za 10 (YT 246 [(.t 9),(Zy 0)]) 0] (.cond (.t 10) (Zh [Za 2 (.mv (Zy 0)) 0,Za 3 (.mv (Zy 0)) 0] .ret) .skip)) (Zh [Za 4 (.mv (Zy 1)) 0] (.seq (Zh [Za 11 (Zc 0) 0,Za 12 (.len 1 (.t 11)) 0,Za 13 (.mv (Zy 0)) 0] (.block 0 (.loop [13,12,11,4] (Zh [Za 14 (ZA .lss (.t 13) (.t 12)) 0] (.seq (.cond (.t 14) .skip (.exit 0)) (.seq (.block 1 (Zh [Za 15 (.iaddr 1 (.t 11) (.t 13)) 0,Za 16 (Yl [(.int .i64)] (.t 15)) 0,Za 6 (Zc 16) 0] (Zh [Za 18 (Zc 4) 0,Za 19 (Zc 6) 0,Za 20 (YT 247 [(.t 18),(.t 19)]) 0,Za 17 (Zc 20) 2,Za 21 (.extract (.t 17) 0) 2,Za 22 (.extract (.t 17) 1) 2,Za 7 (Zc 21) 2,Za 8 (Zc 22) 2] (.seq (Zh [Za 23 (Zc 8) 0,Za 24 (ZA .neq (.t 23) (Zy 0)) 0] (.cond (.t 24) (Zh [Za 25 (Zc 8) 0,Za 2 (.mv (Zy 0)) 0,Za 3 (Zc 25) 0] .ret) .skip)) (.reg [Za 26 (Zc 7) 0,Za 4 (Zc 26) 0] none))))) (.reg [Za 27 (ZA .add (.t 13) (Zy 1)) 0,Za 13 (Zc 27) 0] none))))))) (Zh [Za 28 (Zc 4) 0,Za 2 (Zc 28) 0,Za 3 (.mv (Zy 0)) 0] .ret)))))
def UD:List IRes:=[(.tmp 2),(.tmp 3)]
abbrev b5u:Nat:=29
def Qy:ZO:=Xc [(246,.pure (preT (fun x:List Int×Int×Unit=>Zr x.1)) (Zj (fun x:List Int×Int×Unit=>x.1.contains x.2.1))),(247,.pure (preT (fun _:Int×Int×Unit=>true)) (Zj (fun x:Int×Int×Unit=>Ac x.1 x.2.1)))]
theorem c0y{G:PV->Prop}(l:List Int)(h:(Go.Pl.preT (fun(x:List Int×Int×Unit)=>Zr x.1) [(.sl 1 false (List.map enc l)),(.int .i64 0)])=true∧(∃ y0:Bool,AV.pv (Zj (fun(x:List Int×Int×Unit)=>List.contains x.1 x.2.1) [(.sl 1 false (List.map enc l)),(.int .i64 0)])=AV.pv (enc y0)∧(if (y0)=true then G ((.tup [(.int .i64 0),(.int .i64 0)]))else(At Qy 0 (Zb UD G) Qb 0 29 [(4,(.pv (.int .i64 1))),(11,(.pv (.sl 1 false (List.map enc l)))),(12,(.pv (.int .i64 (↑(List.length (List.map enc l)):Int)))),(13,(.pv (.int .i64 0)))] [])))):Ze Qy 0 (Zb UD G) Qb [] (Yk 29 [enc l]):=Ze.tp (.req (.abs (Bool) (fun YY=>AV.pv (enc YY)) (.ask (.nil) (.nil)))) h (by kernel_rfl)
theorem MB{G:PV->Prop}(l:List Int)(o i:Int)(h:if (decide (i<(↑(List.length l):Int)))=true then(decide (0<=i)&&decide (Int.toNat i<List.length (List.map enc l))&&Enc.sz Int==1)=true∧(∃ y0:Int,AV.pv (PV.rptr (PV.cells (List.getD (List.map enc l) (Int.toNat i) default)))=AV.pv (PV.rptr (PV.cells ((enc) y0)))∧(∃ y1:Int×Int,AV.pv (Zj (fun(x:Int×Int×Unit)=>Ac x.1 x.2.1) [(.int .i64 o),(.int .i64 (PV.asInt (List.getD (PV.cells (enc y0)) 0 default)))])=AV.pv (enc y1)∧(if (y1.2 != 0)=true then G ((.tup [(.int .i64 0),(.int .i64 y1.2)]))else(At Qy 0 (Zb UD G) Qb 0 29 [(4,(.pv (.int .i64 y1.1))),(11,(.pv (.sl 1 false (List.map enc l)))),(12,(.pv (.int .i64 (↑(List.length l):Int)))),(13,(.pv (.int .i64 (IntKind.wrap IntKind.i64 (i+1)))))] []))))else(G ((.tup [(.int .i64 o),(.int .i64 0)])))):At Qy 0 (Zb UD G) Qb 0 29 [(4,.pv (.int .i64 o)),(11,.pv (enc l)),(12,.pv (.int .i64 l.length)),(13,.pv (.int .i64 i))] []:=At.tp (.lit (.ask (.req (.abs (Int) (fun YY=>AV.pv (PV.rptr (PV.cells ((enc) YY)))) (.lit (.lit (.abs (Int×Int) (fun YY=>AV.pv (enc YY)) (.lit (.ask (.nil) (.lit (.nil))))))))) (.nil))) h (by kernel_rfl)
def ZQ:IC:=(Zh [Za 4 (.mv (Zy 0)) 0,Za 5 (.mv (Zy 0)) 0] (.seq (Zh [Za 20 (Zc 0) 0,Za 21 (YT 122 [(.t 20)]) 0,Za 22 (.un .not (.t 21)) 2] (.cond (.t 22) (Zh [Za 4 (.mv (Zy 0)) 0,Za 5 (.mv (Zy 1)) 0] .ret) .skip)) (Zh [Za 6 (.mv (.c (.sl 0 true []))) 0] (Zh [Za 7 (Xo false) 0] (.seq (Zh [Za 23 (Zc 0) 0,Za 24 (.len 1 (.t 23)) 0,Za 25 (.mv (Zy 0)) 0] (.block 0 (.loop [25,24,23,1,7,6] (Zh [Za 26 (ZA .lss (.t 25) (.t 24)) 0] (.seq (.cond (.t 26) .skip (.exit 0)) (.seq (.block 1 (Zh [Za 27 (.iaddr 2 (.t 23) (.t 25)) 0,Za 28 (.load true [(.int .i64),(.sl 1)] (.t 27)) 0,Za 9 (.alloc (.agg [(.int .i64 0),(.sl 0 true [])])) 0,Ui (.store 2 (.t 9) (.t 28)) 1] (Zh [Za 29 (.faddr 0 (.t 9)) 0,Za 30 (Yl [(.int .i64)] (.t 29)) 0,Za 31 (.bslice 3 1 1 (.int .i64 0) [(0,(.t 30))]) 0,Za 10 (Zc 31) 1] (.seq (Zh [Za 32 (.faddr 1 (.t 9)) 0,Za 33 (Yl [(.sl 1)] (.t 32)) 0,Za 34 (.len 1 (.t 33)) 0,Za 35 (.mv (Zy 0)) 0] (.block 2 (.loop [35,34,33,1,7,10,6,25,24,23] (Zh [Za 36 (ZA .lss (.t 35) (.t 34)) 0] (.seq (.cond (.t 36) .skip (.exit 2)) (.seq (.block 3 (Zh [Za 37 (.iaddr 1 (.t 33) (.t 35)) 0,Za 38 (.load false [.str] (.t 37)) 0,Za 12 (.alloc (.str [])) 0,Ui (.store 1 (.t 12) (.t 38)) 1] (Zh [Za 39 (Zc 1) 0,Za 40 (.mkfn 188 [] [(.t 12)]) 0,Za 41 (YT 109 [(.t 39),(.t 40)]) 0,Za 13 (Zc 41) 2] (.seq (Zh [Za 42 (Zc 13) 0,Za 43 (ZA .lss (.t 42) (Zy 0)) 0] (.cond (.t 43) (Zh [Za 4 (.mv (Zy 0)) 0,Za 5 (.mv (Zy 7)) 0] .ret) .skip)) (Zh [Za 44 (Zc 1) 0,Za 45 (Zc 13) 0,Za 46 (.iaddr 2 (.t 44) (.t 45)) 0,Za 47 (.faddr 1 (.t 46)) 0,Za 48 (Yl [(.int .i64)] (.t 47)) 0,Za 14 (Zc 48) 0] (Zh [Za 49 (Zc 7) 0,Za 50 (Zc 49) 0,ZX 51 (Zc 14) 0 50,ZX 52 (ZA .lss (.t 51) (.c (.int .i64 (-4611686018427387904)))) 0 50,Za 53 (.pick (.t 50) (.c (.bool true)) (.t 52)) 0,Za 54 (Zc 53) 0,ZX 55 (Zc 14) 0 54,ZX 56 (ZA .gtr (.t 55) (Zy 4611686018427387904)) 0 54,Za 57 (.pick (.t 54) (.c (.bool true)) (.t 56)) 0,Za 7 (Zc 57) 0] (.reg [Za 58 (Zc 10) 0,Za 59 (Zc 14) 0,Za 60 (.bslice 3 1 1 (.int .i64 0) [(0,(.t 59))]) 0,Za 61 (.append 3 1 8 (.t 58) (.t 60)) 1,Za 10 (Zc 61) 2] none))))))) (.reg [Za 62 (ZA .add (.t 35) (Zy 1)) 0,Za 35 (Zc 62) 0] none))))))) (.reg [Za 63 (Zc 6) 0,Za 64 (Zc 10) 0,Za 65 (.bslice 34 1 1 (.sl 0 true []) [(0,(.t 64))]) 0,Za 66 (.append 34 1 24 (.t 63) (.t 65)) 1,Za 6 (Zc 66) 2] none))))) (.reg [Za 67 (ZA .add (.t 25) (Zy 1)) 0,Za 25 (Zc 67) 0] none))))))) (.seq (Zh [Za 68 (Zc 7) 0] (.cond (.t 68) (Zh [Za 4 (.mv (Zy 0)) 0,Za 5 (.mv (Zy 2)) 0] .ret) .skip)) (Zh [Za 15 (.mv (.c (.sl 0 true []))) 0] (.seq (Zh [Za 69 (Zc 6) 0,Za 70 (.len 1 (.t 69)) 0,Za 71 (.mv (Zy 0)) 0] (.block 4 (.loop [71,70,69,15] (Zh [Za 72 (ZA .lss (.t 71) (.t 70)) 0] (.seq (.cond (.t 72) .skip (.exit 4)) (.seq (.block 5 (Zh [Za 73 (.iaddr 1 (.t 69) (.t 71)) 0,Za 74 (Yl [(.sl 1)] (.t 73)) 0,Za 17 (Zc 74) 0] (Zh [Za 76 (Zc 17) 0,Za 77 (YT 189 [(.t 76)]) 0,Za 75 (Zc 77) 2,Za 78 (.extract (.t 75) 0) 2,Za 79 (.extract (.t 75) 1) 2,Za 18 (Zc 78) 2,Za 19 (Zc 79) 2] (.seq (Zh [Za 80 (Zc 19) 0,Za 81 (ZA .neq (.t 80) (Zy 0)) 0] (.cond (.t 81) (Zh [Za 4 (.mv (Zy 0)) 0,Za 5 (.mv (Zy 2)) 0] .ret) .skip)) (.reg [Za 82 (Zc 15) 0,Za 83 (Zc 18) 0,Za 84 (.bslice 3 1 1 (.int .i64 0) [(0,(.t 83))]) 0,Za 85 (.append 3 1 8 (.t 82) (.t 84)) 1,Za 15 (Zc 85) 2] none))))) (.reg [Za 86 (ZA .add (.t 71) (Zy 1)) 0,Za 71 (Zc 86) 0] none))))))) (Zh [Za 87 (Zc 15) 0,Za 88 (YT 190 [(.t 87)]) 0,Za 89 (.extract (.t 88) 0) 2,Za 90 (.extract (.t 88) 1) 2,Za 4 (Zc 89) 2,Za 5 (Zc 90) 2] .ret)))))))))
def ZP:List IRes:=[(.tmp 4),(.tmp 5)]
abbrev b6d:Nat:=91
def ZZ:ZO:=Xc [(122,.pure (preT (fun x:List Mono×Unit=>Yo x.1)) (Zj (fun x:List Mono×Unit=>ZJ x.1))),(109,.own (Uv 188) CW),(189,.pure (preT (fun x:List Int×Unit=>Zr x.1)) (Zj (fun x:List Int×Unit=>Xp x.1))),(190,.pure (preT (fun x:List Int×Unit=>decide (x.1.length<=10000))) (Zj (fun x:List Int×Unit=>Ub x.1)))]
theorem c1l{G:PV->Prop}(p:List Mono)(vs:List Coef)(h:(Go.Pl.preT (fun(x:List Mono×Unit)=>Yo x.1) [(.sl 2 false (List.map enc p))])=true∧(∃ y0:Bool,AV.pv (Zj (fun(x:List Mono×Unit)=>ZJ x.1) [(.sl 2 false (List.map enc p))])=AV.pv (enc y0)∧(if (!y0)=true then G ((.tup [(.int .i64 0),(.int .i64 1)]))else(At ZZ 0 (Zb ZP G) ZQ 0 91 [(1,(.pv (.sl 2 false (List.map enc vs)))),(6,(.pv (.sl 0 true []))),(7,(.pv (.bool false))),(23,(.pv (.sl 2 false (List.map enc p)))),(24,(.pv (.int .i64 (↑(List.length (List.map enc p)):Int)))),(25,(.pv (.int .i64 0)))] [])))):Ze ZZ 0 (Zb ZP G) ZQ [] (Yk 91 [enc p,enc vs]):=Ze.tp (.req (.abs (Bool) (fun YY=>AV.pv (enc YY)) (.ask (.nil) (.nil)))) h (by kernel_rfl)
theorem Rq{G:PV->Prop}(p:List Mono)(vs:List Coef)(bd:Bool)(i:Int)(h:if (decide (i<(↑(List.length p):Int)))=true then(decide (0<=i)&&decide (Int.toNat i<List.length (List.map enc p))&&Enc.sz Mono==2)=true∧(∃ y0:Mono,AV.pv (PV.rptr (PV.cells (List.getD (List.map enc p) (Int.toNat i) default)))=AV.pv (PV.rptr (PV.cells ((enc) y0)))∧(At ZZ 0 (Zb ZP G) ZQ 1 91 [(1,(.pv (.sl 2 false (List.map enc vs)))),(6,(.pv (.sl 0 true []))),(7,(.pv (.bool bd))),(10,(.row 0 1 0 1)),(23,(.pv (.sl 2 false (List.map enc p)))),(24,(.pv (.int .i64 (↑(List.length p):Int)))),(25,(.pv (.int .i64 i))),(33,(.pv (.sl 1 false (PV.asXs (List.getD (PV.cells (enc y0)) (0+1) default))))),(34,(.pv (.int .i64 (↑(List.length (PV.asXs (List.getD (PV.cells (enc y0)) (0+1) default))):Int)))),(35,(.pv (.int .i64 0)))] [(.obj (.row false 3 1 [(.int .i64 (PV.asInt (List.getD (PV.cells (enc y0)) 0 default)))]))]))else(if (bd)=true then G ((.tup [(.int .i64 0),(.int .i64 2)]))else(At ZZ 0 (Zb ZP G) ZQ 2 91 [(15,(.pv (.sl 0 true []))),(69,(.pv (.sl 0 true []))),(70,(.pv (.int .i64 0))),(71,(.pv (.int .i64 0)))] []))):At ZZ 0 (Zb ZP G) ZQ 0 91 [(6,.pv (.sl 0 true [])),(1,.pv (enc vs)),(7,.pv (.bool bd)),(23,.pv (enc p)),(24,.pv (.int .i64 p.length)),(25,.pv (.int .i64 i))] []:=At.tp (.lit (.ask (.req (.abs (Mono) (fun YY=>AV.pv (PV.rptr (PV.cells ((enc) YY)))) (.lit (.lit (.nil))))) (.ask (.nil) (.nil)))) h (by kernel_rfl)
theorem TZ{G:PV->Prop}(p:List Mono)(vs:List Coef)(bd:Bool)(i:Int)(q:Nat)(fs:List (List Int))(h:if (decide (i<(↑(List.length p):Int)))=true then(decide (0<=i)&&decide (Int.toNat i<List.length (List.map enc p))&&Enc.sz Mono==2)=true∧(∃ y0:Mono,AV.pv (PV.rptr (PV.cells (List.getD (List.map enc p) (Int.toNat i) default)))=AV.pv (PV.rptr (PV.cells ((enc) y0)))∧(At ZZ 0 (Zb ZP G) ZQ 1 91 [(1,(.pv (.sl 2 false (List.map enc vs)))),(6,(.row 0 q 0 q)),(7,(.pv (.bool bd))),(10,(.row 1 1 0 1)),(23,(.pv (.sl 2 false (List.map enc p)))),(24,(.pv (.int .i64 (↑(List.length p):Int)))),(25,(.pv (.int .i64 i))),(33,(.pv (.sl 1 false (PV.asXs (List.getD (PV.cells (enc y0)) (0+1) default))))),(34,(.pv (.int .i64 (↑(List.length (PV.asXs (List.getD (PV.cells (enc y0)) (0+1) default))):Int)))),(35,(.pv (.int .i64 0)))] [(.obj (.row false 34 1 (List.map enc fs))),(.obj (.row false 3 1 [(.int .i64 (PV.asInt (List.getD (PV.cells (enc y0)) 0 default)))]))]))else(if (bd)=true then G ((.tup [(.int .i64 0),(.int .i64 2)]))else(At ZZ 0 (Zb ZP G) ZQ 2 91 [(15,(.pv (.sl 0 true []))),(69,(.row 0 q 0 q)),(70,(.pv (.int .i64 (↑(q - 0):Int)))),(71,(.pv (.int .i64 0)))] [(.obj (.row false 34 1 (List.map enc fs)))]))):At ZZ 0 (Zb ZP G) ZQ 0 91 [(6,.row 0 q 0 q),(1,.pv (enc vs)),(7,.pv (.bool bd)),(23,.pv (enc p)),(24,.pv (.int .i64 p.length)),(25,.pv (.int .i64 i))] [.obj (.row false 34 1 (fs.map enc))]:=At.tp (.lit (.ask (.req (.abs (Mono) (fun YY=>AV.pv (PV.rptr (PV.cells ((enc) YY)))) (.lit (.lit (.nil))))) (.ask (.nil) (.nil)))) h (by kernel_rfl)
theorem Pk{G:PV->Prop}(p:List Mono)(vs:List Coef)(bd:Bool)(i j:Int)(ns:List Str)(r:Nat)(l:List Int)(h:if (decide (j<(↑(List.length ns):Int)))=true then(decide (0<=j)&&decide (Int.toNat j<List.length (List.map enc ns))&&Enc.sz Str==1)=true∧(∃ y0:Str,AV.pv (PV.rptr (PV.cells (List.getD (List.map enc ns) (Int.toNat j) default)))=AV.pv (PV.rptr (PV.cells ((enc) y0)))∧((Uv 188 [(.pv (.sl 2 false (List.map enc vs))),(.fn 188 [] [(.ptr 0 0)])] [(.box [(.pv (.str (PV.asStr (List.getD (PV.cells (enc y0)) 0 default))))])])=true∧(if (decide (ZI (fun(t:Coef)=>Str.s t.v==PV.asStr (List.getD (PV.cells (enc y0)) 0 default)) (KM (enc vs))<0))=true then G ((.tup [(.int .i64 0),(.int .i64 7)]))else((decide (0<=ZI (fun(t:Coef)=>Str.s t.v==PV.asStr (List.getD (PV.cells (enc y0)) 0 default)) (KM (enc vs)))&&decide (Int.toNat (ZI (fun(t:Coef)=>Str.s t.v==PV.asStr (List.getD (PV.cells (enc y0)) 0 default)) (KM (enc vs)))<List.length (List.map enc vs))&&Enc.sz Coef==2)=true∧(∃ y1:Coef,AV.pv (PV.rptr (PV.cells (List.getD (List.map enc vs) (Int.toNat (ZI (fun(t:Coef)=>Str.s t.v==PV.asStr (List.getD (PV.cells (enc y0)) 0 default)) (KM (enc vs)))) default)))=AV.pv (PV.rptr (PV.cells ((enc) y1)))∧(if (bd)=true then(List.length (List.map enc l)==r&&r==r&&decide ((r+List.length (List.drop 0 (List.take 1 [Sh.co (Sh.int .i64) (List.getD (List.drop 1 (PV.cells (enc y1))) 0 default)])))*8<=1099511627776)&&decide (r+List.length (List.drop 0 (List.take 1 [Sh.co (Sh.int .i64) (List.getD (List.drop 1 (PV.cells (enc y1))) 0 default)]))<=1099511627776))=true∧(At ZZ 0 (Zb ZP G) ZQ 1 91 [(1,(.pv (.sl 2 false (List.map enc vs)))),(6,(.pv (.sl 0 true []))),(7,(.pv (.bool true))),(10,(.row 0 (r+List.length (List.drop 0 (List.take 1 [Sh.co (Sh.int .i64) (List.getD (List.drop 1 (PV.cells (enc y1))) 0 default)]))) 0 (r+List.length (List.drop 0 (List.take 1 [Sh.co (Sh.int .i64) (List.getD (List.drop 1 (PV.cells (enc y1))) 0 default)]))))),(23,(.pv (.sl 2 false (List.map enc p)))),(24,(.pv (.int .i64 (↑(List.length p):Int)))),(25,(.pv (.int .i64 i))),(33,(.pv (.sl 1 false (List.map enc ns)))),(34,(.pv (.int .i64 (↑(List.length ns):Int)))),(35,(.pv (.int .i64 (IntKind.wrap IntKind.i64 (j+1)))))] [(.obj (.row false 3 1 (List.map enc l++List.drop 0 (List.take 1 [Sh.co (Sh.int .i64) (List.getD (List.drop 1 (PV.cells (enc y1))) 0 default)]))))])else(if (decide (PV.asInt (List.getD (List.drop 1 (PV.cells (enc y1))) 0 default)<(-4611686018427387904:Int)))=true then(List.length (List.map enc l)==r&&r==r&&decide ((r+List.length (List.drop 0 (List.take 1 [Sh.co (Sh.int .i64) (List.getD (List.drop 1 (PV.cells (enc y1))) 0 default)])))*8<=1099511627776)&&decide (r+List.length (List.drop 0 (List.take 1 [Sh.co (Sh.int .i64) (List.getD (List.drop 1 (PV.cells (enc y1))) 0 default)]))<=1099511627776))=true∧(At ZZ 0 (Zb ZP G) ZQ 1 91 [(1,(.pv (.sl 2 false (List.map enc vs)))),(6,(.pv (.sl 0 true []))),(7,(.pv (.bool true))),(10,(.row 0 (r+List.length (List.drop 0 (List.take 1 [Sh.co (Sh.int .i64) (List.getD (List.drop 1 (PV.cells (enc y1))) 0 default)]))) 0 (r+List.length (List.drop 0 (List.take 1 [Sh.co (Sh.int .i64) (List.getD (List.drop 1 (PV.cells (enc y1))) 0 default)]))))),(23,(.pv (.sl 2 false (List.map enc p)))),(24,(.pv (.int .i64 (↑(List.length p):Int)))),(25,(.pv (.int .i64 i))),(33,(.pv (.sl 1 false (List.map enc ns)))),(34,(.pv (.int .i64 (↑(List.length ns):Int)))),(35,(.pv (.int .i64 (IntKind.wrap IntKind.i64 (j+1)))))] [(.obj (.row false 3 1 (List.map enc l++List.drop 0 (List.take 1 [Sh.co (Sh.int .i64) (List.getD (List.drop 1 (PV.cells (enc y1))) 0 default)]))))])else((List.length (List.map enc l)==r&&r==r&&decide ((r+List.length (List.drop 0 (List.take 1 [Sh.co (Sh.int .i64) (List.getD (List.drop 1 (PV.cells (enc y1))) 0 default)])))*8<=1099511627776)&&decide (r+List.length (List.drop 0 (List.take 1 [Sh.co (Sh.int .i64) (List.getD (List.drop 1 (PV.cells (enc y1))) 0 default)]))<=1099511627776))=true∧(At ZZ 0 (Zb ZP G) ZQ 1 91 [(1,(.pv (.sl 2 false (List.map enc vs)))),(6,(.pv (.sl 0 true []))),(7,(.pv (.bool (decide (PV.asInt (List.getD (List.drop 1 (PV.cells (enc y1))) 0 default)>4611686018427387904))))),(10,(.row 0 (r+List.length (List.drop 0 (List.take 1 [Sh.co (Sh.int .i64) (List.getD (List.drop 1 (PV.cells (enc y1))) 0 default)]))) 0 (r+List.length (List.drop 0 (List.take 1 [Sh.co (Sh.int .i64) (List.getD (List.drop 1 (PV.cells (enc y1))) 0 default)]))))),(23,(.pv (.sl 2 false (List.map enc p)))),(24,(.pv (.int .i64 (↑(List.length p):Int)))),(25,(.pv (.int .i64 i))),(33,(.pv (.sl 1 false (List.map enc ns)))),(34,(.pv (.int .i64 (↑(List.length ns):Int)))),(35,(.pv (.int .i64 (IntKind.wrap IntKind.i64 (j+1)))))] [(.obj (.row false 3 1 (List.map enc l++List.drop 0 (List.take 1 [Sh.co (Sh.int .i64) (List.getD (List.drop 1 (PV.cells (enc y1))) 0 default)]))))])))))))))else((List.length (List.map enc l)==r)=true∧(At ZZ 0 (Zb ZP G) ZQ 0 91 [(1,(.pv (.sl 2 false (List.map enc vs)))),(6,(.row 0 1 0 1)),(7,(.pv (.bool bd))),(23,(.pv (.sl 2 false (List.map enc p)))),(24,(.pv (.int .i64 (↑(List.length p):Int)))),(25,(.pv (.int .i64 (IntKind.wrap IntKind.i64 (i+1)))))] [(.obj (.row false 34 1 [(.sl 1 false (List.drop 0 (List.take r (List.map enc l))))]))]))):At ZZ 0 (Zb ZP G) ZQ 1 91 [(6,.pv (.sl 0 true [])),(1,.pv (enc vs)),(7,.pv (.bool bd)),(23,.pv (enc p)),(24,.pv (.int .i64 p.length)),(25,.pv (.int .i64 i)),(33,.pv (enc ns)),(34,.pv (.int .i64 ns.length)),(35,.pv (.int .i64 j)),(10,.row 0 r 0 r)] [.obj (.row false 3 1 (l.map enc))]:=At.tp (.lit (.ask (.req (.abs (Str) (fun YY=>AV.pv (PV.rptr (PV.cells ((enc) YY)))) (.lit (.req (.keep (.lit (.ask (.nil) (.req (.abs (Coef) (fun YY=>AV.pv (PV.rptr (PV.cells ((enc) YY)))) (.lit (.ask (.lit (.lit (.lit (.lit (.lit (.lit (.lit (.req (.lit (.nil)))))))))) (.lit (.lit (.lit (.ask (.lit (.lit (.lit (.lit (.req (.lit (.nil))))))) (.lit (.lit (.lit (.lit (.lit (.req (.lit (.nil))))))))))))))))))))))) (.req (.lit (.lit (.lit (.lit (.lit (.lit (.nil)))))))))) h (by kernel_rfl)
theorem Rz{G:PV->Prop}(p:List Mono)(vs:List Coef)(bd:Bool)(i j:Int)(ns:List Str)(r:Nat)(l:List Int)(q:Nat)(fs:List (List Int))(h:if (decide (j<(↑(List.length ns):Int)))=true then(decide (0<=j)&&decide (Int.toNat j<List.length (List.map enc ns))&&Enc.sz Str==1)=true∧(∃ y0:Str,AV.pv (PV.rptr (PV.cells (List.getD (List.map enc ns) (Int.toNat j) default)))=AV.pv (PV.rptr (PV.cells ((enc) y0)))∧((Uv 188 [(.pv (.sl 2 false (List.map enc vs))),(.fn 188 [] [(.ptr 0 0)])] [(.box [(.pv (.str (PV.asStr (List.getD (PV.cells (enc y0)) 0 default))))])])=true∧(if (decide (ZI (fun(t:Coef)=>Str.s t.v==PV.asStr (List.getD (PV.cells (enc y0)) 0 default)) (KM (enc vs))<0))=true then G ((.tup [(.int .i64 0),(.int .i64 7)]))else((decide (0<=ZI (fun(t:Coef)=>Str.s t.v==PV.asStr (List.getD (PV.cells (enc y0)) 0 default)) (KM (enc vs)))&&decide (Int.toNat (ZI (fun(t:Coef)=>Str.s t.v==PV.asStr (List.getD (PV.cells (enc y0)) 0 default)) (KM (enc vs)))<List.length (List.map enc vs))&&Enc.sz Coef==2)=true∧(∃ y1:Coef,AV.pv (PV.rptr (PV.cells (List.getD (List.map enc vs) (Int.toNat (ZI (fun(t:Coef)=>Str.s t.v==PV.asStr (List.getD (PV.cells (enc y0)) 0 default)) (KM (enc vs)))) default)))=AV.pv (PV.rptr (PV.cells ((enc) y1)))∧(if (bd)=true then(List.length (List.map enc l)==r&&r==r&&decide ((r+List.length (List.drop 0 (List.take 1 [Sh.co (Sh.int .i64) (List.getD (List.drop 1 (PV.cells (enc y1))) 0 default)])))*8<=1099511627776)&&decide (r+List.length (List.drop 0 (List.take 1 [Sh.co (Sh.int .i64) (List.getD (List.drop 1 (PV.cells (enc y1))) 0 default)]))<=1099511627776))=true∧(At ZZ 0 (Zb ZP G) ZQ 1 91 [(1,(.pv (.sl 2 false (List.map enc vs)))),(6,(.row 0 q 0 q)),(7,(.pv (.bool true))),(10,(.row 1 (r+List.length (List.drop 0 (List.take 1 [Sh.co (Sh.int .i64) (List.getD (List.drop 1 (PV.cells (enc y1))) 0 default)]))) 0 (r+List.length (List.drop 0 (List.take 1 [Sh.co (Sh.int .i64) (List.getD (List.drop 1 (PV.cells (enc y1))) 0 default)]))))),(23,(.pv (.sl 2 false (List.map enc p)))),(24,(.pv (.int .i64 (↑(List.length p):Int)))),(25,(.pv (.int .i64 i))),(33,(.pv (.sl 1 false (List.map enc ns)))),(34,(.pv (.int .i64 (↑(List.length ns):Int)))),(35,(.pv (.int .i64 (IntKind.wrap IntKind.i64 (j+1)))))] [(.obj (.row false 34 1 (List.map enc fs))),(.obj (.row false 3 1 (List.map enc l++List.drop 0 (List.take 1 [Sh.co (Sh.int .i64) (List.getD (List.drop 1 (PV.cells (enc y1))) 0 default)]))))])else(if (decide (PV.asInt (List.getD (List.drop 1 (PV.cells (enc y1))) 0 default)<(-4611686018427387904:Int)))=true then(List.length (List.map enc l)==r&&r==r&&decide ((r+List.length (List.drop 0 (List.take 1 [Sh.co (Sh.int .i64) (List.getD (List.drop 1 (PV.cells (enc y1))) 0 default)])))*8<=1099511627776)&&decide (r+List.length (List.drop 0 (List.take 1 [Sh.co (Sh.int .i64) (List.getD (List.drop 1 (PV.cells (enc y1))) 0 default)]))<=1099511627776))=true∧(At ZZ 0 (Zb ZP G) ZQ 1 91 [(1,(.pv (.sl 2 false (List.map enc vs)))),(6,(.row 0 q 0 q)),(7,(.pv (.bool true))),(10,(.row 1 (r+List.length (List.drop 0 (List.take 1 [Sh.co (Sh.int .i64) (List.getD (List.drop 1 (PV.cells (enc y1))) 0 default)]))) 0 (r+List.length (List.drop 0 (List.take 1 [Sh.co (Sh.int .i64) (List.getD (List.drop 1 (PV.cells (enc y1))) 0 default)]))))),(23,(.pv (.sl 2 false (List.map enc p)))),(24,(.pv (.int .i64 (↑(List.length p):Int)))),(25,(.pv (.int .i64 i))),(33,(.pv (.sl 1 false (List.map enc ns)))),(34,(.pv (.int .i64 (↑(List.length ns):Int)))),(35,(.pv (.int .i64 (IntKind.wrap IntKind.i64 (j+1)))))] [(.obj (.row false 34 1 (List.map enc fs))),(.obj (.row false 3 1 (List.map enc l++List.drop 0 (List.take 1 [Sh.co (Sh.int .i64) (List.getD (List.drop 1 (PV.cells (enc y1))) 0 default)]))))])else((List.length (List.map enc l)==r&&r==r&&decide ((r+List.length (List.drop 0 (List.take 1 [Sh.co (Sh.int .i64) (List.getD (List.drop 1 (PV.cells (enc y1))) 0 default)])))*8<=1099511627776)&&decide (r+List.length (List.drop 0 (List.take 1 [Sh.co (Sh.int .i64) (List.getD (List.drop 1 (PV.cells (enc y1))) 0 default)]))<=1099511627776))=true∧(At ZZ 0 (Zb ZP G) ZQ 1 91 [(1,(.pv (.sl 2 false (List.map enc vs)))),(6,(.row 0 q 0 q)),(7,(.pv (.bool (decide (PV.asInt (List.getD (List.drop 1 (PV.cells (enc y1))) 0 default)>4611686018427387904))))),(10,(.row 1 (r+List.length (List.drop 0 (List.take 1 [Sh.co (Sh.int .i64) (List.getD (List.drop 1 (PV.cells (enc y1))) 0 default)]))) 0 (r+List.length (List.drop 0 (List.take 1 [Sh.co (Sh.int .i64) (List.getD (List.drop 1 (PV.cells (enc y1))) 0 default)]))))),(23,(.pv (.sl 2 false (List.map enc p)))),(24,(.pv (.int .i64 (↑(List.length p):Int)))),(25,(.pv (.int .i64 i))),(33,(.pv (.sl 1 false (List.map enc ns)))),(34,(.pv (.int .i64 (↑(List.length ns):Int)))),(35,(.pv (.int .i64 (IntKind.wrap IntKind.i64 (j+1)))))] [(.obj (.row false 34 1 (List.map enc fs))),(.obj (.row false 3 1 (List.map enc l++List.drop 0 (List.take 1 [Sh.co (Sh.int .i64) (List.getD (List.drop 1 (PV.cells (enc y1))) 0 default)]))))])))))))))else((List.length (List.map enc l)==r)=true∧((List.length (List.map enc fs)==q&&q==q&&decide ((q+List.length (List.drop 0 (List.take 1 [PV.sl 1 false (List.drop 0 (List.take r (List.map enc l)))])))*24<=1099511627776)&&decide (q+List.length (List.drop 0 (List.take 1 [PV.sl 1 false (List.drop 0 (List.take r (List.map enc l)))]))<=1099511627776))=true∧(At ZZ 0 (Zb ZP G) ZQ 0 91 [(1,(.pv (.sl 2 false (List.map enc vs)))),(6,(.row 0 (q+List.length (List.drop 0 (List.take 1 [PV.sl 1 false (List.drop 0 (List.take r (List.map enc l)))]))) 0 (q+List.length (List.drop 0 (List.take 1 [PV.sl 1 false (List.drop 0 (List.take r (List.map enc l)))]))))),(7,(.pv (.bool bd))),(23,(.pv (.sl 2 false (List.map enc p)))),(24,(.pv (.int .i64 (↑(List.length p):Int)))),(25,(.pv (.int .i64 (IntKind.wrap IntKind.i64 (i+1)))))] [(.obj (.row false 34 1 (List.map enc fs++List.drop 0 (List.take 1 [PV.sl 1 false (List.drop 0 (List.take r (List.map enc l)))]))))])))):At ZZ 0 (Zb ZP G) ZQ 1 91 [(6,.row 0 q 0 q),(1,.pv (enc vs)),(7,.pv (.bool bd)),(23,.pv (enc p)),(24,.pv (.int .i64 p.length)),(25,.pv (.int .i64 i)),(33,.pv (enc ns)),(34,.pv (.int .i64 ns.length)),(35,.pv (.int .i64 j)),(10,.row 1 r 0 r)] [.obj (.row false 34 1 (fs.map enc)),.obj (.row false 3 1 (l.map enc))]:=At.tp (.lit (.ask (.req (.abs (Str) (fun YY=>AV.pv (PV.rptr (PV.cells ((enc) YY)))) (.lit (.req (.keep (.lit (.ask (.nil) (.req (.abs (Coef) (fun YY=>AV.pv (PV.rptr (PV.cells ((enc) YY)))) (.lit (.ask (.lit (.lit (.lit (.lit (.lit (.lit (.lit (.req (.lit (.nil)))))))))) (.lit (.lit (.lit (.ask (.lit (.lit (.lit (.lit (.req (.lit (.nil))))))) (.lit (.lit (.lit (.lit (.lit (.req (.lit (.nil))))))))))))))))))))))) (.req (.lit (.lit (.req (.lit (.nil)))))))) h (by kernel_rfl)
theorem a7g{G:PV->Prop}(p:List Mono)(vs:List Coef)(i:Int)(q:Nat)(fs:List (List Int))(h:if (decide (i<(↑q:Int)))=true then(decide (0<=i)&&decide (0+Int.toNat i<q)&&List.length (List.map enc fs)==q)=true∧((List.length (List.map enc fs)==q&&decide (0+Int.toNat i<List.length (List.map enc fs)))=true∧((decide (0+List.length [Sh.sl 1]<=List.length (PV.cells (List.getD (List.map enc fs) (0+Int.toNat i) default)))&&Yx (PV.cells (List.getD (List.map enc fs) (0+Int.toNat i) default)) 0 [Sh.sl 1])=true∧((Go.Pl.preT (fun(x:List Int×Unit)=>Zr x.1) [(.sl 1 (PV.asT (List.getD (PV.cells (List.getD (List.map enc fs) (0+Int.toNat i) default)) 0 default)) (PV.asXs (List.getD (PV.cells (List.getD (List.map enc fs) (0+Int.toNat i) default)) 0 default)))])=true∧(∃ y0:Int×Int,AV.pv (Zj (fun(x:List Int×Unit)=>Xp x.1) [(.sl 1 (PV.asT (List.getD (PV.cells (List.getD (List.map enc fs) (0+Int.toNat i) default)) 0 default)) (PV.asXs (List.getD (PV.cells (List.getD (List.map enc fs) (0+Int.toNat i) default)) 0 default)))])=AV.pv (enc y0)∧(if (y0.2 != 0)=true then G ((.tup [(.int .i64 0),(.int .i64 2)]))else(At ZZ 0 (Zb ZP G) ZQ 2 91 [(15,(.row 0 1 0 1)),(69,(.row 1 q 0 q)),(70,(.pv (.int .i64 (↑q:Int)))),(71,(.pv (.int .i64 (IntKind.wrap IntKind.i64 (i+1)))))] [(.obj (.row false 3 1 [(.int .i64 y0.1)])),(.obj (.row false 34 1 (List.map enc fs)))]))))))else(∃ y1:Int×Int,AV.pv (Zj (fun(x:List Int×Unit)=>Ub x.1) [(.sl 0 true [])])=AV.pv (enc y1)∧(G ((.tup [(.int .i64 y1.1),(.int .i64 y1.2)]))))):At ZZ 0 (Zb ZP G) ZQ 2 91 [(15,.pv (.sl 0 true [])),(69,.row 0 q 0 q),(70,.pv (.int .i64 q)),(71,.pv (.int .i64 i))] [.obj (.row false 34 1 (fs.map enc))]:=At.tp (.lit (.ask (.req (.keep (.req (.req (.req (.abs (Int×Int) (fun YY=>AV.pv (enc YY)) (.lit (.ask (.nil) (.lit (.lit (.lit (.lit (.lit (.lit (.nil))))))))))))))) (.lit (.abs (Int×Int) (fun YY=>AV.pv (enc YY)) (.nil))))) h (by kernel_rfl)
theorem Re{G:PV->Prop}(p:List Mono)(vs:List Coef)(i:Int)(q:Nat)(fs:List (List Int))(r:Nat)(ps:List Int)(h:if (decide (i<(↑q:Int)))=true then(decide (0<=i)&&decide (0+Int.toNat i<q)&&List.length (List.map enc fs)==q)=true∧((List.length (List.map enc fs)==q&&decide (0+Int.toNat i<List.length (List.map enc fs)))=true∧((decide (0+List.length [Sh.sl 1]<=List.length (PV.cells (List.getD (List.map enc fs) (0+Int.toNat i) default)))&&Yx (PV.cells (List.getD (List.map enc fs) (0+Int.toNat i) default)) 0 [Sh.sl 1])=true∧((Go.Pl.preT (fun(x:List Int×Unit)=>Zr x.1) [(.sl 1 (PV.asT (List.getD (PV.cells (List.getD (List.map enc fs) (0+Int.toNat i) default)) 0 default)) (PV.asXs (List.getD (PV.cells (List.getD (List.map enc fs) (0+Int.toNat i) default)) 0 default)))])=true∧(∃ y0:Int×Int,AV.pv (Zj (fun(x:List Int×Unit)=>Xp x.1) [(.sl 1 (PV.asT (List.getD (PV.cells (List.getD (List.map enc fs) (0+Int.toNat i) default)) 0 default)) (PV.asXs (List.getD (PV.cells (List.getD (List.map enc fs) (0+Int.toNat i) default)) 0 default)))])=AV.pv (enc y0)∧(if (y0.2 != 0)=true then G ((.tup [(.int .i64 0),(.int .i64 2)]))else((List.length (List.map enc ps)==r&&r==r&&decide ((r+List.length (List.drop 0 (List.take 1 [enc y0.1])))*8<=1099511627776)&&decide (r+List.length (List.drop 0 (List.take 1 [enc y0.1]))<=1099511627776))=true∧(At ZZ 0 (Zb ZP G) ZQ 2 91 [(15,(.row 0 (r+List.length (List.drop 0 (List.take 1 [enc y0.1]))) 0 (r+List.length (List.drop 0 (List.take 1 [enc y0.1]))))),(69,(.row 1 q 0 q)),(70,(.pv (.int .i64 (↑q:Int)))),(71,(.pv (.int .i64 (IntKind.wrap IntKind.i64 (i+1)))))] [(.obj (.row false 3 1 (List.map enc ps++List.drop 0 (List.take 1 [enc y0.1])))),(.obj (.row false 34 1 (List.map enc fs)))])))))))else((List.length (List.map enc ps)==r)=true∧((Go.Pl.preT (fun(x:List Int×Unit)=>decide (List.length x.1<=10000)) [(.sl 1 false (List.drop 0 (List.take r (List.map enc ps))))])=true∧(∃ y1:Int×Int,AV.pv (Zj (fun(x:List Int×Unit)=>Ub x.1) [(.sl 1 false (List.drop 0 (List.take r (List.map enc ps))))])=AV.pv (enc y1)∧(G ((.tup [(.int .i64 y1.1),(.int .i64 y1.2)]))))))):At ZZ 0 (Zb ZP G) ZQ 2 91 [(15,.row 0 r 0 r),(69,.row 1 q 0 q),(70,.pv (.int .i64 q)),(71,.pv (.int .i64 i))] [.obj (.row false 3 1 (ps.map enc)),.obj (.row false 34 1 (fs.map enc))]:=At.tp (.lit (.ask (.req (.keep (.req (.req (.req (.abs (Int×Int) (fun YY=>AV.pv (enc YY)) (.lit (.ask (.nil) (.lit (.lit (.req (.lit (.nil))))))))))))) (.req (.req (.abs (Int×Int) (fun YY=>AV.pv (enc YY)) (.nil)))))) h (by kernel_rfl)
theorem a8p{G:PV->Prop}(p:List Mono)(vs:List Coef)(h : ∃ y0:Int×Int,AV.pv (Zj (fun(x:List Int×Unit)=>Ub x.1) [(.sl 0 true [])])=AV.pv (enc y0)∧(G ((.tup [(.int .i64 y0.1),(.int .i64 y0.2)])))):At ZZ 0 (Zb ZP G) ZQ 2 91 [(15,.pv (.sl 0 true [])),(69,.pv (.sl 0 true [])),(70,.pv (.int .i64 0)),(71,.pv (.int .i64 0))] []:=At.tp (.lit (.lit (.lit (.abs (Int×Int) (fun YY=>AV.pv (enc YY)) (.nil))))) h (by kernel_rfl)
def Bp:IC:=(.reg [Za 4 (Yl [(.sl 1)] (.t 1)) 0,Za 5 (Zc 0) 0,Za 6 (ZA .shr (.t 5) (.c (.int .u64 31))) 0,Za 7 (.bslice 3 1 1 (.int .i64 0) [(0,(.t 6))]) 0,Za 8 (.append 3 1 8 (.t 4) (.t 7)) 1,Za 9 (Yl [(.sl 1)] (.t 2)) 2,Za 10 (Zc 0) 2,Za 11 (ZA .and (.t 10) (Zy 2147483647)) 2,Za 12 (.bslice 3 1 1 (.int .i64 0) [(0,(.t 11))]) 2,Za 13 (.append 3 1 8 (.t 9) (.t 12)) 3,Ui (.store 1 (.t 1) (.t 8)) 4,Ui (.store 1 (.t 2) (.t 13)) 4] (some [[],[],[1],[2,1],[0,3,2,1],[],[],[6],[7,6],[5,8,4,7,6,0,3,2,1],[4,9,0,1,2,3,5,8,7,6],[9,10,0,1,2,3,4,5,6,7,8]]))
def CU:List IRes:=[]
abbrev c0e:Nat:=14
def P6:ZO:=Xc []
theorem c9v{G:AV×List AObj×List AObj->Prop}(n:Int)(h:G (((.tup []),([(.box [(.row 2 1 0 1)]),(.box [(.row 3 1 0 1)])],[(.row false 3 1 [(.int .i64 (Int.fdiv n (2 ^ min (Int.toNat 31) (IntKind.bits IntKind.i64))))]),(.row false 3 1 [(.int .i64 (IntKind.wrap IntKind.i64 (↑(BitVec.toNat (BitVec.ofInt (IntKind.bits IntKind.i64) n &&& BitVec.ofInt (IntKind.bits IntKind.i64) 2147483647)):Int)))])])))):Ze P6 2 (Zt 2 CU G) Bp [] (YV 14 [.pv (.int .i64 n),.ptr 0 0,.ptr 1 0] [.box [.pv (.sl 0 true [])],.box [.pv (.sl 0 true [])]]):=Ze.to (.lit (.lit (.lit (.lit (.lit (.lit (.lit (.lit (.lit (.lit (.lit (.lit (.nil))))))))))))) h (by kernel_rfl)
theorem c7l{G:AV×List AObj×List AObj->Prop}(n:Int)(q:Nat)(xs ys:List PV)(h:(List.length xs==q&&q==q&&decide ((q+List.length (List.drop 0 (List.take 1 [PV.int .i64 (Int.fdiv n (2 ^ min (Int.toNat 31) (IntKind.bits IntKind.i64)))])))*8<=1099511627776)&&decide (q+List.length (List.drop 0 (List.take 1 [PV.int .i64 (Int.fdiv n (2 ^ min (Int.toNat 31) (IntKind.bits IntKind.i64)))]))<=1099511627776))=true∧((List.length ys==q&&q==q&&decide ((q+List.length (List.drop 0 (List.take 1 [PV.int .i64 (IntKind.wrap IntKind.i64 (↑(BitVec.toNat (BitVec.ofInt (IntKind.bits IntKind.i64) n &&& BitVec.ofInt (IntKind.bits IntKind.i64) 2147483647)):Int))])))*8<=1099511627776)&&decide (q+List.length (List.drop 0 (List.take 1 [PV.int .i64 (IntKind.wrap IntKind.i64 (↑(BitVec.toNat (BitVec.ofInt (IntKind.bits IntKind.i64) n &&& BitVec.ofInt (IntKind.bits IntKind.i64) 2147483647)):Int))]))<=1099511627776))=true∧(G (((.tup []),([(.box [(.row 2 (q+List.length (List.drop 0 (List.take 1 [PV.int .i64 (Int.fdiv n (2 ^ min (Int.toNat 31) (IntKind.bits IntKind.i64)))]))) 0 (q+List.length (List.drop 0 (List.take 1 [PV.int .i64 (Int.fdiv n (2 ^ min (Int.toNat 31) (IntKind.bits IntKind.i64)))]))))]),(.box [(.row 3 (q+List.length (List.drop 0 (List.take 1 [PV.int .i64 (IntKind.wrap IntKind.i64 (↑(BitVec.toNat (BitVec.ofInt (IntKind.bits IntKind.i64) n &&& BitVec.ofInt (IntKind.bits IntKind.i64) 2147483647)):Int))]))) 0 (q+List.length (List.drop 0 (List.take 1 [PV.int .i64 (IntKind.wrap IntKind.i64 (↑(BitVec.toNat (BitVec.ofInt (IntKind.bits IntKind.i64) n &&& BitVec.ofInt (IntKind.bits IntKind.i64) 2147483647)):Int))]))))]),(.row false 3 1 (xs++List.drop 0 (List.take 1 [PV.int .i64 (Int.fdiv n (2 ^ min (Int.toNat 31) (IntKind.bits IntKind.i64)))]))),(.row false 3 1 (ys++List.drop 0 (List.take 1 [PV.int .i64 (IntKind.wrap IntKind.i64 (↑(BitVec.toNat (BitVec.ofInt (IntKind.bits IntKind.i64) n &&& BitVec.ofInt (IntKind.bits IntKind.i64) 2147483647)):Int))])))],[])))))):Ze P6 4 (Zt 4 CU G) Bp [] (YV 14 [.pv (.int .i64 n),.ptr 0 0,.ptr 1 0] [.box [.row 2 q 0 q],.box [.row 3 q 0 q],.row false 3 1 xs,.row false 3 1 ys]):=Ze.to (.lit (.lit (.lit (.req (.lit (.lit (.lit (.req (.nil))))))))) h (by kernel_rfl)
end Go.Pl
