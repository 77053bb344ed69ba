/-
  Texts of mine that belong together (packed by pack.py), for every input: TyRe, TyRf, GRq, QRl, QRm, QRn, QSa, TyAs, GLr10, QSb, GLs10, TyRg, QSc, GSa, QRo.
-/
import Derived.Test.YtjfgiaooglnomaaGreatDoorKW2
import Derived.Test.YtjfgiaooglnomaaGreatDoorKW3
import Derived.Test.YtjfgiaooglnomaaGreatDoorKW4
import Derived.KernelRfl
set_option linter.unusedVariables false
set_option linter.unusedSimpArgs false
namespace Go.Pl
open Go.RowKit
open Enc (enc dec is)
open EncL (encL decL isL)
theorem Aa{v w:List Coef}(h : ∀ s,Y6 v s=Y6 w s): ∀ (ts:List Coef) (n:Int),Jl v n ts=Jl w n ts
 | [],_=>rfl
 | t::r,n=>by
  rw[Jl,Jl,h]
  cases Y6 w t.v with
  | none=>rfl
  | some x=>simp only;rw[Aa h r]
theorem Bg{v w:List Coef}(h : ∀ s,Y6 v s=Y6 w s)(l:Lin):YP l v=YP l w:=by
 unfold YP;rw[Aa h]
theorem OT{v w:List Coef}(h : ∀ s,Y6 v s=Y6 w s)(f:Fact):YI f v=YI f w:=by
 unfold YI;rw[Bg h]
theorem RD{v w:List Coef}(h : ∀ s,Y6 v s=Y6 w s): ∀ ss:List Str,JW v ss=JW w ss
 | []=>rfl
 | s::r=>by rw[JW,JW,h,RD h r]
theorem Rp{v w:List Coef}(h : ∀ s,Y6 v s=Y6 w s): ∀ p:List Mono,Ht v p=Ht w p
 | []=>rfl
 | m::r=>by rw[Ht,Ht,RD h,Rp h r]
theorem Et{v w:List Coef}(h : ∀ s,Y6 v s=Y6 w s)(p:List Mono):Z7 p v=Z7 p w:=by
 unfold Z7;rw[Rp h]
theorem a5q{v w:List Coef}(hn:(v.map (·.v)).Nodup)(hp:v.Perm w)(s:Str):Y6 v s=Y6 w s:=by
 have hw:(w.map (·.v)).Nodup:=(hp.map _).nodup_iff.1 hn
 have key : ∀ {l:List Coef},(l.map (·.v)).Nodup-> ∀ {t:Coef},t∈l->t.v=s->Y6 l s=some t.c:=by
  intro l
  induction l with
  | nil=>intro _ t ht;cases ht
  | cons x l ih=>
   intro hl t ht hs
   rw[List.map_cons,List.nodup_cons]at hl
   unfold Y6
   rw[List.find?_cons]
   rcases List.mem_cons.1 ht with rfl|ht
   ·rw[decide_eq_true hs];rfl
   ·have:x.v≠s:=fun e=>hl.1 (by rw[e,<- hs];exact List.mem_map_of_mem ht)
    rw[decide_eq_false this]
    exact ih hl.2 ht hs
 cases h:Y6 v s with
 | some x=>
  obtain⟨t,ht,rfl⟩:=Option.map_eq_some_iff.1 h
  have h1:=List.mem_of_find?_eq_some ht
  have h2:t.v=s:=by simpa using List.find?_some ht
  exact(key hw (hp.mem_iff.1 h1) h2).symm
 | none=>
  cases h':Y6 w s with
  | none=>rfl
  | some x=>
   obtain⟨t,ht,rfl⟩:=Option.map_eq_some_iff.1 h'
   have h1:=List.mem_of_find?_eq_some ht
   have h2:t.v=s:=by simpa using List.find?_some ht
   rw[key hn (hp.mem_iff.2 h1) h2]at h;cases h
theorem CR: ∀ {vs:List Str} {p:List Int},(Zi vs p).map (·.v) <+: vs
 | [],p=>by simp[Zi]
 | v::vs,[]=>by simp[Zi]
 | v::vs,n::p=>by
  show v::(Zi vs p).map (·.v) <+: v::vs
  rw[List.cons_prefix_cons]
  exact⟨rfl,CR⟩
theorem Dx: ∀ {vs:List Str} {p:List Int} (ws:List Str) (q:List Int),vs.length=p.length->Zi (vs++ws) (p++q)=Zi vs p++Zi ws q
 | [],[],_,_,_=>rfl
 | v::vs,n::p,ws,q,h=>by
  show _::Zi (vs++ws) (p++q)=_::(Zi vs p++Zi ws q)
  rw[Dx ws q (by simpa using h)]
 | [],_::_,_,_,h=>by simp at h
 | _::_,[],_,_,h=>by simp at h
theorem Fz: ∀ {vs:List Str} {p:List Int},vs.length=p.length->Zi vs.reverse p.reverse=(Zi vs p).reverse
 | [],[],_=>rfl
 | v::vs,n::p,h=>by
  have h:vs.length=p.length:=by simpa using h
  rw[List.reverse_cons,List.reverse_cons,Dx _ _ (by simpa using h),Fz h]
  show _=(⟨v,n⟩::Zi vs p).reverse
  rw[List.reverse_cons];rfl
 | [],_::_,h=>by simp at h
 | _::_,[],h=>by simp at h
theorem SA{vs:List Str}{p:List Int}(hn:vs.Nodup)(hl:vs.length=p.length)(s:Str):Y6 (Zi vs.reverse p.reverse) s=Y6 (Zi vs p) s:=by
 rw[Fz hl]
 refine(a5q ?_ (List.reverse_perm _).symm s).symm
 exact hn.sublist CR.sublist
def Yb(b:BoxT):BoxT:=⟨b.v.reverse,b.m⟩
theorem FC(m:Int): ∀ (u v:List Str) (n:Int),u.length=v.length->QL m u n=QL m v n
 | [],[],_,_=>rfl
 | _::u,_::v,n,h=>by rw[QL,QL,FC m u v _ (by simpa using h)]
 | [],_::_,_,h=>by simp at h
 | _::_,[],_,h=>by simp at h
theorem a0a{α:Type}(f:α->Bool)(l:List α):l.reverse.all f=l.all f:=by simp
theorem Ru(b:BoxT):YZ (Yb b)=YZ b:=by
 unfold YZ Yb
 have e1:decide b.v.reverse.Nodup=decide b.v.Nodup:=by rw[decide_eq_decide];exact(List.reverse_perm _).nodup_iff
 have e2:b.v.reverse.isEmpty=b.v.isEmpty:=by simp
 rw[FC b.m b.v.reverse b.v 1 (by simp),a0a,e1,e2]
theorem Ed(vs ns:List Str):Qq vs.reverse ns=Qq vs ns:=by
 unfold Qq
 congr 1
 funext s
 simp
theorem JJ(b:BoxT)(fs:List Fact)(ok:Bool)(ns:List Str):Zm (Yb b) fs ok ns=Zm b fs ok ns:=by
 unfold Zm
 rw[Ru]
 show(if _ then _ else if Qq b.v.reverse _=true then _ else _)=_
 rw[Ed]
theorem Av{b:BoxT}{fs:List Fact}(hv:YZ b=true){p:List Int}(hl:b.v.length=p.length):X4 b.v.reverse fs p.reverse=X4 b.v fs p:=by
 unfold X4
 congr 1
 funext f
 exact OT (SA (X7.1 hv).2.1 hl) f
theorem TV{b:BoxT}{fs:List Fact}(hv:YZ b=true):(Z0 b fs).Nodup:=by
 unfold Z0
 rw[WX hv]
 exact(EN _ _).filter _
theorem b8i{α:Type}: ∀ a b:List α,a.reverse=b.reverse->a=b:=fun a b h=>by simpa using congrArg List.reverse h
theorem Sb{b:BoxT}{fs:List Fact}(hv:YZ b=true):(Z0 (Yb b) fs).Perm ((Z0 b fs).map List.reverse):=by
 have hv':YZ (Yb b)=true:=by rw[Ru];exact hv
 refine(List.perm_ext_iff_of_nodup (TV hv') ?_).2 fun q=> ?_
 ·exact List.Pairwise.map _ (fun a b h e=>h (b8i a b e)) (TV hv)
 ·rw[Gf hv',List.mem_map]
  constructor
  ·rintro⟨⟨h1,h2⟩,h3⟩
   have h1:q.length=b.v.length:=by rw[h1];exact List.length_reverse
   refine⟨q.reverse,(Gf hv).2 ⟨⟨by rw[List.length_reverse,h1],?_⟩,fun x hx=>h3 x (List.mem_reverse.1 hx)⟩,List.reverse_reverse q⟩
   rw[<- Av hv (by rw[List.length_reverse,h1]),List.reverse_reverse]
   exact h2
  ·rintro⟨p,hp,rfl⟩
   obtain⟨⟨h1,h2⟩,h3⟩:=(Gf hv).1 hp
   refine⟨⟨?_,?_⟩,fun x hx=>h3 x (List.mem_reverse.1 hx)⟩
   ·rw[List.length_reverse,h1];exact(List.length_reverse).symm
   ·show X4 b.v.reverse fs p.reverse=true
    rw[Av hv h1.symm];exact h2
theorem QN(b:BoxT)(fs:List Fact):YD (Yb b) fs=YD b fs:=by
 unfold YD YG
 rw[JJ]
 by_cases h:Zm b fs true []=0
 ·rw[if_pos h,if_pos h]
  have:=(Sb (fs:=fs) (WA _ _ _ _ h).1).length_eq
  rw[List.length_map]at this
  simp only[this]
 ·rw[if_neg h,if_neg h]
theorem a5b{l m:List Int}(h:l.Perm m):Ue lessB l=Ue lessB m:=by
 cases h1:Ue lessB l with
 | none=>
  rw[RJ]at h1
  subst h1
  have:m=[]:=h.nil_eq.symm
  rw[this];rfl
 | some x=>
  cases h2:Ue lessB m with
  | none=>rw[RJ]at h2;subst h2;rw[h.eq_nil]at h1;cases h1
  | some y=>
   obtain⟨a1,a2⟩:=TT h1
   obtain⟨b1,b2⟩:=TT h2
   have:=a2 y (h.mem_iff.2 b1)
   have:=b2 x (h.mem_iff.1 a1)
   congr 1;omega
theorem a5n{b:BoxT}{fs:List Fact}(hv:YZ b=true)(l:Lin):(Yz (Yb b) fs l).Perm (Yz b fs l):=by
 unfold Yz
 refine((Sb hv).map _).trans ?_
 rw[List.map_map]
 refine .of_eq (List.map_congr_left fun p hp=> ?_)
 show(YP l (Zi b.v.reverse p.reverse)).1=_
 rw[Bg (SA (X7.1 hv).2.1 ((Gf hv).1 hp).1.1.symm)]
theorem QT(b:BoxT)(fs:List Fact)(l:Lin):XM lessB (Yb b) fs l=XM lessB b fs l:=by
 unfold XM
 rw[JJ]
 by_cases h:Zm b fs (Zz l) (Zp l)=0
 ·rw[if_pos h,if_pos h,a5b (a5n (WA _ _ _ _ h).1 l)]
 ·rw[if_neg h,if_neg h]
theorem a5i{l m:List Int}(h:l.Perm m):XY l=XY m:=by
 unfold XY
 have e1:l.all VT=m.all VT:=by
  rw[Bool.eq_iff_iff,List.all_eq_true,List.all_eq_true]
  exact⟨fun a x hx=>a x (h.mem_iff.2 hx),fun a x hx=>a x (h.mem_iff.1 hx)⟩
 have e2:l.sum=m.sum:=by
  clear e1
  induction h with
  | nil=>rfl
  | cons x _ ih=>rw[List.sum_cons,List.sum_cons,ih]
  | swap x y l=>simp only[List.sum_cons];omega
  | trans _ _ h1 h2=>rw[h1,h2]
 rw[e2,e1]
theorem KX{p:List Mono}{vs:List Str}: ∀ {qs:List (List Int)},(∀ q∈qs,(Z7 p (Zi vs q)).2=0)->Xm p vs qs=some (qs.map fun q=>(Z7 p (Zi vs q)).1)
 | [],_=>rfl
 | q::r,h=>by rw[Xm,if_neg (by simp[h q (by simp)]),KX fun q hq=>h q (by simp[hq])];rfl
theorem QS{p:List Mono}{vs:List Str}: ∀ {qs:List (List Int)} {l:List Int},Xm p vs qs=some l->(∀ q∈qs,(Z7 p (Zi vs q)).2=0)∧l=qs.map fun q=>(Z7 p (Zi vs q)).1
 | [],_,h=>by cases h;exact⟨by simp,rfl⟩
 | q::r,l,h=>by
  rw[Xm]at h
  split at h
  ·cases h
  ·rename_i h0
   have h0:(Z7 p (Zi vs q)).2=0:=by simpa using h0
   obtain⟨m,hm,rfl⟩:=Option.map_eq_some_iff.1 h
   obtain⟨a,rfl⟩:=QS hm
   exact⟨fun x hx=>by rcases List.mem_cons.1 hx with rfl|hx;exact h0;exact a x hx,rfl⟩
theorem O0{b:BoxT}{fs:List Fact}(hv:YZ b=true)(p:List Mono):
  (Xm p b.v.reverse (Z0 (Yb b) fs)=none∧Xm p b.v (Z0 b fs)=none) ∨ ∃ l m,Xm p b.v.reverse (Z0 (Yb b) fs)=some l∧Xm p b.v (Z0 b fs)=some m∧l.Perm m:=by
 have hp:=Sb (fs:=fs) hv
 have he : ∀ q∈Z0 b fs,Z7 p (Zi b.v.reverse q.reverse)=Z7 p (Zi b.v q):=fun q hq=>Et (SA (X7.1 hv).2.1 ((Gf hv).1 hq).1.1.symm) p
 have hall:(∀ q∈Z0 (Yb b) fs,(Z7 p (Zi b.v.reverse q)).2=0) ↔ ∀ q∈Z0 b fs,(Z7 p (Zi b.v q)).2=0:=by
  constructor
  ·intro h q hq
   rw[<- he q hq]
   exact h _ (hp.mem_iff.2 (List.mem_map_of_mem hq))
  ·intro h q hq
   obtain⟨r,hr,rfl⟩:=List.mem_map.1 (hp.mem_iff.1 hq)
   rw[he r hr];exact h r hr
 by_cases h : ∀ q∈Z0 b fs,(Z7 p (Zi b.v q)).2=0
 ·refine .inr ⟨_,_,KX (hall.2 h),KX h,?_⟩
  refine(hp.map _).trans ?_
  rw[List.map_map]
  refine .of_eq (List.map_congr_left fun q hq=> ?_)
  show(Z7 p (Zi b.v.reverse q.reverse)).1=_
  rw[he q hq]
 ·refine .inl ⟨?_,?_⟩
  ·cases h1:Xm p b.v.reverse (Z0 (Yb b) fs)with
   | none=>rfl
   | some l=>exact absurd (hall.1 (QS h1).1) h
  ·cases h1:Xm p b.v (Z0 b fs)with
   | none=>rfl
   | some l=>exact absurd (QS h1).1 h
theorem Hr(b:BoxT)(fs:List Fact)(p:List Mono):Z8 (Yb b) fs p=Z8 b fs p:=by
 unfold Z8
 rw[JJ]
 by_cases h:Zm b fs (ZC p) (Yo p)=0
 ·rw[if_pos h,if_pos h]
  show(match Xm p b.v.reverse (Z0 (Yb b) fs)with|none=>((0:Int),(2:Int))|some l=>XY l)=_
  rcases O0 (fs:=fs) (WA _ _ _ _ h).1 p with ⟨h1,h2⟩|⟨l,m,h1,h2,h3⟩
  ·rw[h1,h2]
  ·rw[h1,h2];exact a5i h3
 ·rw[if_neg h,if_neg h]
theorem a5r{n:Nat}(h:n<=1000000):XY (List.replicate n 1)=((n:Int),0):=by
 unfold XY
 have h1:(List.replicate n (1:Int)).all VT=true:=List.all_eq_true.2 fun x hx=>by rw[List.eq_of_mem_replicate hx];decide
 have h2:(List.replicate n (1:Int)).sum=n:=by rw[List.sum_replicate_int];omega
 rw[h1,h2]
 have:VT (n:Int)=true:=by
  unfold VT
  rw[decide_eq_true (by omega),decide_eq_true (by omega)];rfl
 rw[this];rfl
theorem LP(vs:List Coef):Z7 [⟨1,[]⟩] vs=(1,0):=by
 unfold Z7
 rw[if_pos (by decide)]
 rfl
theorem Cm(b:BoxT)(fs:List Fact)(hb:b.v.length<=1000):Z8 b fs [⟨1,[]⟩]=YD b fs:=by
 have h1:ZC [⟨1,[]⟩]=true:=by decide
 have h2:Yo [⟨1,[]⟩]=[]:=TI rfl
 unfold Z8 YD YG
 rw[h1,h2]
 by_cases h:Zm b fs true []=0
 ·rw[if_pos h,if_pos h,KX (fun q _=>by rw[LP])]
  have e:((Z0 b fs).map fun q=>(Z7 [⟨1,[]⟩] (Zi b.v q)).1)=List.replicate (Z0 b fs).length 1:=by
   rw[List.eq_replicate_iff]
   refine⟨List.length_map _,fun x hx=> ?_⟩
   obtain⟨q,_,rfl⟩:=List.mem_map.1 hx
   rw[LP]
  rw[e]
  refine a5r ?_
  have:=(a3t (b:=b) (fs:=fs) hb).1
  unfold YG at this
  rw[if_pos h]at this
  have this:(Z0 b fs).length<=20000:=this
  omega
 ·rw[if_neg h,if_neg h];rfl
end Go.Pl

namespace Go.Pl
open Go.RowKit
open Enc (enc dec is)
open EncL (encL decL isL)
theorem OC{x y:Str}(h1 : ¬ x.s<y.s)(h2 : ¬ y.s<x.s):x=y:=by
 have:x.s=y.s:=by
  rcases List.le_iff_lt_or_eq.1 (List.not_lt.1 h2)with h|h
  ·exact absurd h h1
  ·exact h
 cases x;cases y;cases this;rfl
theorem Sm: ∀ a b:List Str,Yg a b=0 ↔ a=b
 | [],[]=>by simp[Yg]
 | [],y::b=>by simp[Yg];omega
 | x::a,[]=>by simp[Yg];omega
 | x::a,y::b=>by
  rw[Yg]
  by_cases h1:x.s<y.s
  ·rw[if_pos h1]
   constructor
   ·intro h;cases h
   ·intro h;cases h;exact absurd h1 (List.lt_irrefl _)
  ·rw[if_neg h1]
   by_cases h2:y.s<x.s
   ·rw[if_pos h2]
    constructor
    ·intro h;cases h
    ·intro h;cases h;exact absurd h2 (List.lt_irrefl _)
   ·rw[if_neg h2,Sm a b,OC h1 h2]
    simp
def Xa(m:Mono):Bool->List Mono->List Mono
 | put,[]=>if put then []else [m]
 | put,x::r=>
  if !put&&decide (Yg x.v m.v>0)then m::(if x.c≠0 then x::Xa m true r else Xa m true r)
  else if !put&&decide (Yg x.v m.v=0)then(if V8 (x.c+m.c)≠0 then⟨V8 (x.c+m.c),x.v⟩::Xa m true r else Xa m true r)
  else if x.c≠0 then x::Xa m put r else Xa m put r
def Y2(p:List Mono)(m:Mono):List Mono:=Xa m (decide (m.c=0)) p
def KC(p:List Mono):List Mono×Int:=if ZC p then(p,0)else([],3)
def Jq(l:Lin):List Mono×Int:=if Zz l then KC (l.t.foldl (fun o t=>Y2 o ⟨t.c,[t.v]⟩) (Y2 [] ⟨l.k,[]⟩))else([],1)
def XC(a b:List Mono)(k:Int):List Mono:=b.foldl (fun o m=>Y2 o ⟨V8 (k*m.c),m.v⟩) a
def Vw(a b:List Mono):List Mono×Int:=if ZC a&&ZC b then KC (XC a b 1)else([],1)
theorem TN(m:Mono): ∀ (p:List Mono) (put:Bool),(Xa m put p).length<=p.length+1∧(Xa m true p).length<=p.length
 | [],put=>by cases put <;> simp[Xa]
 | x::r,put=>by
  obtain⟨h1,h3⟩:=TN m r put
  rw[Xa,Xa]
  simp only[Bool.not_true,Bool.false_and,Bool.false_eq_true,if_false]
  constructor
  ·split
   ·split <;> simp only[List.length_cons] <;> omega
   ·split
    ·split <;> (try simp only[List.length_cons]) <;> omega
    ·split <;> (try simp only[List.length_cons]) <;> omega
  ·split <;> (try simp only[List.length_cons]) <;> omega
theorem WU(p:List Mono)(m:Mono):(Y2 p m).length<=p.length+1:=(TN m p _).1
def a9t(v:List Coef)(s:Str):Int:=(Y6 v s).getD 0
def Ca(v:List Coef)(m:Mono):Int:=m.c*(m.v.map (a9t v)).foldr (· * ·) 1
def QJ(v:List Coef)(p:List Mono):Int:=(p.map (Ca v)).sum
theorem Y0(v:List Coef)(m:Mono)(p:List Mono):QJ v (m::p)=Ca v m+QJ v p:=by simp[QJ]
def UU(K:Nat)(p:List Mono):Prop:= ∀ m∈p,m.c.natAbs<=K
theorem Qv(v:List Coef){m:Mono}(h:m.c=0):Ca v m=0:=by unfold Ca;rw[h,Int.zero_mul]
theorem WP(v:List Coef)(m:Mono): ∀ p:List Mono,QJ v (Xa m true p)=QJ v p
 | []=>rfl
 | x::r=>by
  rw[Xa]
  simp only[Bool.not_true,Bool.false_and,Bool.false_eq_true,if_false]
  by_cases h:x.c=0
  ·rw[if_neg (by simp[h]),WP v m r,Y0,Qv v h,Int.zero_add]
  ·rw[if_pos h,Y0,Y0,WP v m r]
theorem Ry(v:List Coef)(m:Mono): ∀ (p:List Mono),(∀ x∈p,V8 (x.c+m.c)=x.c+m.c)->QJ v (Xa m false p)=QJ v p+Ca v m
 | [],_=>by simp[Xa,QJ]
 | x::r,h=>by
  have hx:=h x (by simp)
  have hr:=Ry v m r fun y hy=>h y (by simp[hy])
  rw[Xa]
  simp only[Bool.not_false,Bool.true_and]
  by_cases h1:Yg x.v m.v>0
  ·rw[if_pos (decide_eq_true h1),Y0]
   by_cases h0:x.c=0
   ·rw[if_neg (by simp[h0]),WP,Y0,Qv v h0];omega
   ·rw[if_pos h0,Y0,WP,Y0];omega
  ·rw[if_neg (by simpa using h1)]
   by_cases h2:Yg x.v m.v=0
   ·rw[if_pos (decide_eq_true h2),hx,Y0]
    have hv:=(Sm _ _).1 h2
    have e:Ca v x+Ca v m=Ca v ⟨x.c+m.c,x.v⟩:=by
     unfold Ca
     rw[hv,<- Int.add_mul]
    by_cases h0:x.c+m.c=0
    ·rw[if_neg (by simp[h0]),WP]
     have:=Qv v (m:=⟨x.c+m.c,x.v⟩) h0
     omega
    ·rw[if_pos h0,Y0,WP];omega
   ·rw[if_neg (by simpa using h2)]
    by_cases h0:x.c=0
    ·rw[if_neg (by simp[h0]),hr,Y0,Qv v h0];omega
    ·rw[if_pos h0,Y0,hr,Y0];omega
theorem a3d(v:List Coef)(m:Mono)(p:List Mono)(h : ∀ x∈p,V8 (x.c+m.c)=x.c+m.c):QJ v (Y2 p m)=QJ v p+Ca v m:=by
 unfold Y2
 by_cases h0:m.c=0
 ·rw[decide_eq_true h0,WP,Qv v h0];omega
 ·rw[decide_eq_false h0,Ry v m p h]
theorem Ay{K L:Nat}(m:Mono)(hm:m.c.natAbs<=L)(hk:K+L<=9000000000000000000): ∀ (p:List Mono) (put:Bool),UU K p->UU (K+L) (Xa m put p)
 | [],put,_=>by
  cases put
  ·intro x hx
   have:x=m:=by simpa [Xa]using hx
   subst this;omega
  ·intro x hx;simp[Xa]at hx
 | y::r,put,h=>by
  have hy:=h y (by simp)
  have hr:UU K r:=fun x hx=>h x (by simp[hx])
  have i1:=Ay m hm hk r true hr
  have i2:=Ay m hm hk r put hr
  have cons : ∀ {x:Mono} {l:List Mono},x.c.natAbs<=K+L->UU (K+L) l->UU (K+L) (x::l):=by
   intro x l h1 h2 z hz
   rcases List.mem_cons.1 hz with rfl|hz
   ·exact h1
   ·exact h2 z hz
  rw[Xa]
  split
  ·refine cons (by omega) ?_
   split
   ·exact cons (by omega) i1
   ·exact i1
  ·split
   ·have e:V8 (y.c+m.c)=y.c+m.c:=X8 (by omega) (by omega)
    split
    ·refine cons ?_ i1
     show(V8 (y.c+m.c)).natAbs<=_
     rw[e];omega
    ·exact i1
   ·split
    ·exact cons (by omega) i2
    ·exact i2
theorem BM(v:List Coef): ∀ (b a:List Mono) (K:Nat),UU K a->UU 1099511627776 b->K+b.length*1099511627776<=9000000000000000000->QJ v (XC a b 1)=QJ v a+QJ v b
 | [],a,K,_,_,_=>by simp[XC,QJ]
 | m::b,a,K,ha,hb,hk=>by
  have hm:=hb m (by simp)
  rw[List.length_cons]at hk
  have e:V8 (1*m.c)=m.c:=by rw[Int.one_mul];exact X8 (by omega) (by omega)
  have h1:XC a (m::b) 1=XC (Y2 a m) b 1:=by
   show XC (Y2 a ⟨V8 (1*m.c),m.v⟩) b 1=_
   rw[e]
  rw[h1,BM v b (Y2 a m) (K+1099511627776) (Ay m hm (by omega) a _ ha) (fun x hx=>hb x (by simp[hx])) (by omega),a3d v m a (fun x hx=> ?_),Y0]
  ·omega
  ·have:=ha x hx
   exact X8 (by omega) (by omega)
theorem c1x{a b:Int}(h:(JS a b).2=0):(JS a b).1=a*b:=by
 unfold JS at h ⊢
 split at h
 ·rename_i h1;rw[if_pos h1]
 ·cases h
theorem a1c{l:List Int}(h:(XY l).2=0):(XY l).1=l.sum:=by
 unfold XY at h ⊢
 split at h
 ·rename_i h1;rw[if_pos h1]
 ·cases h
theorem LJ: ∀ {l:List Int} {o:Int},(DW o l).2=0->(DW o l).1=o*l.foldr (· * ·) 1
 | [],o,_=>by simp[DW]
 | n::r,o,h=>by
  rw[DW]at h ⊢
  by_cases h1:(JS o n).2=0
  ·rw[if_neg (by simpa using h1)]at h ⊢
   rw[LJ h,c1x h1,List.foldr_cons,Int.mul_assoc]
  ·rw[if_pos h1]at h
   exact absurd h h1
theorem TY: ∀ {l:List Int},l.contains 0=true->l.foldr (· * ·) 1=(0:Int)
 | [],h=>by simp at h
 | n::r,h=>by
  rw[List.foldr_cons]
  by_cases h0:n=0
  ·rw[h0,Int.zero_mul]
  ·rw[TY (l:=r) (by
    rw[List.contains_cons,Bool.or_eq_true]at h
    rcases h with h|h
    ·exact absurd (eq_of_beq h).symm h0
    ·exact h),Int.mul_zero]
theorem b5k{l:List Int}(h:(YN l).2=0):(YN l).1=l.foldr (· * ·) 1:=by
 unfold YN at h ⊢
 by_cases h0:l.contains 0=true
 ·rw[if_pos h0,TY h0]
 ·rw[if_neg h0]at h ⊢
  rw[LJ h,Int.one_mul]
theorem Lt{v:List Coef}: ∀ {ss:List Str} {l:List Int},JW v ss=some l->l=ss.map (a9t v)
 | [],l,h=>by cases h;rfl
 | s::r,l,h=>by
  rw[JW]at h
  cases hs:Y6 v s with
  | none=>rw[hs]at h;cases h
  | some x=>
   rw[hs]at h
   obtain⟨m,hm,rfl⟩:=Option.map_eq_some_iff.1 h
   rw[Lt hm,List.map_cons]
   congr 1
   unfold a9t
   rw[hs];rfl
theorem Mf{v:List Coef}: ∀ {p:List Mono} {fs:List (List Int)} {l:List Int},Ht v p=some fs->Yp fs=some l->l=p.map (Ca v)
 | [],fs,l,h,h2=>by cases h;cases h2;rfl
 | m::r,fs,l,h,h2=>by
  rw[Ht]at h
  cases hm:JW v m.v with
  | none=>rw[hm]at h;cases h
  | some q=>
   rw[hm]at h
   obtain⟨gs,hg,rfl⟩:=Option.map_eq_some_iff.1 h
   rw[Yp]at h2
   split at h2
   ·cases h2
   ·rename_i h0
    have h0:(YN (m.c::q)).2=0:=by simpa using h0
    obtain⟨k,hk,rfl⟩:=Option.map_eq_some_iff.1 h2
    rw[Mf hg hk,b5k h0,List.map_cons]
    congr 1
    unfold Ca
    rw[Lt hm,List.foldr_cons]
theorem a3g{p:List Mono}{v:List Coef}(h:(Z7 p v).2=0):(Z7 p v).1=QJ v p:=by
 unfold Z7 at h ⊢
 split at h
 ·rename_i hv
  rw[if_pos hv]
  cases hf:Ht v p with
  | none=>rw[hf]at h;cases h
  | some fs=>
   rw[hf]at h
   simp only at h ⊢
   split at h
   ·cases h
   ·rename_i hb
    rw[if_neg hb]
    cases hp:Yp fs with
    | none=>rw[hp]at h;cases h
    | some l=>
     rw[hp]at h
     simp only at h ⊢
     rw[a1c h,Mf hf hp];rfl
 ·cases h
theorem SB{b:BoxT}{fs:List Fact}{p:List Mono}(h:(Z8 b fs p).2=0):Zm b fs (ZC p) (Yo p)=0∧(Z8 b fs p).1=((Z0 b fs).map fun q=>QJ (Zi b.v q) p).sum:=by
 unfold Z8 at h ⊢
 by_cases h0:Zm b fs (ZC p) (Yo p)=0
 ·rw[if_pos h0]at h ⊢
  refine⟨h0,?_⟩
  cases hv:Xm p b.v (Z0 b fs)with
  | none=>rw[hv]at h;cases h
  | some l=>
   rw[hv]at h
   simp only at h ⊢
   obtain⟨a,rfl⟩:=QS hv
   rw[a1c h]
   congr 1
   exact List.map_congr_left fun q hq=>a3g (a q hq)
 ·rw[if_neg h0]at h
  exact absurd h h0
theorem Cr{p:List Mono}(h:ZC p=true):UU 1099511627776 p∧p.length<=60:=by
 unfold ZC at h
 simp only[Bool.and_eq_true,decide_eq_true_eq,List.all_eq_true]at h
 refine⟨fun m hm=> ?_,h.1.1⟩
 have:=h.1.2 m hm
 unfold YK at this
 simp only[Bool.and_eq_true,decide_eq_true_eq]at this
 omega
theorem b8l{b:BoxT}{fs:List Fact}{p q:List Mono}(h0:(Vw p q).2=0)(h1:(Z8 b fs p).2=0)(h2:(Z8 b fs q).2=0)(h3:(Z8 b fs (Vw p q).1).2=0):
  (Z8 b fs (Vw p q).1).1=(Z8 b fs p).1+(Z8 b fs q).1:=by
 rw[(SB h1).2,(SB h2).2,(SB h3).2]
 have hpq:ZC p=true∧ZC q=true:=by
  unfold Vw at h0
  split at h0
  ·rename_i h;simpa using h
  ·cases h0
 have e:(Vw p q).1=XC p q 1:=by
  unfold Vw KC at h0 ⊢
  rw[hpq.1,hpq.2]at h0 ⊢
  simp only[Bool.and_self,if_true]at h0 ⊢
  split at h0
  ·rename_i h;rw[if_pos h]
  ·cases h0
 rw[e]
 obtain⟨a1,a2⟩:=Cr hpq.1
 obtain⟨b1,b2⟩:=Cr hpq.2
 have ev : ∀ v,QJ v (XC p q 1)=QJ v p+QJ v q:=fun v=>BM v q p _ a1 b1 (by omega)
 induction Z0 b fs with
 | nil=>rfl
 | cons x l ih=>simp only[List.map_cons,List.sum_cons,ev]at ih ⊢;rw[ih];omega
end Go.Pl

namespace Go.Pl
open Go.RowKit
open Enc (enc dec is)
open EncL (encL decL isL)
set_option maxRecDepth 100000
def VM:IC:=(.seq (.reg [⟨(some 4),(.mv (.c (.int .i64 0))),0,none⟩] none) (.seq (.seq (.reg [⟨(some 5),(.mv (.c (.int .i64 0))),0,none⟩] none) (.block 0 (.loop [5,0,1] (.seq (.seq (.reg [⟨(some 6),(.mv (.t 5)),0,none⟩,⟨(some 7),(.mv (.t 0)),0,none⟩,⟨(some 8),(.len 1 (.t 7)),0,none⟩,⟨(some 9),(.bin .num .lss (.t 6) (.t 8)),0,none⟩,⟨(some 10),(.mv (.t 9)),0,none⟩,⟨(some 11),(.mv (.t 5)),0,(some (10,true))⟩,⟨(some 12),(.mv (.t 1)),0,(some (10,true))⟩,⟨(some 13),(.len 1 (.t 12)),0,(some (10,true))⟩,⟨(some 14),(.bin .num .lss (.t 11) (.t 13)),0,(some (10,true))⟩,⟨(some 15),(.pick (.t 10) (.t 14) (.c (.bool false))),0,none⟩] none) (.cond (.t 15) .skip (.exit 0))) (.seq (.block 1 (.seq (.seq (.reg [⟨(some 18),(.mv (.t 0)),0,none⟩,⟨(some 19),(.mv (.t 5)),0,none⟩,⟨(some 20),(.iaddr 1 (.t 18) (.t 19)),0,none⟩,⟨(some 21),(.load false [.str] (.t 20)),0,none⟩,⟨(some 22),(.mv (.t 1)),0,none⟩,⟨(some 23),(.mv (.t 5)),0,none⟩,⟨(some 24),(.iaddr 1 (.t 22) (.t 23)),0,none⟩,⟨(some 25),(.load false [.str] (.t 24)),0,none⟩,⟨(some 26),(.bin .num .lss (.t 21) (.t 25)),0,none⟩] (some [[],[],[0,1],[2,0,1],[],[],[4,5],[6,4,5],[3,7,2,0,1,6,4,5]])) (.cond (.t 26) (.seq (.reg [⟨(some 4),(.mv (.c (.int .i64 (-1)))),0,none⟩] none) .ret) .skip)) (.seq (.reg [⟨(some 27),(.mv (.t 0)),0,none⟩,⟨(some 28),(.mv (.t 5)),0,none⟩,⟨(some 29),(.iaddr 1 (.t 27) (.t 28)),0,none⟩,⟨(some 30),(.load false [.str] (.t 29)),0,none⟩,⟨(some 31),(.mv (.t 1)),0,none⟩,⟨(some 32),(.mv (.t 5)),0,none⟩,⟨(some 33),(.iaddr 1 (.t 31) (.t 32)),0,none⟩,⟨(some 34),(.load false [.str] (.t 33)),0,none⟩,⟨(some 35),(.bin .num .gtr (.t 30) (.t 34)),0,none⟩] (some [[],[],[0,1],[2,0,1],[],[],[4,5],[6,4,5],[3,7,2,0,1,6,4,5]])) (.cond (.t 35) (.seq (.reg [⟨(some 4),(.mv (.c (.int .i64 1))),0,none⟩] none) .ret) .skip)))) (.reg [⟨(some 16),(.mv (.t 5)),0,none⟩,⟨(some 17),(.bin .num .add (.t 16) (.c (.int .i64 1))),0,none⟩,⟨(some 5),(.mv (.t 17)),0,none⟩] none)))))) (.seq (.reg [⟨(some 36),(.mv (.t 0)),0,none⟩,⟨(some 37),(.len 1 (.t 36)),0,none⟩,⟨(some 38),(.mv (.t 1)),0,none⟩,⟨(some 39),(.len 1 (.t 38)),0,none⟩,⟨(some 40),(.bin .num .sub (.t 37) (.t 39)),0,none⟩,⟨(some 4),(.mv (.t 40)),0,none⟩] none) .ret)))
def VG:List IRes:=[(.tmp 4)]
abbrev a4g:Nat:=41
def Uw:ZK:=Xp []
theorem b5c{G:PV->Prop}(a b:List Str)(h:At Uw 0 (Za VG G) VM 0 41 [(0,(.pv (.sl 1 false (List.map enc a)))),(1,(.pv (.sl 1 false (List.map enc b)))),(5,(.pv (.int .i64 0)))] []):Zc Uw 0 (Za VG G) VM [] (Yr 41 [enc a,enc b]):=Zc.tp (.nil) h (by kernel_rfl)
theorem GY{G:PV->Prop}(a b:List Str)(i:Int)(h:if (decide (i<(↑(List.length (List.map enc a)):Int)))=true then if (decide (i<(↑(List.length (List.map enc b)):Int)))=true then(decide (0<=i)&&decide (Int.toNat i<List.length (List.map enc a))&&Enc.sz Str==1)=true∧(∃ y0:Str,AV.pv (PV.rptr (PV.cells (List.getD (List.map enc a) (Int.toNat i) default)))=AV.pv (PV.rptr (PV.cells ((enc) y0)))∧((decide (0<=i)&&decide (Int.toNat i<List.length (List.map enc b))&&Enc.sz Str==1)=true∧(∃ y1:Str,AV.pv (PV.rptr (PV.cells (List.getD (List.map enc b) (Int.toNat i) default)))=AV.pv (PV.rptr (PV.cells ((enc) y1)))∧(if (Op.bytesLess (PV.asStr (List.getD (PV.cells (enc y0)) 0 default)) (PV.asStr (List.getD (PV.cells (enc y1)) 0 default)))=true then G ((.int .i64 (-1)))else((decide (0<=i)&&decide (Int.toNat i<List.length (List.map enc a))&&Enc.sz Str==1)=true∧(∃ y2:Str,AV.pv (PV.rptr (PV.cells (List.getD (List.map enc a) (Int.toNat i) default)))=AV.pv (PV.rptr (PV.cells ((enc) y2)))∧((decide (0<=i)&&decide (Int.toNat i<List.length (List.map enc b))&&Enc.sz Str==1)=true∧(∃ y3:Str,AV.pv (PV.rptr (PV.cells (List.getD (List.map enc b) (Int.toNat i) default)))=AV.pv (PV.rptr (PV.cells ((enc) y3)))∧(if (!(Op.bytesLess (PV.asStr (List.getD (PV.cells (enc y2)) 0 default)) (PV.asStr (List.getD (PV.cells (enc y3)) 0 default))||PV.asStr (List.getD (PV.cells (enc y2)) 0 default)==PV.asStr (List.getD (PV.cells (enc y3)) 0 default)))=true then G ((.int .i64 1))else(At Uw 0 (Za VG G) VM 0 41 [(0,(.pv (.sl 1 false (List.map enc a)))),(1,(.pv (.sl 1 false (List.map enc b)))),(5,(.pv (.int .i64 (IntKind.wrap IntKind.i64 (i+1)))))] []))))))))))else(G ((.int .i64 (IntKind.wrap IntKind.i64 ((↑(List.length (List.map enc a)):Int) - (↑(List.length (List.map enc b)):Int))))))else(G ((.int .i64 (IntKind.wrap IntKind.i64 ((↑(List.length (List.map enc a)):Int) - (↑(List.length (List.map enc b)):Int))))))):At Uw 0 (Za VG G) VM 0 41 [(0,.pv (enc a)),(1,.pv (enc b)),(5,.pv (.int .i64 i))] []:=At.tp (.lit (.ask (.lit (.lit (.lit (.lit (.lit (.ask (.req (.abs (Str) (fun YY=>AV.pv (PV.rptr (PV.cells ((enc) YY)))) (.lit (.req (.abs (Str) (fun YY=>AV.pv (PV.rptr (PV.cells ((enc) YY)))) (.lit (.lit (.ask (.nil) (.req (.abs (Str) (fun YY=>AV.pv (PV.rptr (PV.cells ((enc) YY)))) (.lit (.req (.abs (Str) (fun YY=>AV.pv (PV.rptr (PV.cells ((enc) YY)))) (.lit (.lit (.ask (.nil) (.lit (.nil)))))))))))))))))) (.lit (.nil)))))))) (.lit (.lit (.lit (.lit (.lit (.lit (.nil))))))))) h (by kernel_rfl)
def Vn:IC:=(.seq (.reg [⟨(some 2),(.mv (.c (.bool false))),0,none⟩] none) (.seq (.seq (.reg [⟨(some 6),(.mv (.t 0)),0,none⟩,⟨(some 7),(.len 1 (.t 6)),0,none⟩,⟨(some 8),(.bin .num .gtr (.t 7) (.c (.int .i64 60))),0,none⟩] none) (.cond (.t 8) (.seq (.reg [⟨(some 2),(.mv (.c (.bool false))),0,none⟩] none) .ret) .skip)) (.seq (.seq (.reg [⟨(some 3),(.mv (.c (.int .i64 0))),0,none⟩] none) (.block 0 (.loop [3,0] (.seq (.seq (.reg [⟨(some 9),(.mv (.t 3)),0,none⟩,⟨(some 10),(.mv (.t 0)),0,none⟩,⟨(some 11),(.len 1 (.t 10)),0,none⟩,⟨(some 12),(.bin .num .lss (.t 9) (.t 11)),0,none⟩] none) (.cond (.t 12) .skip (.exit 0))) (.seq (.block 1 (.seq (.reg [⟨(some 15),(.mv (.t 0)),0,none⟩,⟨(some 16),(.mv (.t 3)),0,none⟩,⟨(some 17),(.iaddr 2 (.t 15) (.t 16)),0,none⟩,⟨(some 18),(.load true [(.int .i64),(.sl 1)] (.t 17)),0,none⟩,⟨(some 4),(.alloc (.agg [(.int .i64 0),(.sl 0 true [])])),0,none⟩,⟨none,(.store 2 (.t 4) (.t 18)),1,none⟩] none) (.seq (.seq (.reg [⟨(some 19),(.faddr 0 (.t 4)),0,none⟩,⟨(some 20),(.load false [(.int .i64)] (.t 19)),0,none⟩,⟨(some 21),(.bin .num .eql (.t 20) (.c (.int .i64 0))),0,none⟩,⟨(some 22),(.mv (.t 21)),0,none⟩,⟨(some 23),(.faddr 0 (.t 4)),0,(some (22,false))⟩,⟨(some 24),(.load false [(.int .i64)] (.t 23)),0,(some (22,false))⟩,⟨(some 25),(.bin .num .lss (.t 24) (.c (.int .i64 (-1099511627776)))),0,(some (22,false))⟩,⟨(some 26),(.pick (.t 22) (.c (.bool true)) (.t 25)),0,none⟩,⟨(some 27),(.mv (.t 26)),0,none⟩,⟨(some 28),(.faddr 0 (.t 4)),0,(some (27,false))⟩,⟨(some 29),(.load false [(.int .i64)] (.t 28)),0,(some (27,false))⟩,⟨(some 30),(.bin .num .gtr (.t 29) (.c (.int .i64 1099511627776))),0,(some (27,false))⟩,⟨(some 31),(.pick (.t 27) (.c (.bool true)) (.t 30)),0,none⟩,⟨(some 32),(.mv (.t 31)),0,none⟩,⟨(some 33),(.faddr 1 (.t 4)),0,(some (32,false))⟩,⟨(some 34),(.load false [(.sl 1)] (.t 33)),0,(some (32,false))⟩,⟨(some 35),(.len 1 (.t 34)),0,(some (32,false))⟩,⟨(some 36),(.bin .num .gtr (.t 35) (.c (.int .i64 8))),0,(some (32,false))⟩,⟨(some 37),(.pick (.t 32) (.c (.bool true)) (.t 36)),0,none⟩,⟨(some 38),(.mv (.t 37)),0,none⟩,⟨(some 39),(.mv (.t 3)),0,(some (38,false))⟩,⟨(some 40),(.bin .num .gtr (.t 39) (.c (.int .i64 0))),0,(some (38,false))⟩,⟨(some 41),(.mv (.t 40)),0,(some (38,false))⟩,⟨(some 42),(.mv (.t 0)),0,(some (41,true))⟩,⟨(some 43),(.mv (.t 3)),0,(some (41,true))⟩,⟨(some 44),(.bin .num .sub (.t 43) (.c (.int .i64 1))),0,(some (41,true))⟩,⟨(some 45),(.iaddr 2 (.t 42) (.t 44)),0,(some (41,true))⟩,⟨(some 46),(.faddr 1 (.t 45)),0,(some (41,true))⟩,⟨(some 47),(.load false [(.sl 1)] (.t 46)),0,(some (41,true))⟩,⟨(some 48),(.faddr 1 (.t 4)),0,(some (41,true))⟩,⟨(some 49),(.load false [(.sl 1)] (.t 48)),0,(some (41,true))⟩,⟨(some 50),(.call (.c (.fn 195)) [(.t 47),(.t 49)]),0,(some (41,true))⟩,⟨(some 51),(.bin .num .geq (.t 50) (.c (.int .i64 0))),2,(some (41,true))⟩,⟨(some 52),(.pick (.t 41) (.t 51) (.c (.bool false))),2,(some (38,false))⟩,⟨(some 53),(.pick (.t 38) (.c (.bool true)) (.t 52)),2,none⟩] (some [[],[0],[1,0],[2,1,0],[3,2,1,0],[4,3,2,1,0],[5,3,4,2,1,0],[3,6,2,1,0,5,4],[7,3,6,2,1,0,5,4],[8,7,3,6,2,1,0,5,4],[9,8,7,3,6,2,1,0,5,4],[10,8,9,7,3,6,2,1,0,5,4],[8,11,7,3,6,2,1,0,5,4,10,9],[12,8,11,7,3,6,2,1,0,5,4,10,9],[13,12,8,11,7,3,6,2,1,0,5,4,10,9],[14,13,12,8,11,7,3,6,2,1,0,5,4,10,9],[15,13,14,12,8,11,7,3,6,2,1,0,5,4,10,9],[16,13,15,14,12,8,11,7,3,6,2,1,0,5,4,10,9],[13,17,12,8,11,7,3,6,2,1,0,5,4,10,9,16,15,14],[18,13,17,12,8,11,7,3,6,2,1,0,5,4,10,9,16,15,14],[19,18,13,17,12,8,11,7,3,6,2,1,0,5,4,10,9,16,15,14],[20,19,18,13,17,12,8,11,7,3,6,2,1,0,5,4,10,9,16,15,14],[21,19,20,18,13,17,12,8,11,7,3,6,2,1,0,5,4,10,9,16,15,14],[22,21,19,20,18,13,17,12,8,11,7,3,6,2,1,0,5,4,10,9,16,15,14],[22,21,19,20,18,13,17,12,8,11,7,3,6,2,1,0,5,4,10,9,16,15,14],[24,22,21,19,20,18,13,17,12,8,11,7,3,6,2,1,0,5,4,10,9,16,15,14],[23,25,22,21,19,20,18,13,17,12,8,11,7,3,6,2,1,0,5,4,10,9,16,15,14,24],[26,22,23,25,21,19,20,18,13,17,12,8,11,7,3,6,2,1,0,5,4,10,9,16,15,14,24],[27,22,26,23,25,21,19,20,18,13,17,12,8,11,7,3,6,2,1,0,5,4,10,9,16,15,14,24],[22,21,19,20,18,13,17,12,8,11,7,3,6,2,1,0,5,4,10,9,16,15,14],[29,22,21,19,20,18,13,17,12,8,11,7,3,6,2,1,0,5,4,10,9,16,15,14],[28,30,22,27,26,23,25,21,19,20,18,13,17,12,8,11,7,3,6,2,1,0,5,4,10,9,16,15,14,24,29],[31,22,28,30,27,26,23,25,21,19,20,18,13,17,12,8,11,7,3,6,2,1,0,5,4,10,9,16,15,14,24,29],[22,32,19,21,20,18,13,17,12,8,11,7,3,6,2,1,0,5,4,10,9,16,15,14,31,28,30,27,26,23,25,24,29],[19,33,18,13,17,12,8,11,7,3,6,2,1,0,5,4,10,9,16,15,14,22,32,21,20,31,28,30,27,26,23,25,24,29]])) (.cond (.t 53) (.seq (.reg [⟨(some 2),(.mv (.c (.bool false))),0,none⟩] none) .ret) .skip)) (.seq (.reg [⟨(some 5),(.mv (.c (.int .i64 0))),0,none⟩] none) (.block 2 (.loop [5,4,3,0] (.seq (.seq (.reg [⟨(some 54),(.mv (.t 5)),0,none⟩,⟨(some 55),(.faddr 1 (.t 4)),0,none⟩,⟨(some 56),(.load false [(.sl 1)] (.t 55)),0,none⟩,⟨(some 57),(.len 1 (.t 56)),0,none⟩,⟨(some 58),(.bin .num .lss (.t 54) (.t 57)),0,none⟩] none) (.cond (.t 58) .skip (.exit 2))) (.seq (.block 3 (.seq (.reg [⟨(some 61),(.faddr 1 (.t 4)),0,none⟩,⟨(some 62),(.load false [(.sl 1)] (.t 61)),0,none⟩,⟨(some 63),(.mv (.t 5)),0,none⟩,⟨(some 64),(.iaddr 1 (.t 62) (.t 63)),0,none⟩,⟨(some 65),(.load false [.str] (.t 64)),0,none⟩,⟨(some 66),(.call (.c (.fn 84)) [(.t 65)]),0,none⟩,⟨(some 67),(.un .not (.t 66)),2,none⟩,⟨(some 68),(.mv (.t 67)),2,none⟩,⟨(some 69),(.mv (.t 5)),2,(some (68,false))⟩,⟨(some 70),(.bin .num .gtr (.t 69) (.c (.int .i64 0))),2,(some (68,false))⟩,⟨(some 71),(.mv (.t 70)),2,(some (68,false))⟩,⟨(some 72),(.faddr 1 (.t 4)),2,(some (71,true))⟩,⟨(some 73),(.load false [(.sl 1)] (.t 72)),2,(some (71,true))⟩,⟨(some 74),(.mv (.t 5)),2,(some (71,true))⟩,⟨(some 75),(.bin .num .sub (.t 74) (.c (.int .i64 1))),2,(some (71,true))⟩,⟨(some 76),(.iaddr 1 (.t 73) (.t 75)),2,(some (71,true))⟩,⟨(some 77),(.load false [.str] (.t 76)),2,(some (71,true))⟩,⟨(some 78),(.faddr 1 (.t 4)),2,(some (71,true))⟩,⟨(some 79),(.load false [(.sl 1)] (.t 78)),2,(some (71,true))⟩,⟨(some 80),(.mv (.t 5)),2,(some (71,true))⟩,⟨(some 81),(.iaddr 1 (.t 79) (.t 80)),2,(some (71,true))⟩,⟨(some 82),(.load false [.str] (.t 81)),2,(some (71,true))⟩,⟨(some 83),(.bin .num .gtr (.t 77) (.t 82)),2,(some (71,true))⟩,⟨(some 84),(.pick (.t 71) (.t 83) (.c (.bool false))),2,(some (68,false))⟩,⟨(some 85),(.pick (.t 68) (.c (.bool true)) (.t 84)),2,none⟩] (some [[],[0],[],[1,2,0],[3,1,2,0],[4,3,1,2,0],[5,4,3,1,2,0],[6,5,4,3,1,2,0],[7,6,5,4,3,1,2,0],[8,7,6,5,4,3,1,2,0],[9,7,8,6,5,4,3,1,2,0],[10,9,7,8,6,5,4,3,1,2,0],[11,10,9,7,8,6,5,4,3,1,2,0],[10,9,7,8,6,5,4,3,1,2,0],[13,10,9,7,8,6,5,4,3,1,2,0],[12,14,10,11,9,7,8,6,5,4,3,1,2,0,13],[15,10,12,14,11,9,7,8,6,5,4,3,1,2,0,13],[10,9,7,8,6,5,4,3,1,2,0],[17,10,9,7,8,6,5,4,3,1,2,0],[10,9,7,8,6,5,4,3,1,2,0],[18,19,10,17,9,7,8,6,5,4,3,1,2,0],[20,10,18,19,17,9,7,8,6,5,4,3,1,2,0],[16,21,10,15,12,14,11,9,7,8,6,5,4,3,1,2,0,13,20,18,19,17],[10,22,7,9,8,6,5,4,3,1,2,0,16,21,15,12,14,11,13,20,18,19,17],[7,23,6,5,4,3,1,2,0,10,22,9,8,16,21,15,12,14,11,13,20,18,19,17]])) (.cond (.t 85) (.seq (.reg [⟨(some 2),(.mv (.c (.bool false))),0,none⟩] none) .ret) .skip))) (.reg [⟨(some 59),(.mv (.t 5)),0,none⟩,⟨(some 60),(.bin .num .add (.t 59) (.c (.int .i64 1))),0,none⟩,⟨(some 5),(.mv (.t 60)),0,none⟩] none))))))))) (.reg [⟨(some 13),(.mv (.t 3)),0,none⟩,⟨(some 14),(.bin .num .add (.t 13) (.c (.int .i64 1))),0,none⟩,⟨(some 3),(.mv (.t 14)),0,none⟩] none)))))) (.seq (.reg [⟨(some 2),(.mv (.c (.bool true))),0,none⟩] none) .ret))))
def WM:List IRes:=[(.tmp 2)]
abbrev c3e:Nat:=86
def UK:ZK:=Xp [(195,.pure (preT (fun x:List Str×List Str×Unit=>Zn x.1&&Zn x.2.1)) (Zf (fun x:List Str×List Str×Unit=>Yg x.1 x.2.1))),(84,.pure (preT (fun _:Str×Unit=>true)) (Zf (fun x:Str×Unit=>ZB x.1)))]
theorem c7w{G:PV->Prop}(p:List Mono)(h:if (decide ((↑(List.length (List.map enc p)):Int)>60))=true then G ((.bool false))else(At UK 0 (Za WM G) Vn 0 86 [(0,(.pv (.sl 2 false (List.map enc p)))),(3,(.pv (.int .i64 0)))] [])):Zc UK 0 (Za WM G) Vn [] (Yr 86 [enc p]):=Zc.tp (.lit (.ask (.nil) (.nil))) h (by kernel_rfl)
theorem b1u{G:PV->Prop}(p:List Mono)(i:Int)(h:if (decide (i<(↑(List.length (List.map enc p)):Int)))=true then(decide (0<=i)&&decide (Int.toNat i<List.length (List.map enc p))&&Enc.sz Mono==2)=true∧(∃ y0:Mono,AV.pv (PV.rptr (PV.cells (List.getD (List.map enc p) (Int.toNat i) default)))=AV.pv (PV.rptr (PV.cells ((enc) y0)))∧(if (PV.asInt (List.getD (PV.cells (enc y0)) 0 default)==0)=true then G ((.bool false))else(if (decide (PV.asInt (List.getD (PV.cells (enc y0)) 0 default)<(-1099511627776:Int)))=true then G ((.bool false))else(if (decide (PV.asInt (List.getD (PV.cells (enc y0)) 0 default)>1099511627776))=true then G ((.bool false))else(if (decide ((↑(List.length (PV.asXs (List.getD (PV.cells (enc y0)) (0+1) default))):Int)>8))=true then G ((.bool false))else(if (decide (i>0))=true then(decide (0<=IntKind.wrap IntKind.i64 (i - 1))&&decide (Int.toNat (IntKind.wrap IntKind.i64 (i - 1))<List.length (List.map enc p))&&Enc.sz Mono==2)=true∧(∃ y1:Mono,AV.pv (PV.rptr (PV.cells (List.getD (List.map enc p) (Int.toNat (IntKind.wrap IntKind.i64 (i - 1))) default)))=AV.pv (PV.rptr (PV.cells ((enc) y1)))∧((Go.Pl.preT (fun(x:List Str×List Str×Unit)=>Zn x.1&&Zn x.2.1) [(.sl 1 false (PV.asXs (List.getD (List.drop 1 (PV.cells (enc y1))) 0 default))),(.sl 1 false (PV.asXs (List.getD (PV.cells (enc y0)) (0+1) default)))])=true∧(∃ y2:Int,AV.pv (Zf (fun(x:List Str×List Str×Unit)=>Yg x.1 x.2.1) [(.sl 1 false (PV.asXs (List.getD (List.drop 1 (PV.cells (enc y1))) 0 default))),(.sl 1 false (PV.asXs (List.getD (PV.cells (enc y0)) (0+1) default)))])=AV.pv (enc y2)∧(if (decide (y2 ≥ 0))=true then G ((.bool false))else(At UK 0 (Za WM G) Vn 1 86 [(0,(.pv (.sl 2 false (List.map enc p)))),(3,(.pv (.int .i64 i))),(4,(.ptr 0 0)),(5,(.pv (.int .i64 0)))] [(.obj (.box [(.pv (.int .i64 (PV.asInt (List.getD (PV.cells (enc y0)) 0 default)))),(.pv (.sl 1 false (PV.asXs (List.getD (PV.cells (enc y0)) (0+1) default))))]))])))))else(At UK 0 (Za WM G) Vn 1 86 [(0,(.pv (.sl 2 false (List.map enc p)))),(3,(.pv (.int .i64 i))),(4,(.ptr 0 0)),(5,(.pv (.int .i64 0)))] [(.obj (.box [(.pv (.int .i64 (PV.asInt (List.getD (PV.cells (enc y0)) 0 default)))),(.pv (.sl 1 false (PV.asXs (List.getD (PV.cells (enc y0)) (0+1) default))))]))])))))))else(G ((.bool true)))):At UK 0 (Za WM G) Vn 0 86 [(0,.pv (enc p)),(3,.pv (.int .i64 i))] []:=At.tp (.lit (.ask (.req (.abs (Mono) (fun YY=>AV.pv (PV.rptr (PV.cells ((enc) YY)))) (.lit (.lit (.ask (.lit (.lit (.lit (.lit (.lit (.lit (.lit (.lit (.lit (.lit (.lit (.lit (.lit (.lit (.lit (.lit (.lit (.lit (.nil))))))))))))))))))) (.lit (.lit (.lit (.lit (.ask (.lit (.lit (.lit (.lit (.lit (.lit (.lit (.lit (.lit (.lit (.lit (.lit (.lit (.lit (.nil))))))))))))))) (.lit (.lit (.lit (.lit (.ask (.lit (.lit (.lit (.lit (.lit (.lit (.lit (.lit (.lit (.lit (.nil))))))))))) (.lit (.lit (.lit (.lit (.lit (.ask (.lit (.lit (.lit (.lit (.lit (.nil)))))) (.lit (.lit (.lit (.ask (.lit (.lit (.lit (.lit (.req (.abs (Mono) (fun YY=>AV.pv (PV.rptr (PV.cells ((enc) YY)))) (.lit (.lit (.lit (.lit (.lit (.lit (.req (.abs (Int) (fun YY=>AV.pv (enc YY)) (.lit (.lit (.lit (.lit (.lit (.ask (.nil) (.nil))))))))))))))))))))) (.lit (.lit (.lit (.lit (.lit (.lit (.lit (.lit (.lit (.lit (.lit (.lit (.lit (.nil))))))))))))))))))))))))))))))))))))))) (.nil))) h (by kernel_rfl)
theorem b4f{G:PV->Prop}(p:List Mono)(m:Mono)(i k:Int)(h:if (decide (k<(↑(List.length (List.map enc m.v)):Int)))=true then(decide (0<=k)&&decide (Int.toNat k<List.length (List.map enc m.v))&&Enc.sz Str==1)=true∧(∃ y0:Str,AV.pv (PV.rptr (PV.cells (List.getD (List.map enc m.v) (Int.toNat k) default)))=AV.pv (PV.rptr (PV.cells ((enc) y0)))∧(∃ y1:Bool,AV.pv (Zf (fun(x:Str×Unit)=>ZB x.1) [(.str (PV.asStr (List.getD (PV.cells (enc y0)) 0 default)))])=AV.pv (enc y1)∧(if (!y1)=true then G ((.bool false))else(if (decide (k>0))=true then(decide (0<=IntKind.wrap IntKind.i64 (k - 1))&&decide (Int.toNat (IntKind.wrap IntKind.i64 (k - 1))<List.length (List.map enc m.v))&&Enc.sz Str==1)=true∧(∃ y2:Str,AV.pv (PV.rptr (PV.cells (List.getD (List.map enc m.v) (Int.toNat (IntKind.wrap IntKind.i64 (k - 1))) default)))=AV.pv (PV.rptr (PV.cells ((enc) y2)))∧((decide (0<=k)&&decide (Int.toNat k<List.length (List.map enc m.v))&&Enc.sz Str==1)=true∧(∃ y3:Str,AV.pv (PV.rptr (PV.cells (List.getD (List.map enc m.v) (Int.toNat k) default)))=AV.pv (PV.rptr (PV.cells ((enc) y3)))∧(if (!(Op.bytesLess (PV.asStr (List.getD (PV.cells (enc y2)) 0 default)) (PV.asStr (List.getD (PV.cells (enc y3)) 0 default))||PV.asStr (List.getD (PV.cells (enc y2)) 0 default)==PV.asStr (List.getD (PV.cells (enc y3)) 0 default)))=true then G ((.bool false))else(At UK 0 (Za WM G) Vn 1 86 [(0,(.pv (.sl 2 false (List.map enc p)))),(3,(.pv (.int .i64 i))),(4,(.ptr 0 0)),(5,(.pv (.int .i64 (IntKind.wrap IntKind.i64 (k+1)))))] [(.obj (.box [(.pv (.int .i64 m.c)),(.pv (.sl 1 false (List.map enc m.v)))]))])))))else(At UK 0 (Za WM G) Vn 1 86 [(0,(.pv (.sl 2 false (List.map enc p)))),(3,(.pv (.int .i64 i))),(4,(.ptr 0 0)),(5,(.pv (.int .i64 (IntKind.wrap IntKind.i64 (k+1)))))] [(.obj (.box [(.pv (.int .i64 m.c)),(.pv (.sl 1 false (List.map enc m.v)))]))])))))else(At UK 0 (Za WM G) Vn 0 86 [(0,(.pv (.sl 2 false (List.map enc p)))),(3,(.pv (.int .i64 (IntKind.wrap IntKind.i64 (i+1)))))] [])):At UK 0 (Za WM G) Vn 1 86 [(0,.pv (enc p)),(3,.pv (.int .i64 i)),(4,.ptr 0 0),(5,.pv (.int .i64 k))] [.obj (.box [.pv (.int .i64 m.c),.pv (enc m.v)])]:=At.tp (.lit (.ask (.req (.abs (Str) (fun YY=>AV.pv (PV.rptr (PV.cells ((enc) YY)))) (.lit (.lit (.abs (Bool) (fun YY=>AV.pv (enc YY)) (.ask (.lit (.lit (.lit (.lit (.lit (.nil)))))) (.lit (.lit (.lit (.ask (.lit (.lit (.lit (.lit (.lit (.req (.abs (Str) (fun YY=>AV.pv (PV.rptr (PV.cells ((enc) YY)))) (.lit (.lit (.lit (.lit (.lit (.lit (.req (.abs (Str) (fun YY=>AV.pv (PV.rptr (PV.cells ((enc) YY)))) (.lit (.lit (.lit (.lit (.lit (.lit (.lit (.ask (.nil) (.lit (.nil))))))))))))))))))))))))) (.lit (.lit (.lit (.lit (.lit (.lit (.lit (.lit (.lit (.lit (.lit (.lit (.lit (.lit (.lit (.lit (.nil))))))))))))))))))))))))))) (.lit (.nil)))) h (by kernel_rfl)
def Ap:IC:=(.seq (.reg [⟨(some 2),(.mv (.c (.sl 0 true []))),0,none⟩,⟨(some 3),(.mv (.c (.int .i64 0))),0,none⟩] none) (.seq (.seq (.reg [⟨(some 4),(.mv (.t 0)),0,none⟩,⟨(some 5),(.call (.c (.fn 131)) [(.t 4)]),0,none⟩,⟨(some 6),(.un .not (.t 5)),2,none⟩] none) (.cond (.t 6) (.seq (.reg [⟨(some 2),(.mv (.c (.sl 0 true []))),0,none⟩,⟨(some 3),(.mv (.c (.int .i64 3))),0,none⟩] none) .ret) .skip)) (.seq (.reg [⟨(some 7),(.mv (.t 0)),0,none⟩,⟨(some 2),(.mv (.t 7)),0,none⟩,⟨(some 3),(.mv (.c (.int .i64 0))),0,none⟩] none) .ret)))
def Ak:List IRes:=[(.tmp 2),(.tmp 3)]
abbrev b4w:Nat:=8
def Nt:ZK:=Xp [(131,.pure (preT (fun x:List Mono×Unit=>Zv x.1)) (Zf (fun x:List Mono×Unit=>ZC x.1)))]
theorem b8k{G:PV->Prop}(p:List Mono)(h:(Go.Pl.preT (fun(x:List Mono×Unit)=>Zv x.1) [(.sl 2 false (List.map enc p))])=true∧(∃ y0:Bool,AV.pv (Zf (fun(x:List Mono×Unit)=>ZC x.1) [(.sl 2 false (List.map enc p))])=AV.pv (enc y0)∧(if (!y0)=true then G ((.tup [(.sl 0 true []),(.int .i64 3)]))else(G ((.tup [(.sl 2 false (List.map enc p)),(.int .i64 0)])))))):Zc Nt 0 (Za Ak G) Ap [] (Yr 8 [enc p]):=Zc.tp (.req (.abs (Bool) (fun YY=>AV.pv (enc YY)) (.ask (.nil) (.nil)))) h (by kernel_rfl)
def Zy:IC:=(.seq (.reg [⟨(some 3),(.box 2 (.t 1)),0,none⟩,⟨(some 4),(.mv (.c (.sl 0 true []))),1,none⟩] none) (.seq (.reg [⟨(some 5),(.mv (.c (.sl 0 true []))),0,none⟩] none) (.seq (.reg [⟨(some 10),(.faddr 0 (.t 3)),0,none⟩,⟨(some 11),(.load false [(.int .i64)] (.t 10)),0,none⟩,⟨(some 12),(.bin .num .eql (.t 11) (.c (.int .i64 0))),0,none⟩,⟨(some 6),(.mv (.t 12)),0,none⟩] none) (.seq (.seq (.reg [⟨(some 7),(.mv (.c (.int .i64 0))),0,none⟩] none) (.block 0 (.loop [7,0,3,6,5] (.seq (.seq (.reg [⟨(some 13),(.mv (.t 7)),0,none⟩,⟨(some 14),(.mv (.t 0)),0,none⟩,⟨(some 15),(.len 1 (.t 14)),0,none⟩,⟨(some 16),(.bin .num .lss (.t 13) (.t 15)),0,none⟩] none) (.cond (.t 16) .skip (.exit 0))) (.seq (.block 1 (.seq (.reg [⟨(some 19),(.mv (.t 0)),0,none⟩,⟨(some 20),(.mv (.t 7)),0,none⟩,⟨(some 21),(.iaddr 2 (.t 19) (.t 20)),0,none⟩,⟨(some 22),(.faddr 1 (.t 21)),0,none⟩,⟨(some 23),(.load false [(.sl 1)] (.t 22)),0,none⟩,⟨(some 24),(.faddr 1 (.t 3)),0,none⟩,⟨(some 25),(.load false [(.sl 1)] (.t 24)),0,none⟩,⟨(some 26),(.call (.c (.fn 195)) [(.t 23),(.t 25)]),0,none⟩,⟨(some 8),(.mv (.t 26)),2,none⟩] (some [[],[],[0,1],[2,0,1],[3,2,0,1],[],[5],[4,6,3,2,0,1,5],[7,0,1,2,3,4,5,6]])) (.seq (.seq (.reg [⟨(some 27),(.mv (.t 6)),0,none⟩,⟨(some 28),(.un .not (.t 27)),0,none⟩,⟨(some 29),(.mv (.t 28)),0,none⟩,⟨(some 30),(.mv (.t 8)),0,(some (29,true))⟩,⟨(some 31),(.bin .num .gtr (.t 30) (.c (.int .i64 0))),0,(some (29,true))⟩,⟨(some 32),(.pick (.t 29) (.t 31) (.c (.bool false))),0,none⟩] none) (.cond (.t 32) (.seq (.reg [⟨(some 33),(.mv (.t 5)),0,none⟩,⟨(some 34),(.load true [(.int .i64),(.sl 1)] (.t 3)),0,none⟩,⟨(some 35),(.bslice 104 2 1 (.agg [(.int .i64 0),(.sl 0 true [])]) [(0,(.t 34))]),0,none⟩,⟨(some 36),(.append 104 2 32 (.t 33) (.t 35)),1,none⟩,⟨(some 5),(.mv (.t 36)),2,none⟩] none) (.reg [⟨(some 6),(.mv (.c (.bool true))),0,none⟩] none)) .skip)) (.seq (.reg [⟨(some 37),(.mv (.t 0)),0,none⟩,⟨(some 38),(.mv (.t 7)),0,none⟩,⟨(some 39),(.iaddr 2 (.t 37) (.t 38)),0,none⟩,⟨(some 40),(.load true [(.int .i64),(.sl 1)] (.t 39)),0,none⟩,⟨(some 9),(.alloc (.agg [(.int .i64 0),(.sl 0 true [])])),0,none⟩,⟨none,(.store 2 (.t 9) (.t 40)),1,none⟩] none) (.seq (.seq (.reg [⟨(some 41),(.mv (.t 6)),0,none⟩,⟨(some 42),(.un .not (.t 41)),0,none⟩,⟨(some 43),(.mv (.t 42)),0,none⟩,⟨(some 44),(.mv (.t 8)),0,(some (43,true))⟩,⟨(some 45),(.bin .num .eql (.t 44) (.c (.int .i64 0))),0,(some (43,true))⟩,⟨(some 46),(.pick (.t 43) (.t 45) (.c (.bool false))),0,none⟩] none) (.cond (.t 46) (.seq (.reg [⟨(some 47),(.faddr 0 (.t 9)),0,none⟩,⟨(some 48),(.load false [(.int .i64)] (.t 47)),0,none⟩,⟨(some 49),(.faddr 0 (.t 3)),0,none⟩,⟨(some 50),(.load false [(.int .i64)] (.t 49)),0,none⟩,⟨(some 51),(.bin .num .add (.t 48) (.t 50)),0,none⟩,⟨(some 52),(.faddr 0 (.t 9)),0,none⟩,⟨none,(.store 1 (.t 52) (.t 51)),0,none⟩] none) (.reg [⟨(some 6),(.mv (.c (.bool true))),0,none⟩] none)) .skip)) (.seq (.reg [⟨(some 53),(.faddr 0 (.t 9)),0,none⟩,⟨(some 54),(.load false [(.int .i64)] (.t 53)),0,none⟩,⟨(some 55),(.bin .num .neq (.t 54) (.c (.int .i64 0))),0,none⟩] none) (.cond (.t 55) (.reg [⟨(some 56),(.mv (.t 5)),0,none⟩,⟨(some 57),(.load true [(.int .i64),(.sl 1)] (.t 9)),0,none⟩,⟨(some 58),(.bslice 104 2 1 (.agg [(.int .i64 0),(.sl 0 true [])]) [(0,(.t 57))]),0,none⟩,⟨(some 59),(.append 104 2 32 (.t 56) (.t 58)),1,none⟩,⟨(some 5),(.mv (.t 59)),2,none⟩] none) .skip))))))) (.reg [⟨(some 17),(.mv (.t 7)),0,none⟩,⟨(some 18),(.bin .num .add (.t 17) (.c (.int .i64 1))),0,none⟩,⟨(some 7),(.mv (.t 18)),0,none⟩] none)))))) (.seq (.seq (.reg [⟨(some 60),(.mv (.t 6)),0,none⟩,⟨(some 61),(.un .not (.t 60)),0,none⟩] none) (.cond (.t 61) (.reg [⟨(some 62),(.mv (.t 5)),0,none⟩,⟨(some 63),(.load true [(.int .i64),(.sl 1)] (.t 3)),0,none⟩,⟨(some 64),(.bslice 104 2 1 (.agg [(.int .i64 0),(.sl 0 true [])]) [(0,(.t 63))]),0,none⟩,⟨(some 65),(.append 104 2 32 (.t 62) (.t 64)),1,none⟩,⟨(some 5),(.mv (.t 65)),2,none⟩] none) .skip)) (.seq (.reg [⟨(some 66),(.mv (.t 5)),0,none⟩,⟨(some 4),(.mv (.t 66)),0,none⟩] none) .ret))))))
def Zx:List IRes:=[(.tmp 4)]
abbrev a6t:Nat:=67
def ZG:ZK:=Xp [(195,.pure (preT (fun x:List Str×List Str×Unit=>Zn x.1&&Zn x.2.1)) (Zf (fun x:List Str×List Str×Unit=>Yg x.1 x.2.1)))]
theorem a8k{G:PV->Prop}(p:List Mono)(m:Mono)(h:At ZG 0 (Za Zx G) Zy 0 67 [(0,(.pv (.sl 2 false (List.map enc p)))),(3,(.ptr 0 0)),(5,(.pv (.sl 0 true []))),(6,(.pv (.bool (Mono.c m==0)))),(7,(.pv (.int .i64 0)))] [(.obj (.box [(.pv (.int .i64 m.c)),(.pv (.sl 1 false (List.map enc m.v)))]))]):Zc ZG 0 (Za Zx G) Zy [] (Yr 67 [enc p,.agg [enc m.c,enc m.v]]):=Zc.tp (.lit (.nil)) h (by kernel_rfl)
theorem JD{G:PV->Prop}(p:List Mono)(m:Mono)(put:Bool)(i:Int)(h:if (decide (i<(↑(List.length (List.map enc p)):Int)))=true then(decide (0<=i)&&decide (Int.toNat i<List.length (List.map enc p))&&Enc.sz Mono==2)=true∧(∃ y0:Mono,AV.pv (PV.rptr (PV.cells (List.getD (List.map enc p) (Int.toNat i) default)))=AV.pv (PV.rptr (PV.cells ((enc) y0)))∧((Go.Pl.preT (fun(x:List Str×List Str×Unit)=>Zn x.1&&Zn x.2.1) [(.sl 1 false (PV.asXs (List.getD (List.drop 1 (PV.cells (enc y0))) 0 default))),(.sl 1 false (List.map enc m.v))])=true∧(∃ y1:Int,AV.pv (Zf (fun(x:List Str×List Str×Unit)=>Yg x.1 x.2.1) [(.sl 1 false (PV.asXs (List.getD (List.drop 1 (PV.cells (enc y0))) 0 default))),(.sl 1 false (List.map enc m.v))])=AV.pv (enc y1)∧(if (!put)=true then if (decide (y1>0))=true then(decide (0<=i)&&decide (Int.toNat i<List.length (List.map enc p))&&Enc.sz Mono==2)=true∧(∃ y2:Mono,AV.pv (PV.rptr (PV.cells (List.getD (List.map enc p) (Int.toNat i) default)))=AV.pv (PV.rptr (PV.cells ((enc) y2)))∧(if (PV.asInt (List.getD (PV.cells (enc y2)) 0 default) != 0)=true then At ZG 0 (Za Zx G) Zy 0 67 [(0,(.pv (.sl 2 false (List.map enc p)))),(3,(.ptr 0 0)),(5,(.row 1 2 0 2)),(6,(.pv (.bool true))),(7,(.pv (.int .i64 (IntKind.wrap IntKind.i64 (i+1)))))] [(.obj (.box [(.pv (.int .i64 m.c)),(.pv (.sl 1 false (List.map enc m.v)))])),(.obj (.row false 104 2 [(.agg [(.int .i64 m.c),(.sl 1 false (List.map enc m.v))]),(.agg [(.int .i64 (PV.asInt (List.getD (PV.cells (enc y2)) 0 default))),(.sl 1 false (PV.asXs (List.getD (PV.cells (enc y2)) (0+1) default)))])]))]else(At ZG 0 (Za Zx G) Zy 0 67 [(0,(.pv (.sl 2 false (List.map enc p)))),(3,(.ptr 0 0)),(5,(.row 1 1 0 1)),(6,(.pv (.bool true))),(7,(.pv (.int .i64 (IntKind.wrap IntKind.i64 (i+1)))))] [(.obj (.box [(.pv (.int .i64 m.c)),(.pv (.sl 1 false (List.map enc m.v)))])),(.obj (.row false 104 2 [(.agg [(.int .i64 m.c),(.sl 1 false (List.map enc m.v))])]))])))else((decide (0<=i)&&decide (Int.toNat i<List.length (List.map enc p))&&Enc.sz Mono==2)=true∧(∃ y3:Mono,AV.pv (PV.rptr (PV.cells (List.getD (List.map enc p) (Int.toNat i) default)))=AV.pv (PV.rptr (PV.cells ((enc) y3)))∧(if (!put)=true then if (y1==0)=true then if (IntKind.wrap IntKind.i64 (PV.asInt (List.getD (PV.cells (enc y3)) 0 default)+Mono.c m) != 0)=true then At ZG 0 (Za Zx G) Zy 0 67 [(0,(.pv (.sl 2 false (List.map enc p)))),(3,(.ptr 0 0)),(5,(.row 1 1 0 1)),(6,(.pv (.bool true))),(7,(.pv (.int .i64 (IntKind.wrap IntKind.i64 (i+1)))))] [(.obj (.box [(.pv (.int .i64 m.c)),(.pv (.sl 1 false (List.map enc m.v)))])),(.obj (.row false 104 2 [(.agg [(.int .i64 (IntKind.wrap IntKind.i64 (PV.asInt (List.getD (PV.cells (enc y3)) 0 default)+Mono.c m))),(.sl 1 false (PV.asXs (List.getD (PV.cells (enc y3)) (0+1) default)))])]))]else(At ZG 0 (Za Zx G) Zy 0 67 [(0,(.pv (.sl 2 false (List.map enc p)))),(3,(.ptr 0 0)),(5,(.pv (.sl 0 true []))),(6,(.pv (.bool true))),(7,(.pv (.int .i64 (IntKind.wrap IntKind.i64 (i+1)))))] [(.obj (.box [(.pv (.int .i64 m.c)),(.pv (.sl 1 false (List.map enc m.v)))]))])else(if (PV.asInt (List.getD (PV.cells (enc y3)) 0 default) != 0)=true then At ZG 0 (Za Zx G) Zy 0 67 [(0,(.pv (.sl 2 false (List.map enc p)))),(3,(.ptr 0 0)),(5,(.row 1 1 0 1)),(6,(.pv (.bool put))),(7,(.pv (.int .i64 (IntKind.wrap IntKind.i64 (i+1)))))] [(.obj (.box [(.pv (.int .i64 m.c)),(.pv (.sl 1 false (List.map enc m.v)))])),(.obj (.row false 104 2 [(.agg [(.int .i64 (PV.asInt (List.getD (PV.cells (enc y3)) 0 default))),(.sl 1 false (PV.asXs (List.getD (PV.cells (enc y3)) (0+1) default)))])]))]else(At ZG 0 (Za Zx G) Zy 0 67 [(0,(.pv (.sl 2 false (List.map enc p)))),(3,(.ptr 0 0)),(5,(.pv (.sl 0 true []))),(6,(.pv (.bool put))),(7,(.pv (.int .i64 (IntKind.wrap IntKind.i64 (i+1)))))] [(.obj (.box [(.pv (.int .i64 m.c)),(.pv (.sl 1 false (List.map enc m.v)))]))]))else(if (PV.asInt (List.getD (PV.cells (enc y3)) 0 default) != 0)=true then At ZG 0 (Za Zx G) Zy 0 67 [(0,(.pv (.sl 2 false (List.map enc p)))),(3,(.ptr 0 0)),(5,(.row 1 1 0 1)),(6,(.pv (.bool put))),(7,(.pv (.int .i64 (IntKind.wrap IntKind.i64 (i+1)))))] [(.obj (.box [(.pv (.int .i64 m.c)),(.pv (.sl 1 false (List.map enc m.v)))])),(.obj (.row false 104 2 [(.agg [(.int .i64 (PV.asInt (List.getD (PV.cells (enc y3)) 0 default))),(.sl 1 false (PV.asXs (List.getD (PV.cells (enc y3)) (0+1) default)))])]))]else(At ZG 0 (Za Zx G) Zy 0 67 [(0,(.pv (.sl 2 false (List.map enc p)))),(3,(.ptr 0 0)),(5,(.pv (.sl 0 true []))),(6,(.pv (.bool put))),(7,(.pv (.int .i64 (IntKind.wrap IntKind.i64 (i+1)))))] [(.obj (.box [(.pv (.int .i64 m.c)),(.pv (.sl 1 false (List.map enc m.v)))]))])))))else((decide (0<=i)&&decide (Int.toNat i<List.length (List.map enc p))&&Enc.sz Mono==2)=true∧(∃ y4:Mono,AV.pv (PV.rptr (PV.cells (List.getD (List.map enc p) (Int.toNat i) default)))=AV.pv (PV.rptr (PV.cells ((enc) y4)))∧(if (!put)=true then if (y1==0)=true then if (IntKind.wrap IntKind.i64 (PV.asInt (List.getD (PV.cells (enc y4)) 0 default)+Mono.c m) != 0)=true then At ZG 0 (Za Zx G) Zy 0 67 [(0,(.pv (.sl 2 false (List.map enc p)))),(3,(.ptr 0 0)),(5,(.row 1 1 0 1)),(6,(.pv (.bool true))),(7,(.pv (.int .i64 (IntKind.wrap IntKind.i64 (i+1)))))] [(.obj (.box [(.pv (.int .i64 m.c)),(.pv (.sl 1 false (List.map enc m.v)))])),(.obj (.row false 104 2 [(.agg [(.int .i64 (IntKind.wrap IntKind.i64 (PV.asInt (List.getD (PV.cells (enc y4)) 0 default)+Mono.c m))),(.sl 1 false (PV.asXs (List.getD (PV.cells (enc y4)) (0+1) default)))])]))]else(At ZG 0 (Za Zx G) Zy 0 67 [(0,(.pv (.sl 2 false (List.map enc p)))),(3,(.ptr 0 0)),(5,(.pv (.sl 0 true []))),(6,(.pv (.bool true))),(7,(.pv (.int .i64 (IntKind.wrap IntKind.i64 (i+1)))))] [(.obj (.box [(.pv (.int .i64 m.c)),(.pv (.sl 1 false (List.map enc m.v)))]))])else(if (PV.asInt (List.getD (PV.cells (enc y4)) 0 default) != 0)=true then At ZG 0 (Za Zx G) Zy 0 67 [(0,(.pv (.sl 2 false (List.map enc p)))),(3,(.ptr 0 0)),(5,(.row 1 1 0 1)),(6,(.pv (.bool put))),(7,(.pv (.int .i64 (IntKind.wrap IntKind.i64 (i+1)))))] [(.obj (.box [(.pv (.int .i64 m.c)),(.pv (.sl 1 false (List.map enc m.v)))])),(.obj (.row false 104 2 [(.agg [(.int .i64 (PV.asInt (List.getD (PV.cells (enc y4)) 0 default))),(.sl 1 false (PV.asXs (List.getD (PV.cells (enc y4)) (0+1) default)))])]))]else(At ZG 0 (Za Zx G) Zy 0 67 [(0,(.pv (.sl 2 false (List.map enc p)))),(3,(.ptr 0 0)),(5,(.pv (.sl 0 true []))),(6,(.pv (.bool put))),(7,(.pv (.int .i64 (IntKind.wrap IntKind.i64 (i+1)))))] [(.obj (.box [(.pv (.int .i64 m.c)),(.pv (.sl 1 false (List.map enc m.v)))]))]))else(if (PV.asInt (List.getD (PV.cells (enc y4)) 0 default) != 0)=true then At ZG 0 (Za Zx G) Zy 0 67 [(0,(.pv (.sl 2 false (List.map enc p)))),(3,(.ptr 0 0)),(5,(.row 1 1 0 1)),(6,(.pv (.bool put))),(7,(.pv (.int .i64 (IntKind.wrap IntKind.i64 (i+1)))))] [(.obj (.box [(.pv (.int .i64 m.c)),(.pv (.sl 1 false (List.map enc m.v)))])),(.obj (.row false 104 2 [(.agg [(.int .i64 (PV.asInt (List.getD (PV.cells (enc y4)) 0 default))),(.sl 1 false (PV.asXs (List.getD (PV.cells (enc y4)) (0+1) default)))])]))]else(At ZG 0 (Za Zx G) Zy 0 67 [(0,(.pv (.sl 2 false (List.map enc p)))),(3,(.ptr 0 0)),(5,(.pv (.sl 0 true []))),(6,(.pv (.bool put))),(7,(.pv (.int .i64 (IntKind.wrap IntKind.i64 (i+1)))))] [(.obj (.box [(.pv (.int .i64 m.c)),(.pv (.sl 1 false (List.map enc m.v)))]))])))))))))else(if (!put)=true then G ((.sl 2 false [(.agg [(.int .i64 m.c),(.sl 1 false (List.map enc m.v))])]))else(G ((.sl 0 true []))))):At ZG 0 (Za Zx G) Zy 0 67 [(0,.pv (enc p)),(3,.ptr 0 0),(5,.pv (.sl 0 true [])),(6,.pv (.bool put)),(7,.pv (.int .i64 i))] [.obj (.box [.pv (.int .i64 m.c),.pv (enc m.v)])]:=At.tp (.lit (.ask (.req (.abs (Mono) (fun YY=>AV.pv (PV.rptr (PV.cells ((enc) YY)))) (.lit (.req (.abs (Int) (fun YY=>AV.pv (enc YY)) (.ask (.lit (.lit (.lit (.ask (.lit (.lit (.lit (.lit (.lit (.req (.abs (Mono) (fun YY=>AV.pv (PV.rptr (PV.cells ((enc) YY)))) (.lit (.lit (.lit (.lit (.lit (.lit (.ask (.lit (.lit (.lit (.lit (.nil))))) (.lit (.nil)))))))))))))))) (.req (.abs (Mono) (fun YY=>AV.pv (PV.rptr (PV.cells ((enc) YY)))) (.lit (.ask (.lit (.lit (.lit (.ask (.lit (.lit (.ask (.lit (.lit (.lit (.lit (.lit (.lit (.nil))))))) (.lit (.nil))))) (.lit (.ask (.lit (.lit (.lit (.lit (.lit (.lit (.nil))))))) (.lit (.nil)))))))) (.lit (.lit (.lit (.lit (.ask (.lit (.lit (.lit (.lit (.lit (.lit (.nil))))))) (.lit (.nil))))))))))))))) (.lit (.lit (.lit (.req (.abs (Mono) (fun YY=>AV.pv (PV.rptr (PV.cells ((enc) YY)))) (.lit (.ask (.lit (.lit (.lit (.ask (.lit (.lit (.ask (.lit (.lit (.lit (.lit (.lit (.lit (.nil))))))) (.lit (.nil))))) (.lit (.ask (.lit (.lit (.lit (.lit (.lit (.lit (.nil))))))) (.lit (.nil)))))))) (.lit (.lit (.lit (.lit (.ask (.lit (.lit (.lit (.lit (.lit (.lit (.nil))))))) (.lit (.nil)))))))))))))))))))) (.ask (.lit (.lit (.lit (.lit (.lit (.lit (.nil))))))) (.nil)))) h (by kernel_rfl)
theorem JO{G:PV->Prop}(p:List Mono)(m:Mono)(put:Bool)(i:Int)(n:Nat)(xs:List Mono)(h:if (decide (i<(↑(List.length (List.map enc p)):Int)))=true then(decide (0<=i)&&decide (Int.toNat i<List.length (List.map enc p))&&Enc.sz Mono==2)=true∧(∃ y0:Mono,AV.pv (PV.rptr (PV.cells (List.getD (List.map enc p) (Int.toNat i) default)))=AV.pv (PV.rptr (PV.cells ((enc) y0)))∧((Go.Pl.preT (fun(x:List Str×List Str×Unit)=>Zn x.1&&Zn x.2.1) [(.sl 1 false (PV.asXs (List.getD (List.drop 1 (PV.cells (enc y0))) 0 default))),(.sl 1 false (List.map enc m.v))])=true∧(∃ y1:Int,AV.pv (Zf (fun(x:List Str×List Str×Unit)=>Yg x.1 x.2.1) [(.sl 1 false (PV.asXs (List.getD (List.drop 1 (PV.cells (enc y0))) 0 default))),(.sl 1 false (List.map enc m.v))])=AV.pv (enc y1)∧(if (!put)=true then if (decide (y1>0))=true then(List.length (List.map enc xs)==n&&n==n&&decide ((n+List.length (List.drop 0 (List.take 1 [PV.agg [PV.int .i64 m.c,enc m.v]])))*32<=1099511627776)&&decide (n+List.length (List.drop 0 (List.take 1 [PV.agg [PV.int .i64 m.c,enc m.v]]))<=1099511627776))=true∧((decide (0<=i)&&decide (Int.toNat i<List.length (List.map enc p))&&Enc.sz Mono==2)=true∧(∃ y2:Mono,AV.pv (PV.rptr (PV.cells (List.getD (List.map enc p) (Int.toNat i) default)))=AV.pv (PV.rptr (PV.cells ((enc) y2)))∧(if (PV.asInt (List.getD (PV.cells (enc y2)) 0 default) != 0)=true then(List.length (List.map enc xs++List.drop 0 (List.take 1 [PV.agg [PV.int .i64 m.c,enc m.v]]))==n+List.length (List.drop 0 (List.take 1 [PV.agg [PV.int .i64 m.c,enc m.v]]))&&n+List.length (List.drop 0 (List.take 1 [PV.agg [PV.int .i64 m.c,enc m.v]]))==n+List.length (List.drop 0 (List.take 1 [PV.agg [PV.int .i64 m.c,enc m.v]]))&&decide ((n+List.length (List.drop 0 (List.take 1 [PV.agg [PV.int .i64 m.c,enc m.v]]))+List.length (List.drop 0 (List.take 1 [PV.agg [Sh.co (Sh.int .i64) (List.getD (PV.cells (enc y2)) 0 default),Sh.co (Sh.sl 1) (List.getD (PV.cells (enc y2)) (0+1) default)]])))*32<=1099511627776)&&decide (n+List.length (List.drop 0 (List.take 1 [PV.agg [PV.int .i64 m.c,enc m.v]]))+List.length (List.drop 0 (List.take 1 [PV.agg [Sh.co (Sh.int .i64) (List.getD (PV.cells (enc y2)) 0 default),Sh.co (Sh.sl 1) (List.getD (PV.cells (enc y2)) (0+1) default)]]))<=1099511627776))=true∧(At ZG 0 (Za Zx G) Zy 0 67 [(0,(.pv (.sl 2 false (List.map enc p)))),(3,(.ptr 0 0)),(5,(.row 1 (n+List.length (List.drop 0 (List.take 1 [PV.agg [PV.int .i64 m.c,enc m.v]]))+List.length (List.drop 0 (List.take 1 [PV.agg [Sh.co (Sh.int .i64) (List.getD (PV.cells (enc y2)) 0 default),Sh.co (Sh.sl 1) (List.getD (PV.cells (enc y2)) (0+1) default)]]))) 0 (n+List.length (List.drop 0 (List.take 1 [PV.agg [PV.int .i64 m.c,enc m.v]]))+List.length (List.drop 0 (List.take 1 [PV.agg [Sh.co (Sh.int .i64) (List.getD (PV.cells (enc y2)) 0 default),Sh.co (Sh.sl 1) (List.getD (PV.cells (enc y2)) (0+1) default)]]))))),(6,(.pv (.bool true))),(7,(.pv (.int .i64 (IntKind.wrap IntKind.i64 (i+1)))))] [(.obj (.box [(.pv (.int .i64 m.c)),(.pv (.sl 1 false (List.map enc m.v)))])),(.obj (.row false 104 2 (List.map enc xs++List.drop 0 (List.take 1 [PV.agg [PV.int .i64 m.c,enc m.v]])++List.drop 0 (List.take 1 [PV.agg [Sh.co (Sh.int .i64) (List.getD (PV.cells (enc y2)) 0 default),Sh.co (Sh.sl 1) (List.getD (PV.cells (enc y2)) (0+1) default)]]))))])else(At ZG 0 (Za Zx G) Zy 0 67 [(0,(.pv (.sl 2 false (List.map enc p)))),(3,(.ptr 0 0)),(5,(.row 1 (n+List.length (List.drop 0 (List.take 1 [PV.agg [PV.int .i64 m.c,enc m.v]]))) 0 (n+List.length (List.drop 0 (List.take 1 [PV.agg [PV.int .i64 m.c,enc m.v]]))))),(6,(.pv (.bool true))),(7,(.pv (.int .i64 (IntKind.wrap IntKind.i64 (i+1)))))] [(.obj (.box [(.pv (.int .i64 m.c)),(.pv (.sl 1 false (List.map enc m.v)))])),(.obj (.row false 104 2 (List.map enc xs++List.drop 0 (List.take 1 [PV.agg [PV.int .i64 m.c,enc m.v]]))))]))))else((decide (0<=i)&&decide (Int.toNat i<List.length (List.map enc p))&&Enc.sz Mono==2)=true∧(∃ y3:Mono,AV.pv (PV.rptr (PV.cells (List.getD (List.map enc p) (Int.toNat i) default)))=AV.pv (PV.rptr (PV.cells ((enc) y3)))∧(if (!put)=true then if (y1==0)=true then if (IntKind.wrap IntKind.i64 (PV.asInt (List.getD (PV.cells (enc y3)) 0 default)+Mono.c m) != 0)=true then(List.length (List.map enc xs)==n&&n==n&&decide ((n+List.length (List.drop 0 (List.take 1 [PV.agg [PV.int .i64 (IntKind.wrap IntKind.i64 (PV.asInt (List.getD (PV.cells (enc y3)) 0 default)+Mono.c m)),Sh.co (Sh.sl 1) (List.getD (PV.cells (enc y3)) (0+1) default)]])))*32<=1099511627776)&&decide (n+List.length (List.drop 0 (List.take 1 [PV.agg [PV.int .i64 (IntKind.wrap IntKind.i64 (PV.asInt (List.getD (PV.cells (enc y3)) 0 default)+Mono.c m)),Sh.co (Sh.sl 1) (List.getD (PV.cells (enc y3)) (0+1) default)]]))<=1099511627776))=true∧(At ZG 0 (Za Zx G) Zy 0 67 [(0,(.pv (.sl 2 false (List.map enc p)))),(3,(.ptr 0 0)),(5,(.row 1 (n+List.length (List.drop 0 (List.take 1 [PV.agg [PV.int .i64 (IntKind.wrap IntKind.i64 (PV.asInt (List.getD (PV.cells (enc y3)) 0 default)+Mono.c m)),Sh.co (Sh.sl 1) (List.getD (PV.cells (enc y3)) (0+1) default)]]))) 0 (n+List.length (List.drop 0 (List.take 1 [PV.agg [PV.int .i64 (IntKind.wrap IntKind.i64 (PV.asInt (List.getD (PV.cells (enc y3)) 0 default)+Mono.c m)),Sh.co (Sh.sl 1) (List.getD (PV.cells (enc y3)) (0+1) default)]]))))),(6,(.pv (.bool true))),(7,(.pv (.int .i64 (IntKind.wrap IntKind.i64 (i+1)))))] [(.obj (.box [(.pv (.int .i64 m.c)),(.pv (.sl 1 false (List.map enc m.v)))])),(.obj (.row false 104 2 (List.map enc xs++List.drop 0 (List.take 1 [PV.agg [PV.int .i64 (IntKind.wrap IntKind.i64 (PV.asInt (List.getD (PV.cells (enc y3)) 0 default)+Mono.c m)),Sh.co (Sh.sl 1) (List.getD (PV.cells (enc y3)) (0+1) default)]]))))])else(At ZG 0 (Za Zx G) Zy 0 67 [(0,(.pv (.sl 2 false (List.map enc p)))),(3,(.ptr 0 0)),(5,(.row 1 n 0 n)),(6,(.pv (.bool true))),(7,(.pv (.int .i64 (IntKind.wrap IntKind.i64 (i+1)))))] [(.obj (.box [(.pv (.int .i64 m.c)),(.pv (.sl 1 false (List.map enc m.v)))])),(.obj (.row false 104 2 (List.map enc xs)))])else(if (PV.asInt (List.getD (PV.cells (enc y3)) 0 default) != 0)=true then(List.length (List.map enc xs)==n&&n==n&&decide ((n+List.length (List.drop 0 (List.take 1 [PV.agg [Sh.co (Sh.int .i64) (List.getD (PV.cells (enc y3)) 0 default),Sh.co (Sh.sl 1) (List.getD (PV.cells (enc y3)) (0+1) default)]])))*32<=1099511627776)&&decide (n+List.length (List.drop 0 (List.take 1 [PV.agg [Sh.co (Sh.int .i64) (List.getD (PV.cells (enc y3)) 0 default),Sh.co (Sh.sl 1) (List.getD (PV.cells (enc y3)) (0+1) default)]]))<=1099511627776))=true∧(At ZG 0 (Za Zx G) Zy 0 67 [(0,(.pv (.sl 2 false (List.map enc p)))),(3,(.ptr 0 0)),(5,(.row 1 (n+List.length (List.drop 0 (List.take 1 [PV.agg [Sh.co (Sh.int .i64) (List.getD (PV.cells (enc y3)) 0 default),Sh.co (Sh.sl 1) (List.getD (PV.cells (enc y3)) (0+1) default)]]))) 0 (n+List.length (List.drop 0 (List.take 1 [PV.agg [Sh.co (Sh.int .i64) (List.getD (PV.cells (enc y3)) 0 default),Sh.co (Sh.sl 1) (List.getD (PV.cells (enc y3)) (0+1) default)]]))))),(6,(.pv (.bool put))),(7,(.pv (.int .i64 (IntKind.wrap IntKind.i64 (i+1)))))] [(.obj (.box [(.pv (.int .i64 m.c)),(.pv (.sl 1 false (List.map enc m.v)))])),(.obj (.row false 104 2 (List.map enc xs++List.drop 0 (List.take 1 [PV.agg [Sh.co (Sh.int .i64) (List.getD (PV.cells (enc y3)) 0 default),Sh.co (Sh.sl 1) (List.getD (PV.cells (enc y3)) (0+1) default)]]))))])else(At ZG 0 (Za Zx G) Zy 0 67 [(0,(.pv (.sl 2 false (List.map enc p)))),(3,(.ptr 0 0)),(5,(.row 1 n 0 n)),(6,(.pv (.bool put))),(7,(.pv (.int .i64 (IntKind.wrap IntKind.i64 (i+1)))))] [(.obj (.box [(.pv (.int .i64 m.c)),(.pv (.sl 1 false (List.map enc m.v)))])),(.obj (.row false 104 2 (List.map enc xs)))]))else(if (PV.asInt (List.getD (PV.cells (enc y3)) 0 default) != 0)=true then(List.length (List.map enc xs)==n&&n==n&&decide ((n+List.length (List.drop 0 (List.take 1 [PV.agg [Sh.co (Sh.int .i64) (List.getD (PV.cells (enc y3)) 0 default),Sh.co (Sh.sl 1) (List.getD (PV.cells (enc y3)) (0+1) default)]])))*32<=1099511627776)&&decide (n+List.length (List.drop 0 (List.take 1 [PV.agg [Sh.co (Sh.int .i64) (List.getD (PV.cells (enc y3)) 0 default),Sh.co (Sh.sl 1) (List.getD (PV.cells (enc y3)) (0+1) default)]]))<=1099511627776))=true∧(At ZG 0 (Za Zx G) Zy 0 67 [(0,(.pv (.sl 2 false (List.map enc p)))),(3,(.ptr 0 0)),(5,(.row 1 (n+List.length (List.drop 0 (List.take 1 [PV.agg [Sh.co (Sh.int .i64) (List.getD (PV.cells (enc y3)) 0 default),Sh.co (Sh.sl 1) (List.getD (PV.cells (enc y3)) (0+1) default)]]))) 0 (n+List.length (List.drop 0 (List.take 1 [PV.agg [Sh.co (Sh.int .i64) (List.getD (PV.cells (enc y3)) 0 default),Sh.co (Sh.sl 1) (List.getD (PV.cells (enc y3)) (0+1) default)]]))))),(6,(.pv (.bool put))),(7,(.pv (.int .i64 (IntKind.wrap IntKind.i64 (i+1)))))] [(.obj (.box [(.pv (.int .i64 m.c)),(.pv (.sl 1 false (List.map enc m.v)))])),(.obj (.row false 104 2 (List.map enc xs++List.drop 0 (List.take 1 [PV.agg [Sh.co (Sh.int .i64) (List.getD (PV.cells (enc y3)) 0 default),Sh.co (Sh.sl 1) (List.getD (PV.cells (enc y3)) (0+1) default)]]))))])else(At ZG 0 (Za Zx G) Zy 0 67 [(0,(.pv (.sl 2 false (List.map enc p)))),(3,(.ptr 0 0)),(5,(.row 1 n 0 n)),(6,(.pv (.bool put))),(7,(.pv (.int .i64 (IntKind.wrap IntKind.i64 (i+1)))))] [(.obj (.box [(.pv (.int .i64 m.c)),(.pv (.sl 1 false (List.map enc m.v)))])),(.obj (.row false 104 2 (List.map enc xs)))])))))else((decide (0<=i)&&decide (Int.toNat i<List.length (List.map enc p))&&Enc.sz Mono==2)=true∧(∃ y4:Mono,AV.pv (PV.rptr (PV.cells (List.getD (List.map enc p) (Int.toNat i) default)))=AV.pv (PV.rptr (PV.cells ((enc) y4)))∧(if (!put)=true then if (y1==0)=true then if (IntKind.wrap IntKind.i64 (PV.asInt (List.getD (PV.cells (enc y4)) 0 default)+Mono.c m) != 0)=true then(List.length (List.map enc xs)==n&&n==n&&decide ((n+List.length (List.drop 0 (List.take 1 [PV.agg [PV.int .i64 (IntKind.wrap IntKind.i64 (PV.asInt (List.getD (PV.cells (enc y4)) 0 default)+Mono.c m)),Sh.co (Sh.sl 1) (List.getD (PV.cells (enc y4)) (0+1) default)]])))*32<=1099511627776)&&decide (n+List.length (List.drop 0 (List.take 1 [PV.agg [PV.int .i64 (IntKind.wrap IntKind.i64 (PV.asInt (List.getD (PV.cells (enc y4)) 0 default)+Mono.c m)),Sh.co (Sh.sl 1) (List.getD (PV.cells (enc y4)) (0+1) default)]]))<=1099511627776))=true∧(At ZG 0 (Za Zx G) Zy 0 67 [(0,(.pv (.sl 2 false (List.map enc p)))),(3,(.ptr 0 0)),(5,(.row 1 (n+List.length (List.drop 0 (List.take 1 [PV.agg [PV.int .i64 (IntKind.wrap IntKind.i64 (PV.asInt (List.getD (PV.cells (enc y4)) 0 default)+Mono.c m)),Sh.co (Sh.sl 1) (List.getD (PV.cells (enc y4)) (0+1) default)]]))) 0 (n+List.length (List.drop 0 (List.take 1 [PV.agg [PV.int .i64 (IntKind.wrap IntKind.i64 (PV.asInt (List.getD (PV.cells (enc y4)) 0 default)+Mono.c m)),Sh.co (Sh.sl 1) (List.getD (PV.cells (enc y4)) (0+1) default)]]))))),(6,(.pv (.bool true))),(7,(.pv (.int .i64 (IntKind.wrap IntKind.i64 (i+1)))))] [(.obj (.box [(.pv (.int .i64 m.c)),(.pv (.sl 1 false (List.map enc m.v)))])),(.obj (.row false 104 2 (List.map enc xs++List.drop 0 (List.take 1 [PV.agg [PV.int .i64 (IntKind.wrap IntKind.i64 (PV.asInt (List.getD (PV.cells (enc y4)) 0 default)+Mono.c m)),Sh.co (Sh.sl 1) (List.getD (PV.cells (enc y4)) (0+1) default)]]))))])else(At ZG 0 (Za Zx G) Zy 0 67 [(0,(.pv (.sl 2 false (List.map enc p)))),(3,(.ptr 0 0)),(5,(.row 1 n 0 n)),(6,(.pv (.bool true))),(7,(.pv (.int .i64 (IntKind.wrap IntKind.i64 (i+1)))))] [(.obj (.box [(.pv (.int .i64 m.c)),(.pv (.sl 1 false (List.map enc m.v)))])),(.obj (.row false 104 2 (List.map enc xs)))])else(if (PV.asInt (List.getD (PV.cells (enc y4)) 0 default) != 0)=true then(List.length (List.map enc xs)==n&&n==n&&decide ((n+List.length (List.drop 0 (List.take 1 [PV.agg [Sh.co (Sh.int .i64) (List.getD (PV.cells (enc y4)) 0 default),Sh.co (Sh.sl 1) (List.getD (PV.cells (enc y4)) (0+1) default)]])))*32<=1099511627776)&&decide (n+List.length (List.drop 0 (List.take 1 [PV.agg [Sh.co (Sh.int .i64) (List.getD (PV.cells (enc y4)) 0 default),Sh.co (Sh.sl 1) (List.getD (PV.cells (enc y4)) (0+1) default)]]))<=1099511627776))=true∧(At ZG 0 (Za Zx G) Zy 0 67 [(0,(.pv (.sl 2 false (List.map enc p)))),(3,(.ptr 0 0)),(5,(.row 1 (n+List.length (List.drop 0 (List.take 1 [PV.agg [Sh.co (Sh.int .i64) (List.getD (PV.cells (enc y4)) 0 default),Sh.co (Sh.sl 1) (List.getD (PV.cells (enc y4)) (0+1) default)]]))) 0 (n+List.length (List.drop 0 (List.take 1 [PV.agg [Sh.co (Sh.int .i64) (List.getD (PV.cells (enc y4)) 0 default),Sh.co (Sh.sl 1) (List.getD (PV.cells (enc y4)) (0+1) default)]]))))),(6,(.pv (.bool put))),(7,(.pv (.int .i64 (IntKind.wrap IntKind.i64 (i+1)))))] [(.obj (.box [(.pv (.int .i64 m.c)),(.pv (.sl 1 false (List.map enc m.v)))])),(.obj (.row false 104 2 (List.map enc xs++List.drop 0 (List.take 1 [PV.agg [Sh.co (Sh.int .i64) (List.getD (PV.cells (enc y4)) 0 default),Sh.co (Sh.sl 1) (List.getD (PV.cells (enc y4)) (0+1) default)]]))))])else(At ZG 0 (Za Zx G) Zy 0 67 [(0,(.pv (.sl 2 false (List.map enc p)))),(3,(.ptr 0 0)),(5,(.row 1 n 0 n)),(6,(.pv (.bool put))),(7,(.pv (.int .i64 (IntKind.wrap IntKind.i64 (i+1)))))] [(.obj (.box [(.pv (.int .i64 m.c)),(.pv (.sl 1 false (List.map enc m.v)))])),(.obj (.row false 104 2 (List.map enc xs)))]))else(if (PV.asInt (List.getD (PV.cells (enc y4)) 0 default) != 0)=true then(List.length (List.map enc xs)==n&&n==n&&decide ((n+List.length (List.drop 0 (List.take 1 [PV.agg [Sh.co (Sh.int .i64) (List.getD (PV.cells (enc y4)) 0 default),Sh.co (Sh.sl 1) (List.getD (PV.cells (enc y4)) (0+1) default)]])))*32<=1099511627776)&&decide (n+List.length (List.drop 0 (List.take 1 [PV.agg [Sh.co (Sh.int .i64) (List.getD (PV.cells (enc y4)) 0 default),Sh.co (Sh.sl 1) (List.getD (PV.cells (enc y4)) (0+1) default)]]))<=1099511627776))=true∧(At ZG 0 (Za Zx G) Zy 0 67 [(0,(.pv (.sl 2 false (List.map enc p)))),(3,(.ptr 0 0)),(5,(.row 1 (n+List.length (List.drop 0 (List.take 1 [PV.agg [Sh.co (Sh.int .i64) (List.getD (PV.cells (enc y4)) 0 default),Sh.co (Sh.sl 1) (List.getD (PV.cells (enc y4)) (0+1) default)]]))) 0 (n+List.length (List.drop 0 (List.take 1 [PV.agg [Sh.co (Sh.int .i64) (List.getD (PV.cells (enc y4)) 0 default),Sh.co (Sh.sl 1) (List.getD (PV.cells (enc y4)) (0+1) default)]]))))),(6,(.pv (.bool put))),(7,(.pv (.int .i64 (IntKind.wrap IntKind.i64 (i+1)))))] [(.obj (.box [(.pv (.int .i64 m.c)),(.pv (.sl 1 false (List.map enc m.v)))])),(.obj (.row false 104 2 (List.map enc xs++List.drop 0 (List.take 1 [PV.agg [Sh.co (Sh.int .i64) (List.getD (PV.cells (enc y4)) 0 default),Sh.co (Sh.sl 1) (List.getD (PV.cells (enc y4)) (0+1) default)]]))))])else(At ZG 0 (Za Zx G) Zy 0 67 [(0,(.pv (.sl 2 false (List.map enc p)))),(3,(.ptr 0 0)),(5,(.row 1 n 0 n)),(6,(.pv (.bool put))),(7,(.pv (.int .i64 (IntKind.wrap IntKind.i64 (i+1)))))] [(.obj (.box [(.pv (.int .i64 m.c)),(.pv (.sl 1 false (List.map enc m.v)))])),(.obj (.row false 104 2 (List.map enc xs)))])))))))))else(if (!put)=true then(List.length (List.map enc xs)==n&&n==n&&decide ((n+List.length (List.drop 0 (List.take 1 [PV.agg [PV.int .i64 m.c,enc m.v]])))*32<=1099511627776)&&decide (n+List.length (List.drop 0 (List.take 1 [PV.agg [PV.int .i64 m.c,enc m.v]]))<=1099511627776))=true∧((List.length (List.map enc xs++List.drop 0 (List.take 1 [PV.agg [PV.int .i64 m.c,enc m.v]]))==n+List.length (List.drop 0 (List.take 1 [PV.agg [PV.int .i64 m.c,enc m.v]])))=true∧(G ((.sl 2 false (List.drop 0 (List.take (n+List.length (List.drop 0 (List.take 1 [PV.agg [PV.int .i64 m.c,enc m.v]]))) (List.map enc xs++List.drop 0 (List.take 1 [PV.agg [PV.int .i64 m.c,enc m.v]]))))))))else((List.length (List.map enc xs)==n)=true∧(G ((.sl 2 false (List.drop 0 (List.take n (List.map enc xs))))))))):At ZG 0 (Za Zx G) Zy 0 67 [(0,.pv (enc p)),(3,.ptr 0 0),(5,.row 1 n 0 n),(6,.pv (.bool put)),(7,.pv (.int .i64 i))] [.obj (.box [.pv (.int .i64 m.c),.pv (enc m.v)]),.obj (.row false 104 2 (xs.map enc))]:=At.tp (.lit (.ask (.req (.abs (Mono) (fun YY=>AV.pv (PV.rptr (PV.cells ((enc) YY)))) (.lit (.req (.abs (Int) (fun YY=>AV.pv (enc YY)) (.ask (.lit (.lit (.lit (.ask (.lit (.lit (.req (.req (.abs (Mono) (fun YY=>AV.pv (PV.rptr (PV.cells ((enc) YY)))) (.lit (.lit (.lit (.lit (.lit (.lit (.ask (.lit (.lit (.req (.lit (.nil))))) (.lit (.nil)))))))))))))) (.req (.abs (Mono) (fun YY=>AV.pv (PV.rptr (PV.cells ((enc) YY)))) (.lit (.ask (.lit (.lit (.lit (.ask (.lit (.lit (.ask (.lit (.lit (.req (.lit (.nil))))) (.lit (.nil))))) (.lit (.ask (.lit (.lit (.req (.lit (.nil))))) (.lit (.nil)))))))) (.lit (.lit (.lit (.lit (.ask (.lit (.lit (.req (.lit (.nil))))) (.lit (.nil))))))))))))))) (.lit (.lit (.lit (.req (.abs (Mono) (fun YY=>AV.pv (PV.rptr (PV.cells ((enc) YY)))) (.lit (.ask (.lit (.lit (.lit (.ask (.lit (.lit (.ask (.lit (.lit (.req (.lit (.nil))))) (.lit (.nil))))) (.lit (.ask (.lit (.lit (.req (.lit (.nil))))) (.lit (.nil)))))))) (.lit (.lit (.lit (.lit (.ask (.lit (.lit (.req (.lit (.nil))))) (.lit (.nil)))))))))))))))))))) (.ask (.lit (.lit (.req (.req (.nil))))) (.req (.nil))))) h (by kernel_rfl)
def Q3:IC:=(.seq (.reg [⟨(some 1),(.box 2 (.t 0)),0,none⟩,⟨(some 2),(.mv (.c (.sl 0 true []))),1,none⟩,⟨(some 3),(.mv (.c (.int .i64 0))),1,none⟩] none) (.seq (.seq (.reg [⟨(some 6),(.load true [(.int .i64),(.sl 2)] (.t 1)),0,none⟩,⟨(some 7),(.call (.c (.fn 20)) [(.t 6)]),0,none⟩,⟨(some 8),(.un .not (.t 7)),2,none⟩] none) (.cond (.t 8) (.seq (.reg [⟨(some 2),(.mv (.c (.sl 0 true []))),0,none⟩,⟨(some 3),(.mv (.c (.int .i64 1))),0,none⟩] none) .ret) .skip)) (.seq (.reg [⟨(some 9),(.faddr 0 (.t 1)),0,none⟩,⟨(some 10),(.load false [(.int .i64)] (.t 9)),0,none⟩,⟨(some 11),(.build [(.int .i64 0),(.sl 0 true [])] [(0,(1,(.t 10)))]),0,none⟩,⟨(some 12),(.call (.c (.fn 129)) [(.c (.sl 0 true [])),(.t 11)]),0,none⟩,⟨(some 4),(.mv (.t 12)),2,none⟩] none) (.seq (.seq (.reg [⟨(some 5),(.mv (.c (.int .i64 0))),0,none⟩] none) (.block 0 (.loop [5,1,4] (.seq (.seq (.reg [⟨(some 13),(.mv (.t 5)),0,none⟩,⟨(some 14),(.faddr 1 (.t 1)),0,none⟩,⟨(some 15),(.load false [(.sl 2)] (.t 14)),0,none⟩,⟨(some 16),(.len 1 (.t 15)),0,none⟩,⟨(some 17),(.bin .num .lss (.t 13) (.t 16)),0,none⟩] none) (.cond (.t 17) .skip (.exit 0))) (.seq (.block 1 (.reg [⟨(some 20),(.mv (.t 4)),0,none⟩,⟨(some 21),(.faddr 1 (.t 1)),0,none⟩,⟨(some 22),(.load false [(.sl 2)] (.t 21)),0,none⟩,⟨(some 23),(.mv (.t 5)),0,none⟩,⟨(some 24),(.iaddr 2 (.t 22) (.t 23)),0,none⟩,⟨(some 25),(.faddr 1 (.t 24)),0,none⟩,⟨(some 26),(.load false [(.int .i64)] (.t 25)),0,none⟩,⟨(some 27),(.faddr 1 (.t 1)),0,none⟩,⟨(some 28),(.load false [(.sl 2)] (.t 27)),0,none⟩,⟨(some 29),(.mv (.t 5)),0,none⟩,⟨(some 30),(.iaddr 2 (.t 28) (.t 29)),0,none⟩,⟨(some 31),(.faddr 0 (.t 30)),0,none⟩,⟨(some 32),(.load false [.str] (.t 31)),0,none⟩,⟨(some 33),(.bslice 9 1 1 (.str []) [(0,(.t 32))]),0,none⟩,⟨(some 34),(.build [(.int .i64 0),(.sl 0 true [])] [(0,(1,(.t 26))),(1,(1,(.t 33)))]),1,none⟩,⟨(some 35),(.call (.c (.fn 129)) [(.t 20),(.t 34)]),1,none⟩,⟨(some 4),(.mv (.t 35)),3,none⟩] (some [[],[],[1],[],[2,3,1],[4,2,3,1],[5,4,2,3,1],[],[7],[],[8,9,7],[10,8,9,7],[11,10,8,9,7],[12,11,10,8,9,7],[6,13,5,4,2,3,1,12,11,10,8,9,7],[0,14,6,13,5,4,2,3,1,12,11,10,8,9,7],[15,0,1,2,3,4,5,6,7,8,9,10,11,12,13,14]]))) (.reg [⟨(some 18),(.mv (.t 5)),0,none⟩,⟨(some 19),(.bin .num .add (.t 18) (.c (.int .i64 1))),0,none⟩,⟨(some 5),(.mv (.t 19)),0,none⟩] none)))))) (.seq (.reg [⟨(some 36),(.mv (.t 4)),0,none⟩,⟨(some 37),(.call (.c (.fn 130)) [(.t 36)]),0,none⟩,⟨(some 38),(.extract (.t 37) 0),2,none⟩,⟨(some 39),(.extract (.t 37) 1),2,none⟩,⟨(some 2),(.mv (.t 38)),2,none⟩,⟨(some 3),(.mv (.t 39)),2,none⟩] none) .ret)))))
def UW:List IRes:=[(.tmp 2),(.tmp 3)]
abbrev b9f:Nat:=40
def KF:ZK:=Xp [(20,.pure (preT (fun x:Lin×Unit=>Xq x.1)) (Zf (fun x:Lin×Unit=>Zz x.1))),(129,.pure (preT (fun x:List Mono×Mono×Unit=>Zv x.1&&decide (x.1.length<=1000000)&&Zn x.2.1.v)) (Zf (fun x:List Mono×Mono×Unit=>Y2 x.1 x.2.1))),(130,.pure (preT (fun x:List Mono×Unit=>Zv x.1)) (Zf (fun x:List Mono×Unit=>KC x.1)))]
theorem c4p{G:PV->Prop}(l:Lin)(h:(Go.Pl.preT (fun(x:Lin×Unit)=>Xq x.1) [(.agg [(.int .i64 l.k),(.sl 2 false (List.map enc l.t))])])=true∧(∃ y0:Bool,AV.pv (Zf (fun(x:Lin×Unit)=>Zz x.1) [(.agg [(.int .i64 l.k),(.sl 2 false (List.map enc l.t))])])=AV.pv (enc y0)∧(if (!y0)=true then G ((.tup [(.sl 0 true []),(.int .i64 1)]))else(∃ y1:List Mono,AV.pv (Zf (fun(x:List Mono×Mono×Unit)=>Y2 x.1 x.2.1) [(.sl 0 true []),(.agg [(.int .i64 l.k),(.sl 0 true [])])])=AV.pv (enc y1)∧(At KF 0 (Za UW G) Q3 0 40 [(1,(.ptr 0 0)),(4,(.pv (.sl 2 false (List.map enc y1)))),(5,(.pv (.int .i64 0)))] [(.obj (.box [(.pv (.int .i64 l.k)),(.pv (.sl 2 false (List.map enc l.t)))]))]))))):Zc KF 0 (Za UW G) Q3 [] (Yr 40 [.agg [enc l.k,enc l.t]]):=Zc.tp (.req (.abs (Bool) (fun YY=>AV.pv (enc YY)) (.ask (.nil) (.lit (.abs (List Mono) (fun YY=>AV.pv (enc YY)) (.nil)))))) h (by kernel_rfl)
theorem a0k{G:PV->Prop}(l:Lin)(o:List Mono)(i:Int)(h:if (decide (i<(↑(List.length (List.map enc l.t)):Int)))=true then(decide (0<=i)&&decide (Int.toNat i<List.length (List.map enc l.t))&&Enc.sz Coef==2)=true∧(∃ y0:Coef,AV.pv (PV.rptr (PV.cells (List.getD (List.map enc l.t) (Int.toNat i) default)))=AV.pv (PV.rptr (PV.cells ((enc) y0)))∧((decide (0<=i)&&decide (Int.toNat i<List.length (List.map enc l.t))&&Enc.sz Coef==2)=true∧(∃ y1:Coef,AV.pv (PV.rptr (PV.cells (List.getD (List.map enc l.t) (Int.toNat i) default)))=AV.pv (PV.rptr (PV.cells ((enc) y1)))∧((Go.Pl.preT (fun(x:List Mono×Mono×Unit)=>Zv x.1&&decide (List.length x.1<=1000000)&&Zn x.2.1.v) [(.sl 2 false (List.map enc o)),(.agg [(.int .i64 (PV.asInt (List.getD (List.drop 1 (PV.cells (enc y0))) 0 default))),(.sl 1 false [(.str (PV.asStr (List.getD (List.drop 0 (PV.cells (enc y1))) 0 default)))])])])=true∧(∃ y2:List Mono,AV.pv (Zf (fun(x:List Mono×Mono×Unit)=>Y2 x.1 x.2.1) [(.sl 2 false (List.map enc o)),(.agg [(.int .i64 (PV.asInt (List.getD (List.drop 1 (PV.cells (enc y0))) 0 default))),(.sl 1 false [(.str (PV.asStr (List.getD (List.drop 0 (PV.cells (enc y1))) 0 default)))])])])=AV.pv (enc y2)∧(At KF 0 (Za UW G) Q3 0 40 [(1,(.ptr 0 0)),(4,(.pv (.sl 2 false (List.map enc y2)))),(5,(.pv (.int .i64 (IntKind.wrap IntKind.i64 (i+1)))))] [(.obj (.box [(.pv (.int .i64 l.k)),(.pv (.sl 2 false (List.map enc l.t)))]))]))))))else((Go.Pl.preT (fun(x:List Mono×Unit)=>Zv x.1) [(.sl 2 false (List.map enc o))])=true∧(∃ y3:List Mono×Int,AV.pv (Zf (fun(x:List Mono×Unit)=>KC x.1) [(.sl 2 false (List.map enc o))])=AV.pv (enc y3)∧(G ((.tup [(.sl 2 false (List.map enc y3.1)),(.int .i64 y3.2)])))))):At KF 0 (Za UW G) Q3 0 40 [(1,.ptr 0 0),(4,.pv (enc o)),(5,.pv (.int .i64 i))] [.obj (.box [.pv (.int .i64 l.k),.pv (enc l.t)])]:=At.tp (.lit (.ask (.req (.abs (Coef) (fun YY=>AV.pv (PV.rptr (PV.cells ((enc) YY)))) (.lit (.req (.abs (Coef) (fun YY=>AV.pv (PV.rptr (PV.cells ((enc) YY)))) (.lit (.lit (.lit (.req (.abs (List Mono) (fun YY=>AV.pv (enc YY)) (.lit (.nil)))))))))))) (.req (.abs (List Mono×Int) (fun YY=>AV.pv (enc YY)) (.nil))))) h (by kernel_rfl)
def Vr:IC:=(.seq (.reg [⟨(some 6),(.mv (.c (.sl 0 true []))),0,none⟩] none) (.seq (.reg [⟨(some 9),(.bslice 104 2 0 (.agg [(.int .i64 0),(.sl 0 true [])]) []),0,none⟩,⟨(some 10),(.mv (.t 0)),1,none⟩,⟨(some 11),(.append 104 2 32 (.t 9) (.t 10)),1,none⟩,⟨(some 7),(.mv (.t 11)),2,none⟩] none) (.seq (.seq (.reg [⟨(some 8),(.mv (.c (.int .i64 0))),0,none⟩] none) (.block 0 (.loop [8,1,7,2] (.seq (.seq (.reg [⟨(some 12),(.mv (.t 8)),0,none⟩,⟨(some 13),(.mv (.t 1)),0,none⟩,⟨(some 14),(.len 1 (.t 13)),0,none⟩,⟨(some 15),(.bin .num .lss (.t 12) (.t 14)),0,none⟩] none) (.cond (.t 15) .skip (.exit 0))) (.seq (.block 1 (.reg [⟨(some 18),(.mv (.t 7)),0,none⟩,⟨(some 19),(.mv (.t 2)),0,none⟩,⟨(some 20),(.mv (.t 1)),0,none⟩,⟨(some 21),(.mv (.t 8)),0,none⟩,⟨(some 22),(.iaddr 2 (.t 20) (.t 21)),0,none⟩,⟨(some 23),(.faddr 0 (.t 22)),0,none⟩,⟨(some 24),(.load false [(.int .i64)] (.t 23)),0,none⟩,⟨(some 25),(.bin .num .mul (.t 19) (.t 24)),0,none⟩,⟨(some 26),(.mv (.t 1)),0,none⟩,⟨(some 27),(.mv (.t 8)),0,none⟩,⟨(some 28),(.iaddr 2 (.t 26) (.t 27)),0,none⟩,⟨(some 29),(.faddr 1 (.t 28)),0,none⟩,⟨(some 30),(.load false [(.sl 1)] (.t 29)),0,none⟩,⟨(some 31),(.build [(.int .i64 0),(.sl 0 true [])] [(0,(1,(.t 25))),(1,(1,(.t 30)))]),0,none⟩,⟨(some 32),(.call (.c (.fn 129)) [(.t 18),(.t 31)]),0,none⟩,⟨(some 7),(.mv (.t 32)),2,none⟩] (some [[],[],[],[],[2,3],[4,2,3],[5,4,2,3],[1,6,5,4,2,3],[],[],[8,9],[10,8,9],[11,10,8,9],[7,12,1,6,5,4,2,3,11,10,8,9],[0,13,7,12,1,6,5,4,2,3,11,10,8,9],[14,0,1,2,3,4,5,6,7,8,9,10,11,12,13]]))) (.reg [⟨(some 16),(.mv (.t 8)),0,none⟩,⟨(some 17),(.bin .num .add (.t 16) (.c (.int .i64 1))),0,none⟩,⟨(some 8),(.mv (.t 17)),0,none⟩] none)))))) (.seq (.reg [⟨(some 33),(.mv (.t 7)),0,none⟩,⟨(some 6),(.mv (.t 33)),0,none⟩] none) .ret))))
def Vs:List IRes:=[(.tmp 6)]
abbrev b6n:Nat:=34
def Uk:ZK:=Xp [(129,.pure (preT (fun x:List Mono×Mono×Unit=>Zv x.1&&decide (x.1.length<=1000000)&&Zn x.2.1.v)) (Zf (fun x:List Mono×Mono×Unit=>Y2 x.1 x.2.1)))]
theorem b7h{G:PV->Prop}(a b:List Mono)(k:Int)(h:(List.isEmpty (List.map enc a)||Enc.sz Mono==2)=true∧((List.length ([]:List PV)==0&&0==0&&decide ((0+List.length (List.map enc a))*32<=1099511627776)&&decide (0+List.length (List.map enc a)<=1099511627776))=true∧(At Uk 0 (Za Vs G) Vr 0 34 [(1,(.pv (.sl 2 false (List.map enc b)))),(2,(.pv (.int .i64 k))),(7,(.row 0 (0+List.length (List.map enc a)) 0 (0+List.length (List.map enc a)))),(8,(.pv (.int .i64 0)))] [(.obj (.row false 104 2 (([]:List PV)++List.map enc a)))]))):Zc Uk 0 (Za Vs G) Vr [] (Yr 34 [enc a,enc b,enc k]):=Zc.tp (.lit (.req (.req (.nil)))) h (by kernel_rfl)
theorem Rc{G:PV->Prop}(a b:List Mono)(k:Int)(i:Int)(n:Nat)(xs:List Mono)(h:if (decide (i<(↑(List.length (List.map enc b)):Int)))=true then(decide (0<=i)&&decide (Int.toNat i<List.length (List.map enc b))&&Enc.sz Mono==2)=true∧(∃ y0:Mono,AV.pv (PV.rptr (PV.cells (List.getD (List.map enc b) (Int.toNat i) default)))=AV.pv (PV.rptr (PV.cells ((enc) y0)))∧((decide (0<=i)&&decide (Int.toNat i<List.length (List.map enc b))&&Enc.sz Mono==2)=true∧(∃ y1:Mono,AV.pv (PV.rptr (PV.cells (List.getD (List.map enc b) (Int.toNat i) default)))=AV.pv (PV.rptr (PV.cells ((enc) y1)))∧((List.length (List.map enc xs)==n)=true∧((Go.Pl.preT (fun(x:List Mono×Mono×Unit)=>Zv x.1&&decide (List.length x.1<=1000000)&&Zn x.2.1.v) [(.sl 2 false (List.drop 0 (List.take n (List.map enc xs)))),(.agg [(.int .i64 (IntKind.wrap IntKind.i64 (k*PV.asInt (List.getD (List.drop 0 (PV.cells (enc y0))) 0 default)))),(.sl 1 false (PV.asXs (List.getD (List.drop 1 (PV.cells (enc y1))) 0 default)))])])=true∧(∃ y2:List Mono,AV.pv (Zf (fun(x:List Mono×Mono×Unit)=>Y2 x.1 x.2.1) [(.sl 2 false (List.drop 0 (List.take n (List.map enc xs)))),(.agg [(.int .i64 (IntKind.wrap IntKind.i64 (k*PV.asInt (List.getD (List.drop 0 (PV.cells (enc y0))) 0 default)))),(.sl 1 false (PV.asXs (List.getD (List.drop 1 (PV.cells (enc y1))) 0 default)))])])=AV.pv (enc y2)∧(At Uk 0 (Za Vs G) Vr 0 34 [(1,(.pv (.sl 2 false (List.map enc b)))),(2,(.pv (.int .i64 k))),(7,(.pv (.sl 2 false (List.map enc y2)))),(8,(.pv (.int .i64 (IntKind.wrap IntKind.i64 (i+1)))))] [])))))))else((List.length (List.map enc xs)==n)=true∧(G ((.sl 2 false (List.drop 0 (List.take n (List.map enc xs)))))))):At Uk 0 (Za Vs G) Vr 0 34 [(1,.pv (enc b)),(2,.pv (enc k)),(7,.row 0 n 0 n),(8,.pv (.int .i64 i))] [.obj (.row false 104 2 (xs.map enc))]:=At.tp (.lit (.ask (.req (.abs (Mono) (fun YY=>AV.pv (PV.rptr (PV.cells ((enc) YY)))) (.lit (.lit (.req (.abs (Mono) (fun YY=>AV.pv (PV.rptr (PV.cells ((enc) YY)))) (.lit (.req (.req (.abs (List Mono) (fun YY=>AV.pv (enc YY)) (.lit (.nil)))))))))))) (.req (.nil)))) h (by kernel_rfl)
theorem Rs{G:PV->Prop}(a b:List Mono)(k:Int)(i:Int)(o:List Mono)(h:if (decide (i<(↑(List.length (List.map enc b)):Int)))=true then(decide (0<=i)&&decide (Int.toNat i<List.length (List.map enc b))&&Enc.sz Mono==2)=true∧(∃ y0:Mono,AV.pv (PV.rptr (PV.cells (List.getD (List.map enc b) (Int.toNat i) default)))=AV.pv (PV.rptr (PV.cells ((enc) y0)))∧((decide (0<=i)&&decide (Int.toNat i<List.length (List.map enc b))&&Enc.sz Mono==2)=true∧(∃ y1:Mono,AV.pv (PV.rptr (PV.cells (List.getD (List.map enc b) (Int.toNat i) default)))=AV.pv (PV.rptr (PV.cells ((enc) y1)))∧((Go.Pl.preT (fun(x:List Mono×Mono×Unit)=>Zv x.1&&decide (List.length x.1<=1000000)&&Zn x.2.1.v) [(.sl 2 false (List.map enc o)),(.agg [(.int .i64 (IntKind.wrap IntKind.i64 (k*PV.asInt (List.getD (List.drop 0 (PV.cells (enc y0))) 0 default)))),(.sl 1 false (PV.asXs (List.getD (List.drop 1 (PV.cells (enc y1))) 0 default)))])])=true∧(∃ y2:List Mono,AV.pv (Zf (fun(x:List Mono×Mono×Unit)=>Y2 x.1 x.2.1) [(.sl 2 false (List.map enc o)),(.agg [(.int .i64 (IntKind.wrap IntKind.i64 (k*PV.asInt (List.getD (List.drop 0 (PV.cells (enc y0))) 0 default)))),(.sl 1 false (PV.asXs (List.getD (List.drop 1 (PV.cells (enc y1))) 0 default)))])])=AV.pv (enc y2)∧(At Uk 0 (Za Vs G) Vr 0 34 [(1,(.pv (.sl 2 false (List.map enc b)))),(2,(.pv (.int .i64 k))),(7,(.pv (.sl 2 false (List.map enc y2)))),(8,(.pv (.int .i64 (IntKind.wrap IntKind.i64 (i+1)))))] []))))))else(G ((.sl 2 false (List.map enc o))))):At Uk 0 (Za Vs G) Vr 0 34 [(1,.pv (enc b)),(2,.pv (enc k)),(7,.pv (enc o)),(8,.pv (.int .i64 i))] []:=At.tp (.lit (.ask (.req (.abs (Mono) (fun YY=>AV.pv (PV.rptr (PV.cells ((enc) YY)))) (.lit (.lit (.req (.abs (Mono) (fun YY=>AV.pv (PV.rptr (PV.cells ((enc) YY)))) (.lit (.req (.abs (List Mono) (fun YY=>AV.pv (enc YY)) (.lit (.nil))))))))))) (.nil))) h (by kernel_rfl)
def AZ:IC:=(.seq (.reg [⟨(some 4),(.mv (.c (.sl 0 true []))),0,none⟩,⟨(some 5),(.mv (.c (.int .i64 0))),0,none⟩] none) (.seq (.seq (.reg [⟨(some 6),(.mv (.t 0)),0,none⟩,⟨(some 7),(.call (.c (.fn 131)) [(.t 6)]),0,none⟩,⟨(some 8),(.un .not (.t 7)),2,none⟩,⟨(some 9),(.mv (.t 8)),2,none⟩,⟨(some 10),(.mv (.t 1)),2,(some (9,false))⟩,⟨(some 11),(.call (.c (.fn 131)) [(.t 10)]),2,(some (9,false))⟩,⟨(some 12),(.un .not (.t 11)),4,(some (9,false))⟩,⟨(some 13),(.pick (.t 9) (.c (.bool true)) (.t 12)),4,none⟩] none) (.cond (.t 13) (.seq (.reg [⟨(some 4),(.mv (.c (.sl 0 true []))),0,none⟩,⟨(some 5),(.mv (.c (.int .i64 1))),0,none⟩] none) .ret) .skip)) (.seq (.reg [⟨(some 14),(.mv (.t 0)),0,none⟩,⟨(some 15),(.mv (.t 1)),0,none⟩,⟨(some 16),(.call (.c (.fn 132)) [(.t 14),(.t 15),(.c (.int .i64 1))]),0,none⟩,⟨(some 17),(.call (.c (.fn 130)) [(.t 16)]),2,none⟩,⟨(some 18),(.extract (.t 17) 0),4,none⟩,⟨(some 19),(.extract (.t 17) 1),4,none⟩,⟨(some 4),(.mv (.t 18)),4,none⟩,⟨(some 5),(.mv (.t 19)),4,none⟩] none) .ret)))
def Bw:List IRes:=[(.tmp 4),(.tmp 5)]
abbrev b3i:Nat:=20
def PN:ZK:=Xp [(131,.pure (preT (fun x:List Mono×Unit=>Zv x.1)) (Zf (fun x:List Mono×Unit=>ZC x.1))),(132,.pure (preT (fun x:List Mono×List Mono×Int×Unit=>Zv x.1&&decide (x.1.length<=1000)&&Zv x.2.1&&decide (x.2.1.length<=1000))) (Zf (fun x:List Mono×List Mono×Int×Unit=>XC x.1 x.2.1 x.2.2.1))),(130,.pure (preT (fun x:List Mono×Unit=>Zv x.1)) (Zf (fun x:List Mono×Unit=>KC x.1)))]
theorem b9d{G:PV->Prop}(a b:List Mono)(h:(Go.Pl.preT (fun(x:List Mono×Unit)=>Zv x.1) [(.sl 2 false (List.map enc a))])=true∧(∃ y0:Bool,AV.pv (Zf (fun(x:List Mono×Unit)=>ZC x.1) [(.sl 2 false (List.map enc a))])=AV.pv (enc y0)∧(if (!y0)=true then G ((.tup [(.sl 0 true []),(.int .i64 1)]))else((Go.Pl.preT (fun(x:List Mono×Unit)=>Zv x.1) [(.sl 2 false (List.map enc b))])=true∧(∃ y1:Bool,AV.pv (Zf (fun(x:List Mono×Unit)=>ZC x.1) [(.sl 2 false (List.map enc b))])=AV.pv (enc y1)∧(if (!y1)=true then G ((.tup [(.sl 0 true []),(.int .i64 1)]))else((Go.Pl.preT (fun(x:List Mono×List Mono×Int×Unit)=>Zv x.1&&decide (List.length x.1<=1000)&&Zv x.2.1&&decide (List.length x.2.1<=1000)) [(.sl 2 false (List.map enc a)),(.sl 2 false (List.map enc b)),(.int .i64 1)])=true∧(∃ y2:List Mono,AV.pv (Zf (fun(x:List Mono×List Mono×Int×Unit)=>XC x.1 x.2.1 x.2.2.1) [(.sl 2 false (List.map enc a)),(.sl 2 false (List.map enc b)),(.int .i64 1)])=AV.pv (enc y2)∧((Go.Pl.preT (fun(x:List Mono×Unit)=>Zv x.1) [(.sl 2 false (List.map enc y2))])=true∧(∃ y3:List Mono×Int,AV.pv (Zf (fun(x:List Mono×Unit)=>KC x.1) [(.sl 2 false (List.map enc y2))])=AV.pv (enc y3)∧(G ((.tup [(.sl 2 false (List.map enc y3.1)),(.int .i64 y3.2)]))))))))))))):Zc PN 0 (Za Bw G) AZ [] (Yr 20 [enc a,enc b]):=Zc.tp (.req (.abs (Bool) (fun YY=>AV.pv (enc YY)) (.ask (.lit (.lit (.lit (.lit (.nil))))) (.lit (.req (.abs (Bool) (fun YY=>AV.pv (enc YY)) (.lit (.lit (.ask (.nil) (.req (.abs (List Mono) (fun YY=>AV.pv (enc YY)) (.req (.abs (List Mono×Int) (fun YY=>AV.pv (enc YY)) (.nil)))))))))))))) h (by kernel_rfl)
end Go.Pl

namespace Go.Pl
open Go.RowKit
open Enc (enc dec is)
open EncL (encL decL isL)
theorem NQ{p:List Mono}(h:Zv p=true){m:Mono}(hm:m∈p):YB m.v=true:=by
 unfold Zv at h
 rw[Bool.and_eq_true]at h
 exact List.all_eq_true.1 h.2 m hm
theorem Pd{l:List Str}(h:YB l=true):l.length<=9223372036854775807:=by
 unfold YB at h
 rw[Bool.and_eq_true]at h
 exact Zu.1 h.1
theorem LQ{p:List Mono}(h:Zv p=true){m:Mono}(hm:m∈p):m.v.length<=9223372036854775807:=Pd (NQ h hm)
theorem c2t{i:Nat}(h:i<9223372036854775807):IntKind.i64.wrap (((i+1:Nat):Int) - 1)=(i:Int):=by rw[WN (by omega) (by omega)];omega
theorem NZ(a b:List Str)(ha:a.length<=9223372036854775807)(hb:b.length<=9223372036854775807): ∀ (d i:Nat),d+i=a.length->i<=b.length ->
  At Uw 0 (Za VG (Zj (Yg (a.drop i) (b.drop i)))) VM 0 41 [(0,.pv (enc a)),(1,.pv (enc b)),(5,.pv (.int .i64 i))] []:=by
 have hw:IntKind.i64.wrap ((a.length:Int) - (b.length:Int))=(a.length:Int) - (b.length:Int):=WN (by omega) (by omega)
 intro d
 induction d with
 | zero=>
  intro i hi hib
  refine GY a b i (ZN (Ud (by omega)) (Uv ?_))
  rw[List.length_map,List.length_map,hw,List.drop_of_length_le (show a.length<=i by omega),Yg,List.length_drop]
  omega
 | succ d ih=>
  intro i hi hib
  have hlt:i<a.length:=by omega
  rw[List.drop_eq_getElem_cons hlt]
  by_cases hlb:i<b.length
  ·have ih:=ih (i+1) (by omega) (by omega)
   rw[List.drop_eq_getElem_cons hlb,Yg]
   refine GY a b i (ZU (WW hlt) (ZU (WW hlb) ⟨Zq hlt rfl,ZF hlt ⟨Zq hlb rfl,ZF hlb ?_⟩⟩))
   show if Op.bytesLess a[i].s b[i].s=true then _ else _
   rw[Yq]
   refine Xy (fun h=> ?_) fun h=>⟨Zq hlt rfl,ZF hlt ⟨Zq hlb rfl,ZF hlb ?_⟩⟩
   ·rw[if_pos h];exact Uv rfl
   ·rw[if_neg h]
    show if (!(Op.bytesLess a[i].s b[i].s||a[i].s==b[i].s))=true then _ else _
    rw[Yq,decide_eq_false h,Bool.false_or]
    refine XX (fun h2=> ?_) fun h2=> ?_
    ·have h2:a[i].s≠b[i].s:=by simpa using h2
     have h3:b[i].s<a[i].s:=Decidable.byContradiction fun h3=>h2 (by rw[OC h h3])
     rw[if_pos h3];exact Uv rfl
    ·have h2:a[i].s=b[i].s:=by simpa using h2
     rw[if_neg (by rw[h2];exact List.lt_irrefl _),next (by omega)]
     exact ih
  ·refine GY a b i (ZU (WW hlt) (ZN (Ud hlb) (Uv ?_)))
   rw[List.length_map,List.length_map,hw,List.drop_of_length_le (show b.length<=i by omega),Yg,List.length_cons,List.length_drop]
   omega
   intro h;cases h
theorem EW: ∀ x:List Str×List Str×Unit,(Zn x.1&&Zn x.2.1)=true->Zc Uw 0 (Za VG (Zj (Yg x.1 x.2.1))) VM [] (Yr a4g (encL x)):=by
 rintro⟨a,b,⟨⟩⟩ h
 rw[Bool.and_eq_true]at h
 exact b5c a b (NZ a b (Zu.1 h.1) (Zu.1 h.2) a.length 0 rfl (by omega))
theorem a7c{l:List Str}{k:Nat}(h:k+1<l.length):QA (l.drop k)=(!decide (l[k+1].s<(l[k]'(by omega)).s)&&QA (l.drop (k+1))):=by
 rw[List.drop_eq_getElem_cons (show k<l.length by omega),List.drop_eq_getElem_cons h,QA]
theorem a3x{l:List Mono}{k:Nat}(h:k+1<l.length):D8 (l.drop k)=(decide (Yg (l[k]'(by omega)).v l[k+1].v<0)&&D8 (l.drop (k+1))):=by
 rw[List.drop_eq_getElem_cons (show k<l.length by omega),List.drop_eq_getElem_cons h,D8]
theorem a9x{l:List Str}{k:Nat}(h:l.length<=k+1):QA (l.drop k)=true:=by
 by_cases hk:k<l.length
 ·rw[List.drop_eq_getElem_cons hk,List.drop_of_length_le h];rfl
 ·rw[List.drop_of_length_le (by omega)];rfl
theorem b4s{l:List Mono}{k:Nat}(h:l.length<=k+1):D8 (l.drop k)=true:=by
 by_cases hk:k<l.length
 ·rw[List.drop_eq_getElem_cons hk,List.drop_of_length_le h];rfl
 ·rw[List.drop_of_length_le (by omega)];rfl
theorem c7f(p:List Mono)(m:Mono)(hm:m.v.length<=9223372036854775807)(i:Nat)(hi:i<9223372036854775807)(R:Bool)
  (hK:At UK 0 (Za WM (Zj R)) Vn 0 86 [(0,.pv (enc p)),(3,.pv (.int .i64 ((i+1:Nat):Int)))] []) : ∀ (d k:Nat),d+k=m.v.length ->
  At UK 0 (Za WM (Zj ((m.v.drop k).all ZB&&QA (m.v.drop (k - 1))&&R))) Vn 1 86 [(0,.pv (enc p)),(3,.pv (.int .i64 i)),(4,.ptr 0 0),(5,.pv (.int .i64 k))] [.obj (.box [.pv (.int .i64 m.c),.pv (enc m.v)])]:=by
 intro d
 induction d with
 | zero=>
  intro k hk
  rw[List.drop_of_length_le (show m.v.length<=k by omega),a9x (by omega)]
  refine b4f p m i k (ZN (Ud (by omega)) ?_)
  rw[next hi]
  exact hK
 | succ d ih=>
  intro k hk
  have hlt:k<m.v.length:=by omega
  have ih:=ih (k+1) (by omega)
  rw[show k+1 - 1=k from rfl]at ih
  have ed:(m.v.drop k).all ZB=(ZB m.v[k]&&(m.v.drop (k+1)).all ZB):=by rw[List.drop_eq_getElem_cons hlt,List.all_cons]
  refine b4f p m i k (ZU (WW hlt) ⟨Zq hlt rfl,ZF hlt (Zd (m.v[k],()) rfl ?_)⟩)
  rw[ed]
  refine XX (fun hn=> ?_) fun hn=> ?_
  ·have hn:ZB m.v[k]=false:=hn
   rw[hn];exact ZM rfl
  ·have hn:ZB m.v[k]=true:=hn
   rw[hn,Bool.true_and]
   refine Xy (fun h0=> ?_) fun h0=> ?_
   ·obtain⟨j,rfl⟩ : ∃ j,k=j+1:=⟨k - 1,by omega⟩
    have hj:j<m.v.length:=by omega
    rw[c2t (by omega),show j+1 - 1=j from rfl,a7c hlt]
    refine⟨Zq hj rfl,ZF hj ⟨Zq hlt rfl,ZF hlt ?_⟩⟩
    show if (!(Op.bytesLess m.v[j].s m.v[j+1].s||m.v[j].s==m.v[j+1].s))=true then _ else _
    rw[Yq]
    refine XX (fun h=> ?_) fun h=> ?_
    ·have h : ¬ m.v[j].s<m.v[j+1].s∧m.v[j].s≠m.v[j+1].s:=by simpa using h
     have h3:m.v[j+1].s<m.v[j].s:=Decidable.byContradiction fun h3=>h.2 (by rw[OC h.1 h3])
     rw[decide_eq_true h3]
     refine ZM ?_
     simp
    ·have h:m.v[j].s<m.v[j+1].s∨m.v[j].s=m.v[j+1].s:=by simpa using h
     have h3 : ¬ m.v[j+1].s<m.v[j].s:=by
      rcases h with h|h
      ·exact fun h'=>List.lt_irrefl _ (List.lt_trans h h')
      ·rw[h];exact List.lt_irrefl _
     rw[decide_eq_false h3,Bool.not_false,Bool.true_and,next (by omega)]
     exact ih
   ·have:k=0:=by omega
    subst this
    rw[next (by omega)]
    exact ih
theorem b3w(p:List Mono)(hp:p.length<=60)(hv : ∀ m∈p,m.v.length<=9223372036854775807): ∀ (d i:Nat),d+i=p.length ->
  At UK 0 (Za WM (Zj ((p.drop i).all YK&&D8 (p.drop (i - 1))))) Vn 0 86 [(0,.pv (enc p)),(3,.pv (.int .i64 i))] []:=by
 intro d
 induction d with
 | zero=>
  intro i hi
  rw[List.drop_of_length_le (show p.length<=i by omega),b4s (by omega)]
  exact b1u p i (ZN (Ud (by omega)) (ZM rfl))
 | succ d ih=>
  intro i hi
  have hlt:i<p.length:=by omega
  have ih:=ih (i+1) (by omega)
  rw[show i+1 - 1=i from rfl]at ih
  have hm:=hv _ (List.getElem_mem hlt)
  have ed:(p.drop i).all YK=(YK p[i]&&(p.drop (i+1)).all YK):=by rw[List.drop_eq_getElem_cons hlt,List.all_cons]
  rw[ed]
  refine b1u p i (ZU (WW hlt) ⟨Zq hlt rfl,ZF hlt ?_⟩)
  generalize hmi:p[i]=m at hm ih ⊢
  have bad:YK m=false->Zj (YK m&&(p.drop (i+1)).all YK&&D8 (p.drop (i - 1))) (.bool false):=fun h=>by rw[h];exact ZM rfl
  refine KE (fun h=>bad ?_) fun h1=>Xy (fun h=>bad ?_) fun h2=>Xy (fun h=>bad ?_) fun h3=>Xy (fun h=>bad ?_) fun h4=> ?_
  ·have h:m.c=0:=h
   unfold YK;rw[decide_eq_false (by simpa using h)];rfl
  ·have h:m.c < -1099511627776:=h
   unfold YK;rw[decide_eq_false (p:= -1099511627776<=m.c) (by omega),Bool.and_false];rfl
  ·have h:m.c>1099511627776:=h
   unfold YK;rw[decide_eq_false (p:=m.c<=1099511627776) (by omega),Bool.and_false];rfl
  ·have h:((m.v.map (enc:Str->PV)).length:Int)>8:=h
   rw[List.length_map]at h
   unfold YK;rw[decide_eq_false (p:=m.v.length<=8) (by omega),Bool.and_false];rfl
  ·have h1:m.c≠0:=h1
   have h2 : ¬ m.c < -1099511627776:=h2
   have h3 : ¬ m.c>1099511627776:=h3
   have h4 : ¬ ((m.v.map (enc:Str->PV)).length:Int)>8:=h4
   rw[List.length_map]at h4
   have em:YK m=((m.v.drop 0).all ZB&&QA (m.v.drop (0 - 1))):=by
    unfold YK
    rw[decide_eq_true h1,decide_eq_true (p:= -1099511627776<=m.c) (by omega),decide_eq_true (p:=m.c<=1099511627776) (by omega),decide_eq_true (p:=m.v.length<=8) (by omega),List.drop_zero];simp only[Bool.true_and];exact Bool.and_comm _ _
   have inner:=fun R hK=>c7f p m hm i (by omega) R hK m.v.length 0 rfl
   refine Xy (fun h0=> ?_) fun h0=> ?_
   ·obtain⟨j,rfl⟩ : ∃ j,i=j+1:=⟨i - 1,by omega⟩
    have hj:j<p.length:=by omega
    have hvj:=hv _ (List.getElem_mem hj)
    rw[c2t (by omega),show j+1 - 1=j from rfl,a3x hlt,hmi]
    refine⟨Zq hj rfl,ZF hj ⟨Ze (p[j].v,m.v,()) rfl (by show(Zn p[j].v&&Zn m.v)=true;rw[Zu.2 hvj,Zu.2 hm];rfl),Zd (p[j].v,m.v,()) rfl ?_⟩⟩
    show if decide (Yg p[j].v m.v ≥ 0)=true then _ else _
    refine Xy (fun h=> ?_) fun h=> ?_
    ·rw[decide_eq_false (p:=Yg p[j].v m.v<0) (by omega),Bool.false_and,Bool.and_false]
     exact ZM rfl
    ·rw[decide_eq_true (p:=Yg p[j].v m.v<0) (by omega),Bool.true_and,em,Bool.and_assoc]
     exact inner _ ih
   ·have:i=0:=by omega
    subst this
    rw[em,Bool.and_assoc]
    exact inner _ ih
theorem c1l: ∀ x:List Mono×Unit,Zv x.1=true->Zc UK 0 (Za WM (Zj (ZC x.1))) Vn [] (Yr c3e (encL x)):=by
 rintro⟨p,⟨⟩⟩ h
 refine c7w p ?_
 rw[List.length_map]
 show if decide ((p.length:Int)>60)=true then _ else At UK 0 (Za WM (Zj (ZC p))) _ _ _ _ _
 unfold ZC
 refine Xy (fun h1=> ?_) fun h1=> ?_
 ·rw[decide_eq_false (p:=p.length<=60) (by omega)];exact ZM rfl
 ·rw[decide_eq_true (p:=p.length<=60) (by omega),Bool.true_and]
  exact b3w p (by omega) (fun m hm=>LQ h hm) p.length 0 rfl
theorem a5f: ∀ x:List Mono×Unit,Zv x.1=true->Zc Nt 0 (Za Ak (Zj (KC x.1))) Ap [] (Yr b4w (encL x)):=by
 rintro⟨p,⟨⟩⟩ h
 refine b8k p ⟨Ze (p,()) rfl h,Zd (p,()) rfl ?_⟩
 show if (!(ZC p))=true then Zj (KC p) _ else Zj (KC p) _
 unfold KC
 refine XX (fun h=> ?_) fun h=> ?_
 ·rw[if_neg (by rw[h];simp)]
  exact⟨rfl,rfl⟩
 ·rw[if_pos h]
  exact ZP (x:=(p,(0:Int))) rfl
def a8g(p:List Mono)(m:Mono)(put:Bool)(i:Nat)(xs:List Mono):Prop:= ∀ R:List Mono,R=xs++Xa m put (p.drop i) ->
 match xs with
 | []=>At ZG 0 (Za Zx (Zj R)) Zy 0 67 [(0,.pv (enc p)),(3,.ptr 0 0),(5,.pv (.sl 0 true [])),(6,.pv (.bool put)),(7,.pv (.int .i64 i))] [.obj (.box [.pv (.int .i64 m.c),.pv (enc m.v)])]
 | x::r=>At ZG 0 (Za Zx (Zj R)) Zy 0 67 [(0,.pv (enc p)),(3,.ptr 0 0),(5,.row 1 (r.length+1) 0 (r.length+1)),(6,.pv (.bool put)),(7,.pv (.int .i64 i))] [.obj (.box [.pv (.int .i64 m.c),.pv (enc m.v)]),.obj (.row false 104 2 ((x::r).map enc))]
theorem a8g.row{p:List Mono}{m:Mono}{put:Bool}{i n:Nat}{ys:List Mono}{R:List Mono}{qs:List PV}(h:a8g p m put i ys)(h0:ys≠[])(hR:R=ys++Xa m put (p.drop i))(hn:n=ys.length)(hy:qs=ys.map enc):
  At ZG 0 (Za Zx (Zj R)) Zy 0 67 [(0,.pv (enc p)),(3,.ptr 0 0),(5,.row 1 n 0 n),(6,.pv (.bool put)),(7,.pv (.int .i64 i))] [.obj (.box [.pv (.int .i64 m.c),.pv (enc m.v)]),.obj (.row false 104 2 qs)]:=by
 subst hn hy
 cases ys with
 | nil=>exact absurd rfl h0
 | cons x r=>exact h R hR
theorem a8g.nil{p:List Mono}{m:Mono}{put:Bool}{i:Nat}{R:List Mono}(h:a8g p m put i [])(hR:R=Xa m put (p.drop i)):
  At ZG 0 (Za Zx (Zj R)) Zy 0 67 [(0,.pv (enc p)),(3,.ptr 0 0),(5,.pv (.sl 0 true [])),(6,.pv (.bool put)),(7,.pv (.int .i64 i))] [.obj (.box [.pv (.int .i64 m.c),.pv (enc m.v)])]:=h R hR
theorem a7g(p:List Mono)(m:Mono)(hp:p.length<=1000000)(hv : ∀ x∈p,x.v.length<=9223372036854775807)(hm:m.v.length<=9223372036854775807): ∀ (d i:Nat) (put:Bool) (xs:List Mono),d+i=p.length->xs.length<=2*i->a8g p m put i xs:=by
 intro d
 induction d with
 | zero=>
  intro i put xs hi hx R hR
  have hd:p.drop i=[]:=List.drop_of_length_le (by omega)
  rw[hd,Xa]at hR
  cases xs with
  | nil=>
   refine JD p m put i (ZN (Ud (by omega)) (XX (fun h=> ?_) fun h=> ?_))
   ·subst h
    rw[hR]
    exact ZP (x:=[m]) rfl
   ·subst h
    rw[hR]
    exact⟨rfl,rfl⟩
  | cons x r=>
   rw[List.length_cons]at hx
   refine JO p m put i (r.length+1) (x::r) (ZN (Ud (by omega)) (XX (fun h=> ?_) fun h=>⟨by simp,?_⟩))
   ·subst h
    refine⟨Kh (m:=1) (by simp) (by omega) (by omega),by simp,?_⟩
    have e:List.drop 0 (List.take (r.length+1+List.length (List.drop 0 (List.take 1 [PV.agg [PV.int .i64 m.c,enc m.v]]))) (List.map (enc:Mono->PV) (x::r)++List.drop 0 (List.take 1 [PV.agg [PV.int .i64 m.c,enc m.v]])))=(x::r++[m]).map enc:=by
     rw[List.drop_zero,List.map_append]
     exact List.take_of_length_le (by simp)
    rw[e,hR]
    exact ZP (x:=x::r++[m]) rfl
   ·subst h
    rw[List.drop_zero,List.take_of_length_le (by simp),hR,if_pos rfl,List.append_nil]
    exact ZP (x:=x::r) rfl
 | succ d ih=>
  intro i put xs hi hx R hR
  have hlt:i<p.length:=by omega
  have hvi:=hv _ (List.getElem_mem hlt)
  have hd:p.drop i=p[i]::p.drop (i+1):=List.drop_eq_getElem_cons hlt
  have I1:=fun put ys (hy:ys.length<=xs.length+2)=>ih (i+1) put ys (by omega) (by omega)
  have hpre:(Zn p[i].v&&Zn m.v)=true:=by rw[Zu.2 hvi,Zu.2 hm];rfl
  have hxl:xs.length+2<=2000002:=by omega
  rw[hd,Xa]at hR
  cases xs with
  | nil=>
   cases put with
   | false=>
    refine JD p m false i (ZU (WW hlt) ⟨Zq hlt rfl,ZF hlt ⟨Ze (p[i].v,m.v,()) rfl hpre,Zd (p[i].v,m.v,()) rfl (ZU rfl (Xy (fun hc=> ?_) fun hc=> ?_))⟩⟩)
    ·have hc:Yg p[i].v m.v>0:=hc
     refine⟨Zq hlt rfl,ZF hlt (Jk (fun hz=> ?_) fun hz=> ?_)⟩
     ·have hz:p[i].c≠0:=by simpa using (show(p[i].c != 0)=true from hz)
      rw[next (by omega)]
      exact(I1 true [m,p[i]] (by simp)).row (by simp) (by rw[hR];simp[hc,hz]) rfl rfl
     ·have hz:p[i].c=0:=by simpa using (show ¬ (p[i].c != 0)=true from hz)
      rw[next (by omega)]
      exact(I1 true [m] (by simp)).row (by simp) (by rw[hR];simp[hc,hz]) rfl rfl
    ·have hc : ¬ Yg p[i].v m.v>0:=hc
     refine⟨Zq hlt rfl,ZF hlt (ZU rfl (KE (fun h0=> ?_) fun h0=> ?_))⟩
     ·have h0:Yg p[i].v m.v=0:=h0
      refine Jk (fun hz=> ?_) fun hz=> ?_
      ·have hz:V8 (p[i].c+m.c)≠0:=by simpa using (show(V8 (p[i].c+m.c) != 0)=true from hz)
       rw[next (by omega)]
       exact(I1 true [⟨V8 (p[i].c+m.c),p[i].v⟩] (by simp)).row (by simp) (by rw[hR];simp[h0,hz]) rfl rfl
      ·have hz:V8 (p[i].c+m.c)=0:=by simpa using (show ¬ (V8 (p[i].c+m.c) != 0)=true from hz)
       rw[next (by omega)]
       exact(I1 true [] (by simp)).nil (by rw[hR];simp[h0,hz])
     ·have h0:Yg p[i].v m.v≠0:=h0
      refine Jk (fun hz=> ?_) fun hz=> ?_
      ·have hz:p[i].c≠0:=by simpa using (show(p[i].c != 0)=true from hz)
       rw[next (by omega)]
       exact(I1 false [p[i]] (by simp)).row (by simp) (by rw[hR];simp[hc,h0,hz]) rfl rfl
      ·have hz:p[i].c=0:=by simpa using (show ¬ (p[i].c != 0)=true from hz)
       rw[next (by omega)]
       exact(I1 false [] (by simp)).nil (by rw[hR];simp[hc,h0,hz])
   | true=>
    refine JD p m true i (ZU (WW hlt) ⟨Zq hlt rfl,ZF hlt ⟨Ze (p[i].v,m.v,()) rfl hpre,Zd (p[i].v,m.v,()) rfl (ZN (by decide) ⟨Zq hlt rfl,ZF hlt (ZN (by decide) (Jk (fun hz=> ?_) fun hz=> ?_))⟩)⟩⟩)
    ·have hz:p[i].c≠0:=by simpa using (show(p[i].c != 0)=true from hz)
     rw[next (by omega)]
     exact(I1 true [p[i]] (by simp)).row (by simp) (by rw[hR];simp[hz]) rfl rfl
    ·have hz:p[i].c=0:=by simpa using (show ¬ (p[i].c != 0)=true from hz)
     rw[next (by omega)]
     exact(I1 true [] (by simp)).nil (by rw[hR];simp[hz])
  | cons x r=>
   rw[List.length_cons]at hxl
   have A1 : ∀ z:PV,(List.length (List.map (enc:Mono->PV) (x::r))==r.length+1&&r.length+1==r.length+1&&decide ((r.length+1+List.length (List.drop 0 (List.take 1 [z])))*32<=1099511627776)&&decide (r.length+1+List.length (List.drop 0 (List.take 1 [z]))<=1099511627776))=true:=fun z=>Kh (m:=1) (by simp) (by omega) (by omega)
   have A2 : ∀ y z:PV,(List.length (List.map (enc:Mono->PV) (x::r)++List.drop 0 (List.take 1 [y]))==r.length+1+List.length (List.drop 0 (List.take 1 [y]))&&r.length+1+List.length (List.drop 0 (List.take 1 [y]))==r.length+1+List.length (List.drop 0 (List.take 1 [y]))&&decide ((r.length+1+List.length (List.drop 0 (List.take 1 [y]))+List.length (List.drop 0 (List.take 1 [z])))*32<=1099511627776)&&decide (r.length+1+List.length (List.drop 0 (List.take 1 [y]))+List.length (List.drop 0 (List.take 1 [z]))<=1099511627776))=true:=fun y z=>Kh (q:=r.length+2) (m:=1) (by simp) (by omega) (by omega)
   cases put with
   | false=>
    refine JO p m false i (r.length+1) (x::r) (ZU (WW hlt) ⟨Zq hlt rfl,ZF hlt ⟨Ze (p[i].v,m.v,()) rfl hpre,Zd (p[i].v,m.v,()) rfl (ZU rfl (Xy (fun hc=> ?_) fun hc=> ?_))⟩⟩)
    ·have hc:Yg p[i].v m.v>0:=hc
     refine⟨A1 _,Zq hlt rfl,ZF hlt (Jk (fun hz=>⟨A2 _ _,?_⟩) fun hz=> ?_)⟩
     ·have hz:p[i].c≠0:=by simpa using (show(p[i].c != 0)=true from hz)
      rw[next (by omega)]
      exact(I1 true (x::r++[m,p[i]]) (by simp)).row (by simp) (by rw[hR];simp[hc,hz]) (by simp) (by rw[List.map_append,List.append_assoc];rfl)
     ·have hz:p[i].c=0:=by simpa using (show ¬ (p[i].c != 0)=true from hz)
      rw[next (by omega)]
      exact(I1 true (x::r++[m]) (by simp)).row (by simp) (by rw[hR];simp[hc,hz]) (by simp) (by rw[List.map_append];rfl)
    ·have hc : ¬ Yg p[i].v m.v>0:=hc
     refine⟨Zq hlt rfl,ZF hlt (ZU rfl (KE (fun h0=> ?_) fun h0=> ?_))⟩
     ·have h0:Yg p[i].v m.v=0:=h0
      refine Jk (fun hz=>⟨A1 _,?_⟩) fun hz=> ?_
      ·have hz:V8 (p[i].c+m.c)≠0:=by simpa using (show(V8 (p[i].c+m.c) != 0)=true from hz)
       rw[next (by omega)]
       exact(I1 true (x::r++[⟨V8 (p[i].c+m.c),p[i].v⟩]) (by simp)).row (by simp) (by rw[hR];simp[h0,hz]) (by simp) (by rw[List.map_append];rfl)
      ·have hz:V8 (p[i].c+m.c)=0:=by simpa using (show ¬ (V8 (p[i].c+m.c) != 0)=true from hz)
       rw[next (by omega)]
       exact(I1 true (x::r) (by simp)).row (by simp) (by rw[hR];simp[h0,hz]) (by simp) rfl
     ·have h0:Yg p[i].v m.v≠0:=h0
      refine Jk (fun hz=>⟨A1 _,?_⟩) fun hz=> ?_
      ·have hz:p[i].c≠0:=by simpa using (show(p[i].c != 0)=true from hz)
       rw[next (by omega)]
       exact(I1 false (x::r++[p[i]]) (by simp)).row (by simp) (by rw[hR];simp[hc,h0,hz]) (by simp) (by rw[List.map_append];rfl)
      ·have hz:p[i].c=0:=by simpa using (show ¬ (p[i].c != 0)=true from hz)
       rw[next (by omega)]
       exact(I1 false (x::r) (by simp)).row (by simp) (by rw[hR];simp[hc,h0,hz]) (by simp) rfl
   | true=>
    refine JO p m true i (r.length+1) (x::r) (ZU (WW hlt) ⟨Zq hlt rfl,ZF hlt ⟨Ze (p[i].v,m.v,()) rfl hpre,Zd (p[i].v,m.v,()) rfl (ZN (by decide) ⟨Zq hlt rfl,ZF hlt (ZN (by decide) (Jk (fun hz=>⟨A1 _,?_⟩) fun hz=> ?_))⟩)⟩⟩)
    ·have hz:p[i].c≠0:=by simpa using (show(p[i].c != 0)=true from hz)
     rw[next (by omega)]
     exact(I1 true (x::r++[p[i]]) (by simp)).row (by simp) (by rw[hR];simp[hz]) (by simp) (by rw[List.map_append];rfl)
    ·have hz:p[i].c=0:=by simpa using (show ¬ (p[i].c != 0)=true from hz)
     rw[next (by omega)]
     exact(I1 true (x::r) (by simp)).row (by simp) (by rw[hR];simp[hz]) (by simp) rfl
theorem Eu: ∀ x:List Mono×Mono×Unit,(Zv x.1&&decide (x.1.length<=1000000)&&Zn x.2.1.v)=true->Zc ZG 0 (Za Zx (Zj (Y2 x.1 x.2.1))) Zy [] (Yr a6t (encL x)):=by
 rintro⟨p,m,⟨⟩⟩ h
 simp only[Bool.and_eq_true,decide_eq_true_eq]at h
 have:=(a7g p m h.1.2 (fun x hx=>LQ h.1.1 hx) (Zu.1 h.2) p.length 0 (m.c==0) [] rfl (by simp)).nil (R:=Y2 p m) rfl
 exact a8k p m this
theorem Uy{p:List Mono}{m:Mono}(h:Zv p=true)(hl:p.length<=1000000)(hm:YB m.v=true):Zv (Y2 p m)=true:=by
 have key : ∀ (l:List Mono) (put:Bool),(∀ x∈l,YB x.v=true)-> ∀ x∈Xa m put l,YB x.v=true:=by
  intro l
  induction l with
  | nil=>
   intro put _ x hx
   cases put
   ·have:x=m:=by simpa [Xa]using hx
    subst this;exact hm
   ·simp[Xa]at hx
  | cons y r ih=>
   intro put hy x hx
   have hy0:=hy y (by simp)
   have hr : ∀ z∈r,YB z.v=true:=fun z hz=>hy z (by simp[hz])
   rw[Xa]at hx
   split at hx
   ·rcases List.mem_cons.1 hx with rfl|hx
    ·exact hm
    ·split at hx
     ·rcases List.mem_cons.1 hx with rfl|hx
      ·exact hy0
      ·exact ih true hr x hx
     ·exact ih true hr x hx
   ·split at hx
    ·split at hx
     ·rcases List.mem_cons.1 hx with rfl|hx
      ·exact hy0
      ·exact ih true hr x hx
     ·exact ih true hr x hx
    ·split at hx
     ·rcases List.mem_cons.1 hx with rfl|hx
      ·exact hy0
      ·exact ih put hr x hx
     ·exact ih put hr x hx
 have hlen:=WU p m
 unfold Zv at h ⊢
 rw[Bool.and_eq_true]at h ⊢
 refine⟨Zu.2 (by omega),List.all_eq_true.2 (key p _ (List.all_eq_true.1 h.2))⟩
theorem a3p(l:Lin)(hl:l.t.length<=12)(hs:Z6 l=true): ∀ (d i:Nat) (o:List Mono),d+i=l.t.length->o.length<=i+1->Zv o=true ->
  At KF 0 (Za UW (Zj (KC ((l.t.drop i).foldl (fun o t=>Y2 o ⟨t.c,[t.v]⟩) o)))) Q3 0 40 [(1,.ptr 0 0),(4,.pv (enc o)),(5,.pv (.int .i64 i))] [.obj (.box [.pv (.int .i64 l.k),.pv (enc l.t)])]:=by
 intro d
 induction d with
 | zero=>
  intro i o hi ho hp
  rw[List.drop_of_length_le (by omega)]
  exact a0k l o i (ZN (Ud (by omega)) ⟨Ze (o,()) rfl hp,Zd (o,()) rfl (ZP (x:=KC o) rfl)⟩)
 | succ d ih=>
  intro i o hi ho hp
  have hlt:i<l.t.length:=by omega
  have hn:YB [l.t[i].v]=true:=by
   unfold Z6 at hs
   rw[Bool.and_eq_true]at hs
   have:=of_decide_eq_true (List.all_eq_true.1 hs.2 _ (List.getElem_mem hlt))
   unfold YB
   rw[List.all_cons,decide_eq_true (p:=l.t[i].v.s.length<=281474976710656) (by omega)];rfl
  rw[List.drop_eq_getElem_cons hlt,List.foldl_cons]
  have hl1:=WU o ⟨l.t[i].c,[l.t[i].v]⟩
  have ih:=ih (i+1) (Y2 o ⟨l.t[i].c,[l.t[i].v]⟩) (by omega) (by omega) (Uy hp (by omega) hn)
  refine a0k l o i (ZU (WW hlt) ⟨Zq hlt rfl,ZF hlt ⟨Zq hlt rfl,ZF hlt ⟨Ze (o,(⟨l.t[i].c,[l.t[i].v]⟩:Mono),()) rfl ?_,Zd (o,(⟨l.t[i].c,[l.t[i].v]⟩:Mono),()) rfl ?_⟩⟩⟩)
  ·show(Zv o&&decide (o.length<=1000000)&&Zn [l.t[i].v])=true
   rw[hp,decide_eq_true (p:=o.length<=1000000) (by omega)];rfl
  ·rw[next (by omega)]
   exact ih
theorem b1r: ∀ x:Lin×Unit,Z6 x.1=true->Zc KF 0 (Za UW (Zj (Jq x.1))) Q3 [] (Yr b9f (encL x)):=by
 rintro⟨l,⟨⟩⟩ h
 have hok:Xq l=true:=by
  unfold Z6 at h
  rw[Bool.and_eq_true]at h;exact h.1
 refine c4p l ⟨Ze (l,()) rfl hok,Zd (l,()) rfl ?_⟩
 show if (!(Zz l))=true then Zj (Jq l) _ else _
 refine XX (fun hv=> ?_) fun hv=> ?_
 ·unfold Jq;rw[if_neg (by rw[hv];simp)]
  exact⟨rfl,rfl⟩
 ·refine Uz (([]:List Mono),(⟨l.k,[]⟩:Mono),()) rfl ?_
  have hl:=RH hv
  have:=a3p l hl h l.t.length 0 (Y2 [] ⟨l.k,[]⟩) rfl (WU _ _) (Uy rfl (by simp) rfl)
  show At KF 0 (Za UW (Zj (Jq l))) _ _ _ _ _
  unfold Jq;rw[if_pos hv]
  exact this
theorem OH(a b:List Mono)(k:Int)(hb:Zv b=true)(hbl:b.length<=1000): ∀ (d i:Nat) (o:List Mono),d+i=b.length->o.length<=1000+i->Zv o=true ->
  At Uk 0 (Za Vs (Zj (XC o (b.drop i) k))) Vr 0 34 [(1,.pv (enc b)),(2,.pv (.int .i64 k)),(7,.pv (enc o)),(8,.pv (.int .i64 i))] []:=by
 intro d
 induction d with
 | zero=>
  intro i o hi ho hp
  rw[List.drop_of_length_le (by omega)]
  exact Rs a b k i o (ZN (Ud (by omega)) (ZP (x:=o) rfl))
 | succ d ih=>
  intro i o hi ho hp
  have hlt:i<b.length:=by omega
  have hn:YB b[i].v=true:=NQ hb (List.getElem_mem hlt)
  have e:XC o (b.drop i) k=XC (Y2 o ⟨V8 (k*b[i].c),b[i].v⟩) (b.drop (i+1)) k:=by
   rw[List.drop_eq_getElem_cons hlt];rfl
  rw[e]
  have hl1:=WU o ⟨V8 (k*b[i].c),b[i].v⟩
  have ih:=ih (i+1) (Y2 o ⟨V8 (k*b[i].c),b[i].v⟩) (by omega) (by omega) (Uy hp (by omega) hn)
  refine Rs a b k i o (ZU (WW hlt) ⟨Zq hlt rfl,ZF hlt ⟨Zq hlt rfl,ZF hlt ⟨Ze (o,(⟨V8 (k*b[i].c),b[i].v⟩:Mono),()) rfl ?_,Zd (o,(⟨V8 (k*b[i].c),b[i].v⟩:Mono),()) rfl ?_⟩⟩⟩)
  ·show(Zv o&&decide (o.length<=1000000)&&Zn b[i].v)=true
   rw[hp,decide_eq_true (p:=o.length<=1000000) (by omega),Zu.2 (Pd hn)];rfl
  ·rw[next (by omega)]
   exact ih
theorem a4u: ∀ x:List Mono×List Mono×Int×Unit,(Zv x.1&&decide (x.1.length<=1000)&&Zv x.2.1&&decide (x.2.1.length<=1000))=true->Zc Uk 0 (Za Vs (Zj (XC x.1 x.2.1 x.2.2.1))) Vr [] (Yr b6n (encL x)):=by
 rintro⟨a,b,k,⟨⟩⟩ h
 simp only[Bool.and_eq_true,decide_eq_true_eq]at h
 obtain⟨⟨⟨h1,h2⟩,h3⟩,h4⟩:=h
 refine b7h a b k ⟨by simp[Enc.sz],by simp;omega,?_⟩
 cases b with
 | nil=>
  refine Rc a [] k 0 _ a (ZN (by simp) ⟨by simp,?_⟩)
  have e:List.drop 0 (List.take (0+List.length (List.map (enc:Mono->PV) a)) (List.map enc a))=List.map enc a:=by
   rw[List.drop_zero];exact List.take_of_length_le (by simp)
  rw[e]
  exact ZP (x:=a) rfl
 | cons y b=>
  have hlt:0<(y::b).length:=by simp
  have hn:YB y.v=true:=NQ h3 (by simp)
  have hl1:=WU a ⟨V8 (k*y.c),y.v⟩
  have L:=OH a (y::b) k h3 h4 b.length 1 (Y2 a ⟨V8 (k*y.c),y.v⟩) (by simp) (by omega) (Uy h1 (by omega) hn)
  refine Rc a (y::b) k ((0:Nat):Int) _ a (ZU (WW hlt) ⟨Zq hlt rfl,ZF hlt ⟨Zq hlt rfl,ZF hlt ⟨by simp,?_⟩⟩⟩)
  have e:List.drop 0 (List.take (0+List.length (List.map (enc:Mono->PV) a)) (List.map enc a))=List.map enc a:=by
   rw[List.drop_zero];exact List.take_of_length_le (by simp)
  rw[e]
  refine⟨Ze (a,(⟨V8 (k*y.c),y.v⟩:Mono),()) rfl ?_,Zd (a,(⟨V8 (k*y.c),y.v⟩:Mono),()) rfl ?_⟩
  ·show(Zv a&&decide (a.length<=1000000)&&Zn y.v)=true
   rw[h1,decide_eq_true (p:=a.length<=1000000) (by omega),Zu.2 (Pd hn)];rfl
  ·rw[next (by omega)]
   exact L
theorem GZ: ∀ (b a:List Mono) (k:Int),Zv a=true->a.length+b.length<=1000000->Zv b=true->Zv (XC a b k)=true
 | [],a,k,h,_,_=>h
 | m::b,a,k,h,hl,hb=>by
  rw[List.length_cons]at hl
  have hl1:=WU a ⟨V8 (k*m.c),m.v⟩
  refine GZ b (Y2 a ⟨V8 (k*m.c),m.v⟩) k (Uy h (by omega) (NQ hb (m:=m) (by simp))) (by omega) ?_
  unfold Zv at hb ⊢
  rw[Bool.and_eq_true]at hb ⊢
  refine⟨Zu.2 (by omega),?_⟩
  have:=hb.2
  rw[List.all_cons,Bool.and_eq_true]at this
  exact this.2
theorem a7a: ∀ x:List Mono×List Mono×Unit,(Zv x.1&&Zv x.2.1)=true->Zc PN 0 (Za Bw (Zj (Vw x.1 x.2.1))) AZ [] (Yr b3i (encL x)):=by
 rintro⟨a,b,⟨⟩⟩ h
 rw[Bool.and_eq_true]at h
 obtain⟨h1,h2⟩:=h
 refine b9d a b ⟨Ze (a,()) rfl h1,Zd (a,()) rfl (XX (fun ha=> ?_) fun ha=>⟨Ze (b,()) rfl h2,Zd (b,()) rfl (XX (fun hb=> ?_) fun hb=> ?_)⟩)⟩
 ·have ha:ZC a=false:=ha
  show Zj (Vw a b) _
  unfold Vw;rw[ha]
  exact⟨rfl,rfl⟩
 ·have hb:ZC b=false:=hb
  show Zj (Vw a b) _
  unfold Vw;rw[hb,Bool.and_false]
  exact⟨rfl,rfl⟩
 ·have ha:ZC a=true:=ha
  have hb:ZC b=true:=hb
  have la:=(LC ha).1
  have lb:=(LC hb).1
  have ht:=GZ b a 1 h1 (by omega) h2
  refine⟨Ze (a,b,1,()) rfl ?_,Zd (a,b,1,()) rfl ⟨Ze (XC a b 1,()) rfl ht,Zd (XC a b 1,()) rfl ?_⟩⟩
  ·show(Zv a&&decide (a.length<=1000)&&Zv b&&decide (b.length<=1000))=true
   rw[h1,h2,decide_eq_true (p:=a.length<=1000) (by omega),decide_eq_true (p:=b.length<=1000) (by omega)];rfl
  ·show Zj (Vw a b) _
   unfold Vw;rw[ha,hb]
   exact ZP (x:=KC (XC a b 1)) rfl
end Go.Pl

namespace Go.Pl
open Go.RowKit
open Enc (enc dec is)
open EncL (encL decL isL)
theorem ixS{m:Mono}{k:Nat}(h:k<m.v.length):(decide (0<=(k:Int))&&decide (Int.toNat (k:Int)<List.length (PV.asXs (List.getD (List.drop 1 (PV.cells (enc m))) 0 default)))&&1==1)=true:=by
 show(decide (0<=(k:Int))&&decide (Int.toNat (k:Int)<List.length (m.v.map (enc:Str->PV)))&&1==1)=true
 simp[h]
theorem d0r{m:Mono}{k:Nat}(h:k<m.v.length):(decide (0+List.length [Sh.str]<=List.length (PV.cells (List.getD (PV.asXs (List.getD (List.drop 1 (PV.cells (enc m))) 0 default)) (Int.toNat (k:Int)) default)))&&XW (PV.cells (List.getD (PV.asXs (List.getD (List.drop 1 (PV.cells (enc m))) 0 default)) (Int.toNat (k:Int)) default)) 0 [Sh.str])=true:=by
 show(decide (0+List.length [Sh.str]<=List.length (PV.cells (List.getD (m.v.map (enc:Str->PV)) (Int.toNat (k:Int)) default)))&&XW (PV.cells (List.getD (m.v.map (enc:Str->PV)) (Int.toNat (k:Int)) default)) 0 [Sh.str])=true
 rw[Hu enc h];rfl
theorem d0j{m:Mono}{k:Nat}(h:k<m.v.length):PV.asStr (List.getD (PV.cells (List.getD (PV.asXs (List.getD (List.drop 1 (PV.cells (enc m))) 0 default)) (Int.toNat (k:Int)) default)) 0 default)=m.v[k].s:=by
 show PV.asStr (List.getD (PV.cells (List.getD (m.v.map (enc:Str->PV)) (Int.toNat (k:Int)) default)) 0 default)=m.v[k].s
 rw[Hu enc h];rfl
end Go.Pl

namespace Go.Pl
open Go.RowKit
open Enc (enc dec is)
open EncL (encL decL isL)
theorem c5y{n:Int}(h:VT n=true): -4611686018427387904<=n∧n<=4611686018427387904:=by
 unfold VT at h
 simpa using h
end Go.Pl

namespace Go.Pl
open Go.RowKit
open Enc (enc dec is)
open EncL (encL decL isL)
end Go.Pl

namespace Go.Pl
open Go.RowKit
open Enc (enc dec is)
open EncL (encL decL isL)
structure Asked where
 l:Lin
 p:List Mono
 deriving DecidableEq
instance:Enc Asked where
 sz:=3
 enc x:=.agg [enc x.l.k,enc x.l.t,enc x.p]
 dec | .agg [a,b,c]=>⟨⟨dec a,dec b⟩,dec c⟩|_=>⟨⟨0,[]⟩,[]⟩
 is | .agg [a,b,c]=>is Int a&&is (List Coef) b&&is (List Mono) c|_=>false
 is_enc v:=by simp
 dec_enc v:=by simp
 sub p h:=by
  cases p with
  | agg xs=>
   match xs,h with
   | [a,b,c],h=>
    simp only[Bool.and_eq_true]at h
    exact .agg (.cons (Enc.sub a h.1.1).2 (.cons (Enc.sub b h.1.2).2 (.cons (Enc.sub c h.2).2 .nil)))
  | _=>cases h
@[simp] theorem c8s (a b c : PV) : is Asked (.agg [a, b, c]) = (is Int a && is (List Coef) b && is (List Mono) c) := rfl
@[simp] theorem c7p (a b c : PV) : (dec (.agg [a, b, c]) : Asked) = ⟨⟨dec a, dec b⟩, dec c⟩ := rfl
def GX(p:List Mono)(n:Int):Bool:=p.all (fun m=>decide (m.v.length<=10)&&m.v.all fun s=>decide (s.s.length<=40))&&decide ((p.length:Int)<=n)
def U5(p:List Mono):Bool:=Zn p&&p.all fun m=>Zn m.v
def U1(a:Asked):Bool:=QR a.l 6&&GX a.p 6
def KQ(a:Asked):Bool:=Xq a.l&&U5 a.p
end Go.Pl

namespace Go.Pl
open Go.RowKit
open Enc (enc dec is)
open EncL (encL decL isL)
set_option maxRecDepth 100000
def WC:IC:=(.seq (.reg [⟨(some 4),(.mv (.c (.bool false))),0,none⟩] none) (.seq (.seq (.reg [⟨(some 5),(.mv (.c (.int .i64 0))),0,none⟩] none) (.block 0 (.loop [5,0,1] (.seq (.seq (.reg [⟨(some 7),(.mv (.t 5)),0,none⟩,⟨(some 8),(.mv (.t 0)),0,none⟩,⟨(some 9),(.len 1 (.t 8)),0,none⟩,⟨(some 10),(.bin .num .lss (.t 7) (.t 9)),0,none⟩] none) (.cond (.t 10) .skip (.exit 0))) (.seq (.block 1 (.seq (.seq (.reg [⟨(some 13),(.mv (.t 0)),0,none⟩,⟨(some 14),(.mv (.t 5)),0,none⟩,⟨(some 15),(.iaddr 2 (.t 13) (.t 14)),0,none⟩,⟨(some 16),(.faddr 1 (.t 15)),0,none⟩,⟨(some 17),(.load false [(.sl 1)] (.t 16)),0,none⟩,⟨(some 18),(.len 1 (.t 17)),0,none⟩,⟨(some 19),(.bin .num .gtr (.t 18) (.c (.int .i64 10))),0,none⟩] none) (.cond (.t 19) (.seq (.reg [⟨(some 4),(.mv (.c (.bool false))),0,none⟩] none) .ret) .skip)) (.seq (.reg [⟨(some 6),(.mv (.c (.int .i64 0))),0,none⟩] none) (.block 2 (.loop [6,0,5,1] (.seq (.seq (.reg [⟨(some 20),(.mv (.t 6)),0,none⟩,⟨(some 21),(.mv (.t 0)),0,none⟩,⟨(some 22),(.mv (.t 5)),0,none⟩,⟨(some 23),(.iaddr 2 (.t 21) (.t 22)),0,none⟩,⟨(some 24),(.faddr 1 (.t 23)),0,none⟩,⟨(some 25),(.load false [(.sl 1)] (.t 24)),0,none⟩,⟨(some 26),(.len 1 (.t 25)),0,none⟩,⟨(some 27),(.bin .num .lss (.t 20) (.t 26)),0,none⟩] none) (.cond (.t 27) .skip (.exit 2))) (.seq (.block 3 (.seq (.reg [⟨(some 30),(.mv (.t 0)),0,none⟩,⟨(some 31),(.mv (.t 5)),0,none⟩,⟨(some 32),(.iaddr 2 (.t 30) (.t 31)),0,none⟩,⟨(some 33),(.faddr 1 (.t 32)),0,none⟩,⟨(some 34),(.load false [(.sl 1)] (.t 33)),0,none⟩,⟨(some 35),(.mv (.t 6)),0,none⟩,⟨(some 36),(.iaddr 1 (.t 34) (.t 35)),0,none⟩,⟨(some 37),(.load false [.str] (.t 36)),0,none⟩,⟨(some 38),(.len 0 (.t 37)),0,none⟩,⟨(some 39),(.bin .num .gtr (.t 38) (.c (.int .i64 40))),0,none⟩] none) (.cond (.t 39) (.seq (.reg [⟨(some 4),(.mv (.c (.bool false))),0,none⟩] none) .ret) .skip))) (.reg [⟨(some 28),(.mv (.t 6)),0,none⟩,⟨(some 29),(.bin .num .add (.t 28) (.c (.int .i64 1))),0,none⟩,⟨(some 6),(.mv (.t 29)),0,none⟩] none)))))))) (.reg [⟨(some 11),(.mv (.t 5)),0,none⟩,⟨(some 12),(.bin .num .add (.t 11) (.c (.int .i64 1))),0,none⟩,⟨(some 5),(.mv (.t 12)),0,none⟩] none)))))) (.seq (.reg [⟨(some 40),(.mv (.t 0)),0,none⟩,⟨(some 41),(.len 1 (.t 40)),0,none⟩,⟨(some 42),(.mv (.t 1)),0,none⟩,⟨(some 43),(.bin .num .leq (.t 41) (.t 42)),0,none⟩,⟨(some 4),(.mv (.t 43)),0,none⟩] none) .ret)))
def WI:List IRes:=[(.tmp 4)]
abbrev c2f:Nat:=44
def V7:ZK:=Xp []
theorem c3r{G:PV->Prop}(p:List Mono)(n:Int)(h:At V7 0 (Za WI G) WC 0 44 [(0,(.pv (.sl 2 false (List.map enc p)))),(1,(.pv (.int .i64 n))),(5,(.pv (.int .i64 0)))] []):Zc V7 0 (Za WI G) WC [] (Yr 44 [enc p,enc n]):=Zc.tp (.nil) h (by kernel_rfl)
theorem a2a{G:PV->Prop}(p:List Mono)(n:Int)(i:Int)(h:if (decide (i<(↑(List.length (List.map enc p)):Int)))=true then(decide (0<=i)&&decide (Int.toNat i<List.length (List.map enc p))&&Enc.sz Mono==2)=true∧(∃ y0:Mono,AV.pv (PV.rptr (PV.cells (List.getD (List.map enc p) (Int.toNat i) default)))=AV.pv (PV.rptr (PV.cells ((enc) y0)))∧(if (decide ((↑(List.length (PV.asXs (List.getD (List.drop 1 (PV.cells (enc y0))) 0 default))):Int)>10))=true then G ((.bool false))else(At V7 0 (Za WI G) WC 1 44 [(0,(.pv (.sl 2 false (List.map enc p)))),(1,(.pv (.int .i64 n))),(5,(.pv (.int .i64 i))),(6,(.pv (.int .i64 0)))] [])))else(G ((.bool (decide ((↑(List.length (List.map enc p)):Int)<=n)))))):At V7 0 (Za WI G) WC 0 44 [(0,.pv (enc p)),(1,.pv (enc n)),(5,.pv (.int .i64 i))] []:=At.tp (.lit (.ask (.req (.abs (Mono) (fun YY=>AV.pv (PV.rptr (PV.cells ((enc) YY)))) (.lit (.lit (.ask (.nil) (.nil)))))) (.lit (.nil)))) h (by kernel_rfl)
theorem a2b{G:PV->Prop}(p:List Mono)(n:Int)(i k:Int)(h:(decide (0<=i)&&decide (Int.toNat i<List.length (List.map enc p))&&Enc.sz Mono==2)=true∧(∃ y0:Mono,AV.pv (PV.rptr (PV.cells (List.getD (List.map enc p) (Int.toNat i) default)))=AV.pv (PV.rptr (PV.cells ((enc) y0)))∧(if (decide (k<(↑(List.length (PV.asXs (List.getD (List.drop 1 (PV.cells (enc y0))) 0 default))):Int)))=true then(decide (0<=i)&&decide (Int.toNat i<List.length (List.map enc p))&&Enc.sz Mono==2)=true∧(∃ y1:Mono,AV.pv (PV.rptr (PV.cells (List.getD (List.map enc p) (Int.toNat i) default)))=AV.pv (PV.rptr (PV.cells ((enc) y1)))∧((decide (0<=k)&&decide (Int.toNat k<List.length (PV.asXs (List.getD (List.drop 1 (PV.cells (enc y1))) 0 default)))&&1==1)=true∧((decide (0+List.length [Sh.str]<=List.length (PV.cells (List.getD (PV.asXs (List.getD (List.drop 1 (PV.cells (enc y1))) 0 default)) (Int.toNat k) default)))&&XW (PV.cells (List.getD (PV.asXs (List.getD (List.drop 1 (PV.cells (enc y1))) 0 default)) (Int.toNat k) default)) 0 [Sh.str])=true∧(if (decide ((↑(List.length (PV.asStr (List.getD (PV.cells (List.getD (PV.asXs (List.getD (List.drop 1 (PV.cells (enc y1))) 0 default)) (Int.toNat k) default)) 0 default))):Int)>40))=true then G ((.bool false))else(At V7 0 (Za WI G) WC 1 44 [(0,(.pv (.sl 2 false (List.map enc p)))),(1,(.pv (.int .i64 n))),(5,(.pv (.int .i64 i))),(6,(.pv (.int .i64 (IntKind.wrap IntKind.i64 (k+1)))))] [])))))else(At V7 0 (Za WI G) WC 0 44 [(0,(.pv (.sl 2 false (List.map enc p)))),(1,(.pv (.int .i64 n))),(5,(.pv (.int .i64 (IntKind.wrap IntKind.i64 (i+1)))))] [])))):At V7 0 (Za WI G) WC 1 44 [(0,.pv (enc p)),(1,.pv (enc n)),(5,.pv (.int .i64 i)),(6,.pv (.int .i64 k))] []:=At.tp (.req (.abs (Mono) (fun YY=>AV.pv (PV.rptr (PV.cells ((enc) YY)))) (.lit (.lit (.ask (.req (.abs (Mono) (fun YY=>AV.pv (PV.rptr (PV.cells ((enc) YY)))) (.lit (.req (.keep (.req (.lit (.ask (.nil) (.lit (.nil)))))))))) (.lit (.nil))))))) h (by kernel_rfl)
def GJ:IC:=(.seq (.reg [⟨(some 1),(.box 3 (.t 0)),0,none⟩,⟨(some 2),(.mv (.c (.bool false))),1,none⟩] none) (.seq (.reg [⟨(some 3),(.faddr 0 (.t 1)),0,none⟩,⟨(some 4),(.load true [(.int .i64),(.sl 2)] (.t 3)),0,none⟩,⟨(some 5),(.call (.c (.fn 16)) [(.t 4),(.c (.int .i64 6))]),0,none⟩,⟨(some 6),(.mv (.t 5)),2,none⟩,⟨(some 7),(.faddr 2 (.t 1)),2,(some (6,true))⟩,⟨(some 8),(.load false [(.sl 2)] (.t 7)),2,(some (6,true))⟩,⟨(some 9),(.call (.c (.fn 121)) [(.t 8),(.c (.int .i64 6))]),2,(some (6,true))⟩,⟨(some 10),(.pick (.t 6) (.t 9) (.c (.bool false))),4,none⟩,⟨(some 2),(.mv (.t 10)),4,none⟩] none) .ret))
def Db:List IRes:=[(.tmp 2)]
abbrev a3v:Nat:=11
def BH:ZK:=Xp [(16,.pure (preT (fun x:Lin×Int×Unit=>Xq x.1)) (Zf (fun x:Lin×Int×Unit=>QR x.1 x.2.1))),(121,.pure (preT (fun x:List Mono×Int×Unit=>U5 x.1)) (Zf (fun x:List Mono×Int×Unit=>GX x.1 x.2.1)))]
theorem b5n{G:PV->Prop}(l:Lin)(p:List Mono)(h:(Go.Pl.preT (fun(x:Lin×Int×Unit)=>Xq x.1) [(.agg [(.int .i64 l.k),(.sl 2 false (List.map enc l.t))]),(.int .i64 6)])=true∧(∃ y0:Bool,AV.pv (Zf (fun(x:Lin×Int×Unit)=>QR x.1 x.2.1) [(.agg [(.int .i64 l.k),(.sl 2 false (List.map enc l.t))]),(.int .i64 6)])=AV.pv (enc y0)∧(if (y0)=true then(Go.Pl.preT (fun(x:List Mono×Int×Unit)=>U5 x.1) [(.sl 2 false (List.map enc p)),(.int .i64 6)])=true∧(∃ y1:Bool,AV.pv (Zf (fun(x:List Mono×Int×Unit)=>GX x.1 x.2.1) [(.sl 2 false (List.map enc p)),(.int .i64 6)])=AV.pv (enc y1)∧(G ((.bool y1))))else(G ((.bool false)))))):Zc BH 0 (Za Db G) GJ [] (Yr 11 [.agg [enc l.k,enc l.t,enc p]]):=Zc.tp (.req (.abs (Bool) (fun YY=>AV.pv (enc YY)) (.ask (.lit (.lit (.req (.abs (Bool) (fun YY=>AV.pv (enc YY)) (.lit (.nil)))))) (.lit (.lit (.lit (.nil))))))) h (by kernel_rfl)
end Go.Pl

namespace Go.Pl
open Go.RowKit
open Enc (enc dec is)
open EncL (encL decL isL)
theorem c6m{p:List Mono}{i:Nat}(h:i<p.length):(List.length (PV.asXs (List.getD (List.drop 1 (PV.cells (enc p[i]))) 0 default)):Nat)=p[i].v.length:=by
 show(p[i].v.map (enc:Str->PV)).length=_
 rw[List.length_map]
theorem b9x{p:List Mono}{n:Int}(h:GX p n=true)(hn:n<=1000):Zv p=true:=by
 unfold GX at h
 simp only[Bool.and_eq_true,decide_eq_true_eq,List.all_eq_true]at h
 unfold Zv YB
 simp only[Bool.and_eq_true,decide_eq_true_eq,List.all_eq_true]
 refine⟨Zu.2 (by omega),fun m hm=>⟨Zu.2 (by have:=(h.1 m hm).1;omega),fun s hs=>by have:=(h.1 m hm).2 s hs;omega⟩⟩
theorem b9i(b:BoxT)(fs:List Fact)(p:List Mono):VT (Z8 b fs p).1=true:=by
 unfold Z8
 split
 ·split
  ·rfl
  ·exact a1l
 ·rfl
end Go.Pl

namespace Go.Pl
open Go.RowKit
open Enc (enc dec is)
open EncL (encL decL isL)
set_option maxRecDepth 100000
def Xe:IC:=(.seq (.reg [⟨(some 3),(.box 2 (.t 0)),0,none⟩,⟨(some 5),(.box 3 (.t 2)),1,none⟩,⟨(some 6),(.mv (.c (.bool false))),2,none⟩] none) (.seq (.seq (.reg [⟨(some 32),(.call (.c (.fn 43)) []),0,none⟩,⟨(some 33),(.un .not (.t 32)),2,none⟩] none) (.cond (.t 33) (.seq (.reg [⟨(some 6),(.mv (.c (.bool false))),0,none⟩] none) .ret) .skip)) (.seq (.seq (.reg [⟨(some 34),(.load true [(.sl 1),(.int .i64)] (.t 3)),0,none⟩,⟨(some 35),(.mv (.t 1)),0,none⟩,⟨(some 36),(.call (.c (.fn 44)) [(.t 34),(.t 35)]),0,none⟩,⟨(some 37),(.un .not (.t 36)),2,none⟩,⟨(some 38),(.mv (.t 37)),2,none⟩,⟨(some 39),(.load true [(.int .i64),(.sl 2),(.sl 2)] (.t 5)),2,(some (38,false))⟩,⟨(some 40),(.call (.c (.fn 55)) [(.t 39)]),2,(some (38,false))⟩,⟨(some 41),(.un .not (.t 40)),4,(some (38,false))⟩,⟨(some 42),(.pick (.t 38) (.c (.bool true)) (.t 41)),4,none⟩] none) (.cond (.t 42) (.seq (.reg [⟨(some 6),(.mv (.c (.bool true))),0,none⟩] none) .ret) .skip)) (.seq (.reg [⟨(some 43),(.faddr 1 (.t 3)),0,none⟩,⟨(some 44),(.load false [(.int .i64)] (.t 43)),0,none⟩,⟨(some 45),(.build [(.sl 0 true []),(.int .i64 0)] [(1,(1,(.t 44)))]),0,none⟩,⟨(some 7),(.alloc (.agg [(.sl 0 true []),(.int .i64 0)])),0,none⟩,⟨none,(.store 2 (.t 7) (.t 45)),1,none⟩] none) (.seq (.seq (.reg [⟨(some 46),(.faddr 0 (.t 3)),0,none⟩,⟨(some 47),(.load false [(.sl 1)] (.t 46)),0,none⟩,⟨(some 48),(.len 1 (.t 47)),0,none⟩,⟨(some 49),(.bin .num .sub (.t 48) (.c (.int .i64 1))),0,none⟩,⟨(some 8),(.mv (.t 49)),0,none⟩] none) (.block 0 (.loop [8,7,3,1,5] (.seq (.seq (.reg [⟨(some 50),(.mv (.t 8)),0,none⟩,⟨(some 51),(.bin .num .geq (.t 50) (.c (.int .i64 0))),0,none⟩] none) (.cond (.t 51) .skip (.exit 0))) (.seq (.block 1 (.reg [⟨(some 54),(.faddr 0 (.t 7)),0,none⟩,⟨(some 55),(.load false [(.sl 1)] (.t 54)),0,none⟩,⟨(some 56),(.faddr 0 (.t 3)),0,none⟩,⟨(some 57),(.load false [(.sl 1)] (.t 56)),0,none⟩,⟨(some 58),(.mv (.t 8)),0,none⟩,⟨(some 59),(.iaddr 1 (.t 57) (.t 58)),0,none⟩,⟨(some 60),(.load false [.str] (.t 59)),0,none⟩,⟨(some 61),(.bslice 9 1 1 (.str []) [(0,(.t 60))]),0,none⟩,⟨(some 62),(.append 9 1 16 (.t 55) (.t 61)),1,none⟩,⟨(some 63),(.faddr 0 (.t 7)),2,none⟩,⟨none,(.store 1 (.t 63) (.t 62)),2,none⟩] (some [[],[0],[],[2],[],[3,4,2],[5,3,4,2],[6,5,3,4,2],[1,7,0,6,5,3,4,2],[0,1,2,3,4,5,6,7,8],[9,8,0,1,2,3,4,5,6,7]]))) (.reg [⟨(some 52),(.mv (.t 8)),0,none⟩,⟨(some 53),(.bin .num .sub (.t 52) (.c (.int .i64 1))),0,none⟩,⟨(some 8),(.mv (.t 53)),0,none⟩] none)))))) (.seq (.reg [⟨(some 64),(.load true [(.sl 1),(.int .i64)] (.t 3)),0,none⟩,⟨(some 9),(.alloc (.agg [(.sl 0 true []),(.int .i64 0)])),0,none⟩,⟨none,(.store 2 (.t 9) (.t 64)),1,none⟩] none) (.seq (.reg [⟨(some 66),(.load true [(.sl 1),(.int .i64)] (.t 9)),0,none⟩,⟨(some 67),(.mv (.t 1)),0,none⟩,⟨(some 68),(.call (.c (.fn 47)) [(.t 66),(.t 67)]),0,none⟩,⟨(some 65),(.mv (.t 68)),2,none⟩,⟨(some 69),(.extract (.t 65) 0),2,none⟩,⟨(some 70),(.extract (.t 65) 1),2,none⟩,⟨(some 10),(.mv (.t 69)),2,none⟩,⟨(some 11),(.mv (.t 70)),2,none⟩] none) (.seq (.reg [⟨(some 72),(.load true [(.sl 1),(.int .i64)] (.t 7)),0,none⟩,⟨(some 73),(.mv (.t 1)),0,none⟩,⟨(some 74),(.call (.c (.fn 47)) [(.t 72),(.t 73)]),0,none⟩,⟨(some 71),(.mv (.t 74)),2,none⟩,⟨(some 75),(.extract (.t 71) 0),2,none⟩,⟨(some 76),(.extract (.t 71) 1),2,none⟩,⟨(some 12),(.mv (.t 75)),2,none⟩,⟨(some 13),(.mv (.t 76)),2,none⟩] none) (.seq (.reg [⟨(some 78),(.load true [(.sl 1),(.int .i64)] (.t 9)),0,none⟩,⟨(some 79),(.mv (.t 1)),0,none⟩,⟨(some 80),(.build [(.int .i64 0),(.sl 0 true [])] [(0,(1,(.c (.int .i64 1))))]),0,none⟩,⟨(some 81),(.bslice 104 2 1 (.agg [(.int .i64 0),(.sl 0 true [])]) [(0,(.t 80))]),0,none⟩,⟨(some 82),(.call (.c (.fn 57)) [(.t 78),(.t 79),(.t 81)]),1,none⟩,⟨(some 77),(.mv (.t 82)),3,none⟩,⟨(some 83),(.extract (.t 77) 0),3,none⟩,⟨(some 84),(.extract (.t 77) 1),3,none⟩,⟨(some 14),(.mv (.t 83)),3,none⟩,⟨(some 15),(.mv (.t 84)),3,none⟩] none) (.seq (.seq (.reg [⟨(some 85),(.mv (.t 10)),0,none⟩,⟨(some 86),(.mv (.t 12)),0,none⟩,⟨(some 87),(.bin .num .neq (.t 85) (.t 86)),0,none⟩,⟨(some 88),(.mv (.t 87)),0,none⟩,⟨(some 89),(.mv (.t 11)),0,(some (88,false))⟩,⟨(some 90),(.mv (.t 13)),0,(some (88,false))⟩,⟨(some 91),(.bin .num .neq (.t 89) (.t 90)),0,(some (88,false))⟩,⟨(some 92),(.pick (.t 88) (.c (.bool true)) (.t 91)),0,none⟩,⟨(some 93),(.mv (.t 92)),0,none⟩,⟨(some 94),(.mv (.t 14)),0,(some (93,false))⟩,⟨(some 95),(.mv (.t 10)),0,(some (93,false))⟩,⟨(some 96),(.bin .num .neq (.t 94) (.t 95)),0,(some (93,false))⟩,⟨(some 97),(.pick (.t 93) (.c (.bool true)) (.t 96)),0,none⟩,⟨(some 98),(.mv (.t 97)),0,none⟩,⟨(some 99),(.mv (.t 15)),0,(some (98,false))⟩,⟨(some 100),(.mv (.t 11)),0,(some (98,false))⟩,⟨(some 101),(.bin .num .neq (.t 99) (.t 100)),0,(some (98,false))⟩,⟨(some 102),(.pick (.t 98) (.c (.bool true)) (.t 101)),0,none⟩] none) (.cond (.t 102) (.seq (.reg [⟨(some 6),(.mv (.c (.bool false))),0,none⟩] none) .ret) .skip)) (.seq (.reg [⟨(some 104),(.load true [(.sl 1),(.int .i64)] (.t 9)),0,none⟩,⟨(some 105),(.mv (.t 1)),0,none⟩,⟨(some 106),(.faddr 0 (.t 5)),0,none⟩,⟨(some 107),(.load true [(.int .i64),(.sl 2)] (.t 106)),0,none⟩,⟨(some 108),(.call (.c (.fn 58)) [(.t 104),(.t 105),(.t 107)]),0,none⟩,⟨(some 103),(.mv (.t 108)),2,none⟩,⟨(some 109),(.extract (.t 103) 0),2,none⟩,⟨(some 110),(.extract (.t 103) 1),2,none⟩,⟨(some 16),(.mv (.t 109)),2,none⟩,⟨(some 17),(.mv (.t 110)),2,none⟩] none) (.seq (.reg [⟨(some 112),(.load true [(.sl 1),(.int .i64)] (.t 7)),0,none⟩,⟨(some 113),(.mv (.t 1)),0,none⟩,⟨(some 114),(.faddr 0 (.t 5)),0,none⟩,⟨(some 115),(.load true [(.int .i64),(.sl 2)] (.t 114)),0,none⟩,⟨(some 116),(.call (.c (.fn 58)) [(.t 112),(.t 113),(.t 115)]),0,none⟩,⟨(some 111),(.mv (.t 116)),2,none⟩,⟨(some 117),(.extract (.t 111) 0),2,none⟩,⟨(some 118),(.extract (.t 111) 1),2,none⟩,⟨(some 18),(.mv (.t 117)),2,none⟩,⟨(some 19),(.mv (.t 118)),2,none⟩] none) (.seq (.reg [⟨(some 120),(.load true [(.sl 1),(.int .i64)] (.t 9)),0,none⟩,⟨(some 121),(.mv (.t 1)),0,none⟩,⟨(some 122),(.faddr 2 (.t 5)),0,none⟩,⟨(some 123),(.load false [(.sl 2)] (.t 122)),0,none⟩,⟨(some 124),(.call (.c (.fn 57)) [(.t 120),(.t 121),(.t 123)]),0,none⟩,⟨(some 119),(.mv (.t 124)),2,none⟩,⟨(some 125),(.extract (.t 119) 0),2,none⟩,⟨(some 126),(.extract (.t 119) 1),2,none⟩,⟨(some 20),(.mv (.t 125)),2,none⟩,⟨(some 21),(.mv (.t 126)),2,none⟩] none) (.seq (.reg [⟨(some 128),(.load true [(.sl 1),(.int .i64)] (.t 7)),0,none⟩,⟨(some 129),(.mv (.t 1)),0,none⟩,⟨(some 130),(.faddr 2 (.t 5)),0,none⟩,⟨(some 131),(.load false [(.sl 2)] (.t 130)),0,none⟩,⟨(some 132),(.call (.c (.fn 57)) [(.t 128),(.t 129),(.t 131)]),0,none⟩,⟨(some 127),(.mv (.t 132)),2,none⟩,⟨(some 133),(.extract (.t 127) 0),2,none⟩,⟨(some 134),(.extract (.t 127) 1),2,none⟩,⟨(some 22),(.mv (.t 133)),2,none⟩,⟨(some 23),(.mv (.t 134)),2,none⟩] none) (.seq (.seq (.reg [⟨(some 135),(.mv (.t 16)),0,none⟩,⟨(some 136),(.mv (.t 18)),0,none⟩,⟨(some 137),(.bin .num .neq (.t 135) (.t 136)),0,none⟩,⟨(some 138),(.mv (.t 137)),0,none⟩,⟨(some 139),(.mv (.t 17)),0,(some (138,false))⟩,⟨(some 140),(.mv (.t 19)),0,(some (138,false))⟩,⟨(some 141),(.bin .num .neq (.t 139) (.t 140)),0,(some (138,false))⟩,⟨(some 142),(.pick (.t 138) (.c (.bool true)) (.t 141)),0,none⟩,⟨(some 143),(.mv (.t 142)),0,none⟩,⟨(some 144),(.mv (.t 20)),0,(some (143,false))⟩,⟨(some 145),(.mv (.t 22)),0,(some (143,false))⟩,⟨(some 146),(.bin .num .neq (.t 144) (.t 145)),0,(some (143,false))⟩,⟨(some 147),(.pick (.t 143) (.c (.bool true)) (.t 146)),0,none⟩,⟨(some 148),(.mv (.t 147)),0,none⟩,⟨(some 149),(.mv (.t 21)),0,(some (148,false))⟩,⟨(some 150),(.mv (.t 23)),0,(some (148,false))⟩,⟨(some 151),(.bin .num .neq (.t 149) (.t 150)),0,(some (148,false))⟩,⟨(some 152),(.pick (.t 148) (.c (.bool true)) (.t 151)),0,none⟩] none) (.cond (.t 152) (.seq (.reg [⟨(some 6),(.mv (.c (.bool false))),0,none⟩] none) .ret) .skip)) (.seq (.reg [⟨(some 154),(.faddr 0 (.t 5)),0,none⟩,⟨(some 155),(.load true [(.int .i64),(.sl 2)] (.t 154)),0,none⟩,⟨(some 156),(.call (.c (.fn 59)) [(.t 155)]),0,none⟩,⟨(some 153),(.mv (.t 156)),2,none⟩,⟨(some 157),(.extract (.t 153) 0),2,none⟩,⟨(some 158),(.extract (.t 153) 1),2,none⟩,⟨(some 24),(.mv (.t 157)),2,none⟩,⟨(some 25),(.mv (.t 158)),2,none⟩] none) (.seq (.reg [⟨(some 160),(.faddr 2 (.t 5)),0,none⟩,⟨(some 161),(.load false [(.sl 2)] (.t 160)),0,none⟩,⟨(some 162),(.mv (.t 24)),0,none⟩,⟨(some 163),(.call (.c (.fn 60)) [(.t 161),(.t 162)]),0,none⟩,⟨(some 159),(.mv (.t 163)),2,none⟩,⟨(some 164),(.extract (.t 159) 0),2,none⟩,⟨(some 165),(.extract (.t 159) 1),2,none⟩,⟨(some 26),(.mv (.t 164)),2,none⟩,⟨(some 27),(.mv (.t 165)),2,none⟩] none) (.seq (.reg [⟨(some 167),(.load true [(.sl 1),(.int .i64)] (.t 9)),0,none⟩,⟨(some 168),(.mv (.t 1)),0,none⟩,⟨(some 169),(.mv (.t 24)),0,none⟩,⟨(some 170),(.call (.c (.fn 57)) [(.t 167),(.t 168),(.t 169)]),0,none⟩,⟨(some 166),(.mv (.t 170)),2,none⟩,⟨(some 171),(.extract (.t 166) 0),2,none⟩,⟨(some 172),(.extract (.t 166) 1),2,none⟩,⟨(some 28),(.mv (.t 171)),2,none⟩,⟨(some 29),(.mv (.t 172)),2,none⟩] none) (.seq (.reg [⟨(some 174),(.load true [(.sl 1),(.int .i64)] (.t 9)),0,none⟩,⟨(some 175),(.mv (.t 1)),0,none⟩,⟨(some 176),(.mv (.t 26)),0,none⟩,⟨(some 177),(.call (.c (.fn 57)) [(.t 174),(.t 175),(.t 176)]),0,none⟩,⟨(some 173),(.mv (.t 177)),2,none⟩,⟨(some 178),(.extract (.t 173) 0),2,none⟩,⟨(some 179),(.extract (.t 173) 1),2,none⟩,⟨(some 30),(.mv (.t 178)),2,none⟩,⟨(some 31),(.mv (.t 179)),2,none⟩] none) (.seq (.reg [⟨(some 180),(.mv (.t 21)),0,none⟩,⟨(some 181),(.bin .num .neq (.t 180) (.c (.int .i64 0))),0,none⟩,⟨(some 182),(.mv (.t 181)),0,none⟩,⟨(some 183),(.mv (.t 27)),0,(some (182,false))⟩,⟨(some 184),(.bin .num .neq (.t 183) (.c (.int .i64 0))),0,(some (182,false))⟩,⟨(some 185),(.pick (.t 182) (.c (.bool true)) (.t 184)),0,none⟩,⟨(some 186),(.mv (.t 185)),0,none⟩,⟨(some 187),(.mv (.t 29)),0,(some (186,false))⟩,⟨(some 188),(.bin .num .neq (.t 187) (.c (.int .i64 0))),0,(some (186,false))⟩,⟨(some 189),(.pick (.t 186) (.c (.bool true)) (.t 188)),0,none⟩,⟨(some 190),(.mv (.t 189)),0,none⟩,⟨(some 191),(.mv (.t 31)),0,(some (190,false))⟩,⟨(some 192),(.bin .num .neq (.t 191) (.c (.int .i64 0))),0,(some (190,false))⟩,⟨(some 193),(.pick (.t 190) (.c (.bool true)) (.t 192)),0,none⟩,⟨(some 194),(.mv (.t 193)),0,none⟩,⟨(some 195),(.mv (.t 30)),0,(some (194,false))⟩,⟨(some 196),(.mv (.t 20)),0,(some (194,false))⟩,⟨(some 197),(.mv (.t 28)),0,(some (194,false))⟩,⟨(some 198),(.bin .num .add (.t 196) (.t 197)),0,(some (194,false))⟩,⟨(some 199),(.bin .num .eql (.t 195) (.t 198)),0,(some (194,false))⟩,⟨(some 200),(.pick (.t 194) (.c (.bool true)) (.t 199)),0,none⟩,⟨(some 6),(.mv (.t 200)),0,none⟩] none) .ret))))))))))))))))))))
def Xf:List IRes:=[(.tmp 6)]
abbrev a5d:Nat:=201
def XK:ZK:=Xp [(43,.pure (preT (fun _:Unit=>true)) (Zf (fun _:Unit=>true))),(44,.pure (preT (fun x:BoxT×List Fact×Unit=>ZW x.1&&YX x.2.1)) (Zf (fun x:BoxT×List Fact×Unit=>Qi x.1 x.2.1))),(55,.pure (preT (fun x:Asked×Unit=>KQ x.1)) (Zf (fun x:Asked×Unit=>U1 x.1))),(47,.pure (preT (fun x:BoxT×List Fact×Unit=>ZW x.1&&Zo x.2.1&&decide (x.2.1.length<=100)&&decide (x.1.v.length<=1000))) (Zf (fun x:BoxT×List Fact×Unit=>YD x.1 x.2.1))),(57,.pure (preT (fun x:BoxT×List Fact×List Mono×Unit=>YE x.1 x.2.1 x.2.2.1)) (Zf (fun x:BoxT×List Fact×List Mono×Unit=>Z8 x.1 x.2.1 x.2.2.1))),(58,.pure (preT (fun x:BoxT×List Fact×Lin×Unit=>Xw x.1 x.2.1 x.2.2.1)) (Zf (fun x:BoxT×List Fact×Lin×Unit=>XM lessB x.1 x.2.1 x.2.2.1))),(59,.pure (preT (fun x:Lin×Unit=>Z6 x.1)) (Zf (fun x:Lin×Unit=>Jq x.1))),(60,.pure (preT (fun x:List Mono×List Mono×Unit=>Zv x.1&&Zv x.2.1)) (Zf (fun x:List Mono×List Mono×Unit=>Vw x.1 x.2.1)))]
theorem a8o{G:PV->Prop}(b:BoxT)(fs:List Fact)(l:Lin)(p:List Mono)(h : ∃ y0:Bool,AV.pv (Zf (fun(x:Unit)=>true) [])=AV.pv (enc y0)∧(if (!y0)=true then G ((.bool false))else((Go.Pl.preT (fun(x:BoxT×List Fact×Unit)=>ZW x.1&&YX x.2.1) [(.agg [(.sl 1 false (List.map enc b.v)),(.int .i64 b.m)]),(.sl 3 false (List.map enc fs))])=true∧(∃ y1:Bool,AV.pv (Zf (fun(x:BoxT×List Fact×Unit)=>Qi x.1 x.2.1) [(.agg [(.sl 1 false (List.map enc b.v)),(.int .i64 b.m)]),(.sl 3 false (List.map enc fs))])=AV.pv (enc y1)∧(if (!y1)=true then G ((.bool true))else((Go.Pl.preT (fun(x:Asked×Unit)=>KQ x.1) [(.agg [(.int .i64 l.k),(.sl 2 false (List.map enc l.t)),(.sl 2 false (List.map enc p))])])=true∧(∃ y2:Bool,AV.pv (Zf (fun(x:Asked×Unit)=>U1 x.1) [(.agg [(.int .i64 l.k),(.sl 2 false (List.map enc l.t)),(.sl 2 false (List.map enc p))])])=AV.pv (enc y2)∧(if (!y2)=true then G ((.bool true))else(At XK 0 (Za Xf G) Xe 0 201 [(1,(.pv (.sl 3 false (List.map enc fs)))),(3,(.ptr 0 0)),(5,(.ptr 1 0)),(7,(.ptr 2 0)),(8,(.pv (.int .i64 (IntKind.wrap IntKind.i64 ((↑(List.length (List.map enc b.v)):Int) - 1)))))] [(.obj (.box [(.pv (.sl 1 false (List.map enc b.v))),(.pv (.int .i64 b.m))])),(.obj (.box [(.pv (.int .i64 l.k)),(.pv (.sl 2 false (List.map enc l.t))),(.pv (.sl 2 false (List.map enc p)))])),(.obj (.box [(.pv (.sl 0 true [])),(.pv (.int .i64 b.m))]))]))))))))):Zc XK 0 (Za Xf G) Xe [] (Yr 201 [enc b,enc fs,.agg [enc l.k,enc l.t,enc p]]):=Zc.tp (.lit (.abs (Bool) (fun YY=>AV.pv (enc YY)) (.ask (.nil) (.req (.abs (Bool) (fun YY=>AV.pv (enc YY)) (.ask (.lit (.lit (.lit (.lit (.nil))))) (.lit (.req (.abs (Bool) (fun YY=>AV.pv (enc YY)) (.lit (.lit (.ask (.nil) (.lit (.nil)))))))))))))) h (by kernel_rfl)
theorem Br{G:PV->Prop}(b:BoxT)(fs:List Fact)(l:Lin)(p:List Mono)(i:Int)(h:if (decide (i ≥ 0))=true then(decide (0<=i)&&decide (Int.toNat i<List.length (List.map enc b.v))&&Enc.sz Str==1)=true∧(∃ y0:Str,AV.pv (PV.rptr (PV.cells (List.getD (List.map enc b.v) (Int.toNat i) default)))=AV.pv (PV.rptr (PV.cells ((enc) y0)))∧(At XK 0 (Za Xf G) Xe 0 201 [(1,(.pv (.sl 3 false (List.map enc fs)))),(3,(.ptr 0 0)),(5,(.ptr 1 0)),(7,(.ptr 2 0)),(8,(.pv (.int .i64 (IntKind.wrap IntKind.i64 (i - 1)))))] [(.obj (.box [(.pv (.sl 1 false (List.map enc b.v))),(.pv (.int .i64 b.m))])),(.obj (.box [(.pv (.int .i64 l.k)),(.pv (.sl 2 false (List.map enc l.t))),(.pv (.sl 2 false (List.map enc p)))])),(.obj (.box [(.row 3 1 0 1),(.pv (.int .i64 b.m))])),(.obj (.row false 9 1 [(.str (PV.asStr (List.getD (PV.cells (enc y0)) 0 default)))]))]))else((Go.Pl.preT (fun(x:BoxT×List Fact×Unit)=>ZW x.1&&Zo x.2.1&&decide (List.length x.2.1<=100)&&decide (List.length x.1.v<=1000)) [(.agg [(.sl 1 false (List.map enc b.v)),(.int .i64 b.m)]),(.sl 3 false (List.map enc fs))])=true∧(∃ y1:Int×Int,AV.pv (Zf (fun(x:BoxT×List Fact×Unit)=>YD x.1 x.2.1) [(.agg [(.sl 1 false (List.map enc b.v)),(.int .i64 b.m)]),(.sl 3 false (List.map enc fs))])=AV.pv (enc y1)∧((Go.Pl.preT (fun(x:BoxT×List Fact×Unit)=>ZW x.1&&Zo x.2.1&&decide (List.length x.2.1<=100)&&decide (List.length x.1.v<=1000)) [(.agg [(.sl 0 true []),(.int .i64 b.m)]),(.sl 3 false (List.map enc fs))])=true∧(∃ y2:Int×Int,AV.pv (Zf (fun(x:BoxT×List Fact×Unit)=>YD x.1 x.2.1) [(.agg [(.sl 0 true []),(.int .i64 b.m)]),(.sl 3 false (List.map enc fs))])=AV.pv (enc y2)∧((Go.Pl.preT (fun(x:BoxT×List Fact×List Mono×Unit)=>YE x.1 x.2.1 x.2.2.1) [(.agg [(.sl 1 false (List.map enc b.v)),(.int .i64 b.m)]),(.sl 3 false (List.map enc fs)),(.sl 2 false [(.agg [(.int .i64 1),(.sl 0 true [])])])])=true∧(∃ y3:Int×Int,AV.pv (Zf (fun(x:BoxT×List Fact×List Mono×Unit)=>Z8 x.1 x.2.1 x.2.2.1) [(.agg [(.sl 1 false (List.map enc b.v)),(.int .i64 b.m)]),(.sl 3 false (List.map enc fs)),(.sl 2 false [(.agg [(.int .i64 1),(.sl 0 true [])])])])=AV.pv (enc y3)∧(if (y1.1 != y2.1)=true then G ((.bool false))else(if (y1.2 != y2.2)=true then G ((.bool false))else(if (y3.1 != y1.1)=true then G ((.bool false))else(if (y3.2 != y1.2)=true then G ((.bool false))else((Go.Pl.preT (fun(x:BoxT×List Fact×Lin×Unit)=>Xw x.1 x.2.1 x.2.2.1) [(.agg [(.sl 1 false (List.map enc b.v)),(.int .i64 b.m)]),(.sl 3 false (List.map enc fs)),(.agg [(.int .i64 l.k),(.sl 2 false (List.map enc l.t))])])=true∧(∃ y4:Int×Int,AV.pv (Zf (fun(x:BoxT×List Fact×Lin×Unit)=>XM lessB x.1 x.2.1 x.2.2.1) [(.agg [(.sl 1 false (List.map enc b.v)),(.int .i64 b.m)]),(.sl 3 false (List.map enc fs)),(.agg [(.int .i64 l.k),(.sl 2 false (List.map enc l.t))])])=AV.pv (enc y4)∧((Go.Pl.preT (fun(x:BoxT×List Fact×Lin×Unit)=>Xw x.1 x.2.1 x.2.2.1) [(.agg [(.sl 0 true []),(.int .i64 b.m)]),(.sl 3 false (List.map enc fs)),(.agg [(.int .i64 l.k),(.sl 2 false (List.map enc l.t))])])=true∧(∃ y5:Int×Int,AV.pv (Zf (fun(x:BoxT×List Fact×Lin×Unit)=>XM lessB x.1 x.2.1 x.2.2.1) [(.agg [(.sl 0 true []),(.int .i64 b.m)]),(.sl 3 false (List.map enc fs)),(.agg [(.int .i64 l.k),(.sl 2 false (List.map enc l.t))])])=AV.pv (enc y5)∧((Go.Pl.preT (fun(x:BoxT×List Fact×List Mono×Unit)=>YE x.1 x.2.1 x.2.2.1) [(.agg [(.sl 1 false (List.map enc b.v)),(.int .i64 b.m)]),(.sl 3 false (List.map enc fs)),(.sl 2 false (List.map enc p))])=true∧(∃ y6:Int×Int,AV.pv (Zf (fun(x:BoxT×List Fact×List Mono×Unit)=>Z8 x.1 x.2.1 x.2.2.1) [(.agg [(.sl 1 false (List.map enc b.v)),(.int .i64 b.m)]),(.sl 3 false (List.map enc fs)),(.sl 2 false (List.map enc p))])=AV.pv (enc y6)∧((Go.Pl.preT (fun(x:BoxT×List Fact×List Mono×Unit)=>YE x.1 x.2.1 x.2.2.1) [(.agg [(.sl 0 true []),(.int .i64 b.m)]),(.sl 3 false (List.map enc fs)),(.sl 2 false (List.map enc p))])=true∧(∃ y7:Int×Int,AV.pv (Zf (fun(x:BoxT×List Fact×List Mono×Unit)=>Z8 x.1 x.2.1 x.2.2.1) [(.agg [(.sl 0 true []),(.int .i64 b.m)]),(.sl 3 false (List.map enc fs)),(.sl 2 false (List.map enc p))])=AV.pv (enc y7)∧(if (y4.1 != y5.1)=true then G ((.bool false))else(if (y4.2 != y5.2)=true then G ((.bool false))else(if (y6.1 != y7.1)=true then G ((.bool false))else(if (y6.2 != y7.2)=true then G ((.bool false))else((Go.Pl.preT (fun(x:Lin×Unit)=>Z6 x.1) [(.agg [(.int .i64 l.k),(.sl 2 false (List.map enc l.t))])])=true∧(∃ y8:List Mono×Int,AV.pv (Zf (fun(x:Lin×Unit)=>Jq x.1) [(.agg [(.int .i64 l.k),(.sl 2 false (List.map enc l.t))])])=AV.pv (enc y8)∧((Go.Pl.preT (fun(x:List Mono×List Mono×Unit)=>Zv x.1&&Zv x.2.1) [(.sl 2 false (List.map enc p)),(.sl 2 false (List.map enc y8.1))])=true∧(∃ y9:List Mono×Int,AV.pv (Zf (fun(x:List Mono×List Mono×Unit)=>Vw x.1 x.2.1) [(.sl 2 false (List.map enc p)),(.sl 2 false (List.map enc y8.1))])=AV.pv (enc y9)∧((Go.Pl.preT (fun(x:BoxT×List Fact×List Mono×Unit)=>YE x.1 x.2.1 x.2.2.1) [(.agg [(.sl 1 false (List.map enc b.v)),(.int .i64 b.m)]),(.sl 3 false (List.map enc fs)),(.sl 2 false (List.map enc y8.1))])=true∧(∃ y10:Int×Int,AV.pv (Zf (fun(x:BoxT×List Fact×List Mono×Unit)=>Z8 x.1 x.2.1 x.2.2.1) [(.agg [(.sl 1 false (List.map enc b.v)),(.int .i64 b.m)]),(.sl 3 false (List.map enc fs)),(.sl 2 false (List.map enc y8.1))])=AV.pv (enc y10)∧((Go.Pl.preT (fun(x:BoxT×List Fact×List Mono×Unit)=>YE x.1 x.2.1 x.2.2.1) [(.agg [(.sl 1 false (List.map enc b.v)),(.int .i64 b.m)]),(.sl 3 false (List.map enc fs)),(.sl 2 false (List.map enc y9.1))])=true∧(∃ y11:Int×Int,AV.pv (Zf (fun(x:BoxT×List Fact×List Mono×Unit)=>Z8 x.1 x.2.1 x.2.2.1) [(.agg [(.sl 1 false (List.map enc b.v)),(.int .i64 b.m)]),(.sl 3 false (List.map enc fs)),(.sl 2 false (List.map enc y9.1))])=AV.pv (enc y11)∧(if (y6.2 != 0)=true then G ((.bool true))else(if (y9.2 != 0)=true then G ((.bool true))else(if (y10.2 != 0)=true then G ((.bool true))else(if (y11.2 != 0)=true then G ((.bool true))else(G ((.bool (y11.1==IntKind.wrap IntKind.i64 (y6.1+y10.1)))))))))))))))))))))))))))))))))))))))):At XK 0 (Za Xf G) Xe 0 201 [(1,.pv (enc fs)),(3,.ptr 0 0),(5,.ptr 1 0),(7,.ptr 2 0),(8,.pv (.int .i64 i))] [.obj (.box [.pv (enc b.v),.pv (.int .i64 b.m)]),.obj (.box [.pv (.int .i64 l.k),.pv (enc l.t),.pv (enc p)]),.obj (.box [.pv (.sl 0 true []),.pv (.int .i64 b.m)])]:=At.tp (.lit (.ask (.req (.abs (Str) (fun YY=>AV.pv (PV.rptr (PV.cells ((enc) YY)))) (.lit (.lit (.lit (.lit (.lit (.lit (.lit (.nil)))))))))) (.req (.abs (Int×Int) (fun YY=>AV.pv (enc YY)) (.req (.abs (Int×Int) (fun YY=>AV.pv (enc YY)) (.lit (.lit (.req (.abs (Int×Int) (fun YY=>AV.pv (enc YY)) (.lit (.ask (.lit (.lit (.lit (.lit (.lit (.lit (.lit (.lit (.lit (.lit (.lit (.lit (.nil))))))))))))) (.lit (.lit (.lit (.lit (.ask (.lit (.lit (.lit (.lit (.lit (.lit (.lit (.lit (.nil))))))))) (.lit (.lit (.lit (.lit (.ask (.lit (.lit (.lit (.lit (.nil))))) (.lit (.lit (.lit (.lit (.ask (.nil) (.req (.abs (Int×Int) (fun YY=>AV.pv (enc YY)) (.req (.abs (Int×Int) (fun YY=>AV.pv (enc YY)) (.req (.abs (Int×Int) (fun YY=>AV.pv (enc YY)) (.req (.abs (Int×Int) (fun YY=>AV.pv (enc YY)) (.lit (.ask (.lit (.lit (.lit (.lit (.lit (.lit (.lit (.lit (.lit (.lit (.lit (.lit (.nil))))))))))))) (.lit (.lit (.lit (.lit (.ask (.lit (.lit (.lit (.lit (.lit (.lit (.lit (.lit (.nil))))))))) (.lit (.lit (.lit (.lit (.ask (.lit (.lit (.lit (.lit (.nil))))) (.lit (.lit (.lit (.lit (.ask (.nil) (.req (.abs (List Mono×Int) (fun YY=>AV.pv (enc YY)) (.req (.abs (List Mono×Int) (fun YY=>AV.pv (enc YY)) (.req (.abs (Int×Int) (fun YY=>AV.pv (enc YY)) (.req (.abs (Int×Int) (fun YY=>AV.pv (enc YY)) (.lit (.ask (.lit (.lit (.lit (.lit (.lit (.lit (.lit (.lit (.lit (.lit (.lit (.lit (.lit (.lit (.nil))))))))))))))) (.lit (.lit (.lit (.ask (.lit (.lit (.lit (.lit (.lit (.lit (.lit (.lit (.lit (.lit (.lit (.nil)))))))))))) (.lit (.lit (.lit (.ask (.lit (.lit (.lit (.lit (.lit (.lit (.lit (.lit (.nil))))))))) (.lit (.lit (.lit (.ask (.lit (.lit (.lit (.lit (.lit (.nil)))))) (.lit (.lit (.lit (.lit (.lit (.lit (.lit (.nil)))))))))))))))))))))))))))))))))))))))))))))))))))))))))))))))))))))))))))))))))) h (by kernel_rfl)
theorem Az{G:PV->Prop}(b:BoxT)(fs:List Fact)(l:Lin)(p:List Mono)(i:Int)(n:Nat)(xs:List Str)(h:if (decide (i ≥ 0))=true then(decide (0<=i)&&decide (Int.toNat i<List.length (List.map enc b.v))&&Enc.sz Str==1)=true∧(∃ y0:Str,AV.pv (PV.rptr (PV.cells (List.getD (List.map enc b.v) (Int.toNat i) default)))=AV.pv (PV.rptr (PV.cells ((enc) y0)))∧((List.length (List.map enc xs)==n&&n==n&&decide ((n+List.length (List.drop 0 (List.take 1 [Sh.co Sh.str (List.getD (PV.cells (enc y0)) 0 default)])))*16<=1099511627776)&&decide (n+List.length (List.drop 0 (List.take 1 [Sh.co Sh.str (List.getD (PV.cells (enc y0)) 0 default)]))<=1099511627776))=true∧(At XK 0 (Za Xf G) Xe 0 201 [(1,(.pv (.sl 3 false (List.map enc fs)))),(3,(.ptr 0 0)),(5,(.ptr 1 0)),(7,(.ptr 2 0)),(8,(.pv (.int .i64 (IntKind.wrap IntKind.i64 (i - 1)))))] [(.obj (.box [(.pv (.sl 1 false (List.map enc b.v))),(.pv (.int .i64 b.m))])),(.obj (.box [(.pv (.int .i64 l.k)),(.pv (.sl 2 false (List.map enc l.t))),(.pv (.sl 2 false (List.map enc p)))])),(.obj (.box [(.row 3 (n+List.length (List.drop 0 (List.take 1 [Sh.co Sh.str (List.getD (PV.cells (enc y0)) 0 default)]))) 0 (n+List.length (List.drop 0 (List.take 1 [Sh.co Sh.str (List.getD (PV.cells (enc y0)) 0 default)])))),(.pv (.int .i64 b.m))])),(.obj (.row false 9 1 (List.map enc xs++List.drop 0 (List.take 1 [Sh.co Sh.str (List.getD (PV.cells (enc y0)) 0 default)]))))])))else((Go.Pl.preT (fun(x:BoxT×List Fact×Unit)=>ZW x.1&&Zo x.2.1&&decide (List.length x.2.1<=100)&&decide (List.length x.1.v<=1000)) [(.agg [(.sl 1 false (List.map enc b.v)),(.int .i64 b.m)]),(.sl 3 false (List.map enc fs))])=true∧(∃ y1:Int×Int,AV.pv (Zf (fun(x:BoxT×List Fact×Unit)=>YD x.1 x.2.1) [(.agg [(.sl 1 false (List.map enc b.v)),(.int .i64 b.m)]),(.sl 3 false (List.map enc fs))])=AV.pv (enc y1)∧((List.length (List.map enc xs)==n)=true∧((Go.Pl.preT (fun(x:BoxT×List Fact×Unit)=>ZW x.1&&Zo x.2.1&&decide (List.length x.2.1<=100)&&decide (List.length x.1.v<=1000)) [(.agg [(.sl 1 false (List.drop 0 (List.take n (List.map enc xs)))),(.int .i64 b.m)]),(.sl 3 false (List.map enc fs))])=true∧(∃ y2:Int×Int,AV.pv (Zf (fun(x:BoxT×List Fact×Unit)=>YD x.1 x.2.1) [(.agg [(.sl 1 false (List.drop 0 (List.take n (List.map enc xs)))),(.int .i64 b.m)]),(.sl 3 false (List.map enc fs))])=AV.pv (enc y2)∧((Go.Pl.preT (fun(x:BoxT×List Fact×List Mono×Unit)=>YE x.1 x.2.1 x.2.2.1) [(.agg [(.sl 1 false (List.map enc b.v)),(.int .i64 b.m)]),(.sl 3 false (List.map enc fs)),(.sl 2 false [(.agg [(.int .i64 1),(.sl 0 true [])])])])=true∧(∃ y3:Int×Int,AV.pv (Zf (fun(x:BoxT×List Fact×List Mono×Unit)=>Z8 x.1 x.2.1 x.2.2.1) [(.agg [(.sl 1 false (List.map enc b.v)),(.int .i64 b.m)]),(.sl 3 false (List.map enc fs)),(.sl 2 false [(.agg [(.int .i64 1),(.sl 0 true [])])])])=AV.pv (enc y3)∧(if (y1.1 != y2.1)=true then G ((.bool false))else(if (y1.2 != y2.2)=true then G ((.bool false))else(if (y3.1 != y1.1)=true then G ((.bool false))else(if (y3.2 != y1.2)=true then G ((.bool false))else((Go.Pl.preT (fun(x:BoxT×List Fact×Lin×Unit)=>Xw x.1 x.2.1 x.2.2.1) [(.agg [(.sl 1 false (List.map enc b.v)),(.int .i64 b.m)]),(.sl 3 false (List.map enc fs)),(.agg [(.int .i64 l.k),(.sl 2 false (List.map enc l.t))])])=true∧(∃ y4:Int×Int,AV.pv (Zf (fun(x:BoxT×List Fact×Lin×Unit)=>XM lessB x.1 x.2.1 x.2.2.1) [(.agg [(.sl 1 false (List.map enc b.v)),(.int .i64 b.m)]),(.sl 3 false (List.map enc fs)),(.agg [(.int .i64 l.k),(.sl 2 false (List.map enc l.t))])])=AV.pv (enc y4)∧((List.length (List.map enc xs)==n)=true∧((Go.Pl.preT (fun(x:BoxT×List Fact×Lin×Unit)=>Xw x.1 x.2.1 x.2.2.1) [(.agg [(.sl 1 false (List.drop 0 (List.take n (List.map enc xs)))),(.int .i64 b.m)]),(.sl 3 false (List.map enc fs)),(.agg [(.int .i64 l.k),(.sl 2 false (List.map enc l.t))])])=true∧(∃ y5:Int×Int,AV.pv (Zf (fun(x:BoxT×List Fact×Lin×Unit)=>XM lessB x.1 x.2.1 x.2.2.1) [(.agg [(.sl 1 false (List.drop 0 (List.take n (List.map enc xs)))),(.int .i64 b.m)]),(.sl 3 false (List.map enc fs)),(.agg [(.int .i64 l.k),(.sl 2 false (List.map enc l.t))])])=AV.pv (enc y5)∧((Go.Pl.preT (fun(x:BoxT×List Fact×List Mono×Unit)=>YE x.1 x.2.1 x.2.2.1) [(.agg [(.sl 1 false (List.map enc b.v)),(.int .i64 b.m)]),(.sl 3 false (List.map enc fs)),(.sl 2 false (List.map enc p))])=true∧(∃ y6:Int×Int,AV.pv (Zf (fun(x:BoxT×List Fact×List Mono×Unit)=>Z8 x.1 x.2.1 x.2.2.1) [(.agg [(.sl 1 false (List.map enc b.v)),(.int .i64 b.m)]),(.sl 3 false (List.map enc fs)),(.sl 2 false (List.map enc p))])=AV.pv (enc y6)∧((List.length (List.map enc xs)==n)=true∧((Go.Pl.preT (fun(x:BoxT×List Fact×List Mono×Unit)=>YE x.1 x.2.1 x.2.2.1) [(.agg [(.sl 1 false (List.drop 0 (List.take n (List.map enc xs)))),(.int .i64 b.m)]),(.sl 3 false (List.map enc fs)),(.sl 2 false (List.map enc p))])=true∧(∃ y7:Int×Int,AV.pv (Zf (fun(x:BoxT×List Fact×List Mono×Unit)=>Z8 x.1 x.2.1 x.2.2.1) [(.agg [(.sl 1 false (List.drop 0 (List.take n (List.map enc xs)))),(.int .i64 b.m)]),(.sl 3 false (List.map enc fs)),(.sl 2 false (List.map enc p))])=AV.pv (enc y7)∧(if (y4.1 != y5.1)=true then G ((.bool false))else(if (y4.2 != y5.2)=true then G ((.bool false))else(if (y6.1 != y7.1)=true then G ((.bool false))else(if (y6.2 != y7.2)=true then G ((.bool false))else((Go.Pl.preT (fun(x:Lin×Unit)=>Z6 x.1) [(.agg [(.int .i64 l.k),(.sl 2 false (List.map enc l.t))])])=true∧(∃ y8:List Mono×Int,AV.pv (Zf (fun(x:Lin×Unit)=>Jq x.1) [(.agg [(.int .i64 l.k),(.sl 2 false (List.map enc l.t))])])=AV.pv (enc y8)∧((Go.Pl.preT (fun(x:List Mono×List Mono×Unit)=>Zv x.1&&Zv x.2.1) [(.sl 2 false (List.map enc p)),(.sl 2 false (List.map enc y8.1))])=true∧(∃ y9:List Mono×Int,AV.pv (Zf (fun(x:List Mono×List Mono×Unit)=>Vw x.1 x.2.1) [(.sl 2 false (List.map enc p)),(.sl 2 false (List.map enc y8.1))])=AV.pv (enc y9)∧((Go.Pl.preT (fun(x:BoxT×List Fact×List Mono×Unit)=>YE x.1 x.2.1 x.2.2.1) [(.agg [(.sl 1 false (List.map enc b.v)),(.int .i64 b.m)]),(.sl 3 false (List.map enc fs)),(.sl 2 false (List.map enc y8.1))])=true∧(∃ y10:Int×Int,AV.pv (Zf (fun(x:BoxT×List Fact×List Mono×Unit)=>Z8 x.1 x.2.1 x.2.2.1) [(.agg [(.sl 1 false (List.map enc b.v)),(.int .i64 b.m)]),(.sl 3 false (List.map enc fs)),(.sl 2 false (List.map enc y8.1))])=AV.pv (enc y10)∧((Go.Pl.preT (fun(x:BoxT×List Fact×List Mono×Unit)=>YE x.1 x.2.1 x.2.2.1) [(.agg [(.sl 1 false (List.map enc b.v)),(.int .i64 b.m)]),(.sl 3 false (List.map enc fs)),(.sl 2 false (List.map enc y9.1))])=true∧(∃ y11:Int×Int,AV.pv (Zf (fun(x:BoxT×List Fact×List Mono×Unit)=>Z8 x.1 x.2.1 x.2.2.1) [(.agg [(.sl 1 false (List.map enc b.v)),(.int .i64 b.m)]),(.sl 3 false (List.map enc fs)),(.sl 2 false (List.map enc y9.1))])=AV.pv (enc y11)∧(if (y6.2 != 0)=true then G ((.bool true))else(if (y9.2 != 0)=true then G ((.bool true))else(if (y10.2 != 0)=true then G ((.bool true))else(if (y11.2 != 0)=true then G ((.bool true))else(G ((.bool (y11.1==IntKind.wrap IntKind.i64 (y6.1+y10.1))))))))))))))))))))))))))))))))))))))))))):At XK 0 (Za Xf G) Xe 0 201 [(1,.pv (enc fs)),(3,.ptr 0 0),(5,.ptr 1 0),(7,.ptr 2 0),(8,.pv (.int .i64 i))] [.obj (.box [.pv (enc b.v),.pv (.int .i64 b.m)]),.obj (.box [.pv (.int .i64 l.k),.pv (enc l.t),.pv (enc p)]),.obj (.box [.row 3 n 0 n,.pv (.int .i64 b.m)]),.obj (.row false 9 1 (xs.map enc))]:=At.tp (.lit (.ask (.req (.abs (Str) (fun YY=>AV.pv (PV.rptr (PV.cells ((enc) YY)))) (.lit (.lit (.lit (.req (.lit (.nil)))))))) (.req (.abs (Int×Int) (fun YY=>AV.pv (enc YY)) (.req (.req (.abs (Int×Int) (fun YY=>AV.pv (enc YY)) (.lit (.lit (.req (.abs (Int×Int) (fun YY=>AV.pv (enc YY)) (.lit (.ask (.lit (.lit (.lit (.lit (.lit (.lit (.lit (.lit (.lit (.lit (.lit (.lit (.nil))))))))))))) (.lit (.lit (.lit (.lit (.ask (.lit (.lit (.lit (.lit (.lit (.lit (.lit (.lit (.nil))))))))) (.lit (.lit (.lit (.lit (.ask (.lit (.lit (.lit (.lit (.nil))))) (.lit (.lit (.lit (.lit (.ask (.nil) (.req (.abs (Int×Int) (fun YY=>AV.pv (enc YY)) (.req (.req (.abs (Int×Int) (fun YY=>AV.pv (enc YY)) (.req (.abs (Int×Int) (fun YY=>AV.pv (enc YY)) (.req (.req (.abs (Int×Int) (fun YY=>AV.pv (enc YY)) (.lit (.ask (.lit (.lit (.lit (.lit (.lit (.lit (.lit (.lit (.lit (.lit (.lit (.lit (.nil))))))))))))) (.lit (.lit (.lit (.lit (.ask (.lit (.lit (.lit (.lit (.lit (.lit (.lit (.lit (.nil))))))))) (.lit (.lit (.lit (.lit (.ask (.lit (.lit (.lit (.lit (.nil))))) (.lit (.lit (.lit (.lit (.ask (.nil) (.req (.abs (List Mono×Int) (fun YY=>AV.pv (enc YY)) (.req (.abs (List Mono×Int) (fun YY=>AV.pv (enc YY)) (.req (.abs (Int×Int) (fun YY=>AV.pv (enc YY)) (.req (.abs (Int×Int) (fun YY=>AV.pv (enc YY)) (.lit (.ask (.lit (.lit (.lit (.lit (.lit (.lit (.lit (.lit (.lit (.lit (.lit (.lit (.lit (.lit (.nil))))))))))))))) (.lit (.lit (.lit (.ask (.lit (.lit (.lit (.lit (.lit (.lit (.lit (.lit (.lit (.lit (.lit (.nil)))))))))))) (.lit (.lit (.lit (.ask (.lit (.lit (.lit (.lit (.lit (.lit (.lit (.lit (.nil))))))))) (.lit (.lit (.lit (.ask (.lit (.lit (.lit (.lit (.lit (.nil)))))) (.lit (.lit (.lit (.lit (.lit (.lit (.lit (.nil))))))))))))))))))))))))))))))))))))))))))))))))))))))))))))))))))))))))))))))))))))) h (by kernel_rfl)
end Go.Pl

namespace Go.Pl
open Go.RowKit
open Enc (enc dec is)
open EncL (encL decL isL)
theorem c4r{l:Lin}(h:Z6 l=true)(hl:l.t.length<=100):Zv (Jq l).1=true:=by
 unfold Jq
 split
 ·have h0:Zv (Y2 [] ⟨l.k,[]⟩)=true:=Uy rfl (by simp) rfl
  have h1:=WU [] ⟨l.k,[]⟩
  have key : ∀ (ts:List Coef) (o:List Mono),(∀ t∈ts,t.v.s.length<=281474976710656)->Zv o=true->o.length+ts.length<=1000000->Zv (ts.foldl (fun o t=>Y2 o ⟨t.c,[t.v]⟩) o)=true:=by
   intro ts
   induction ts with
   | nil=>intro o _ ho _;exact ho
   | cons t ts ih=>
    intro o ht ho hlen
    rw[List.length_cons]at hlen
    have hp:=WU o ⟨t.c,[t.v]⟩
    refine ih (Y2 o ⟨t.c,[t.v]⟩) (fun u hu=>ht u (by simp[hu])) (Uy ho (by omega) ?_) (by omega)
    unfold YB
    rw[Bool.and_eq_true]
    exact⟨rfl,by simp[ht t (by simp)]⟩
  have hk:Zv (l.t.foldl (fun o t=>Y2 o ⟨t.c,[t.v]⟩) (Y2 [] ⟨l.k,[]⟩))=true:=by
   refine key _ _ (fun t ht=> ?_) h0 (by rw[List.length_nil]at h1;omega)
   unfold Z6 at h
   rw[Bool.and_eq_true]at h
   have:=of_decide_eq_true (List.all_eq_true.1 h.2 t ht)
   omega
  unfold KC
  split
  ·exact hk
  ·rfl
 ·rfl
theorem b7p{p q:List Mono}(hp:Zv p=true)(hq:Zv q=true):Zv (Vw p q).1=true:=by
 unfold Vw
 split
 ·rename_i h
  rw[Bool.and_eq_true]at h
  have h1:=(Cr h.1).2
  have h2:=(Cr h.2).2
  unfold KC
  split
  ·exact GZ q p 1 hp (by omega) hq
  ·rfl
 ·rfl
theorem b8r{v:List Str}(h:YB v=true):YB v.reverse=true:=by
 unfold YB at h ⊢
 rw[Bool.and_eq_true]at h ⊢
 refine⟨?_,by rw[a0a];exact h.2⟩
 have:=Zu.1 h.1
 exact Zu.2 (by rw[List.length_reverse];exact this)
end Go.Pl

namespace Go.Pl
open Go.RowKit
open Enc (enc dec is)
open EncL (encL decL isL)
theorem c8i{l:List Str}{k:Nat}(h:k<l.length):(l.drop k).all (fun s=>decide (s.s.length<=40))=(decide (l[k].s.length<=40)&&(l.drop (k+1)).all fun s=>decide (s.s.length<=40)):=by
 rw[List.drop_eq_getElem_cons h,List.all_cons]
theorem b9c(p:List Mono)(n:Int)(i:Nat)(hi:i<p.length)(hil:i<9223372036854775807)(h10:p[i].v.length<=10)(R:Bool)
  (hK:(p[i].v.all fun s=>decide (s.s.length<=40))=true->At V7 0 (Za WI (Zj R)) WC 0 44 [(0,.pv (enc p)),(1,.pv (enc n)),(5,.pv (.int .i64 ((i+1:Nat):Int)))] [])
  (hB:(p[i].v.all fun s=>decide (s.s.length<=40))=false->R=false) : ∀ (d k:Nat),d+k=p[i].v.length->(p[i].v.all fun s=>decide (s.s.length<=40))=((p[i].v.drop k).all fun s=>decide (s.s.length<=40)) ->
  At V7 0 (Za WI (Zj R)) WC 1 44 [(0,.pv (enc p)),(1,.pv (enc n)),(5,.pv (.int .i64 i)),(6,.pv (.int .i64 k))] []:=by
 intro d
 induction d with
 | zero=>
  intro k hk ha
  rw[List.drop_of_length_le (by omega)]at ha
  refine a2b p n i k ⟨Zq hi rfl,ZF hi ?_⟩
  rw[c6m hi]
  refine ZN (by simp;omega) ?_
  rw[next (by omega)]
  exact hK ha
 | succ d ih=>
  intro k hk ha
  have hkl:k<p[i].v.length:=by omega
  refine a2b p n i k ⟨Zq hi rfl,ZF hi ?_⟩
  rw[c6m hi]
  refine ZU (by simp;omega) ⟨Zq hi rfl,ZF hi ⟨ixS hkl,d0r hkl,?_⟩⟩
  rw[d0j hkl]
  rw[c8i hkl]at ha
  refine Xy (fun h=> ?_) fun h=> ?_
  ·rw[decide_eq_false (show ¬ p[i].v[k].s.length<=40 by omega),Bool.false_and]at ha
   exact ZM (hB ha).symm
  ·rw[decide_eq_true (show p[i].v[k].s.length<=40 by omega),Bool.true_and]at ha
   rw[next (by omega)]
   exact ih (k+1) (by omega) ha
def a6r(m:Mono):Bool:=decide (m.v.length<=10)&&m.v.all fun s=>decide (s.s.length<=40)
theorem c5k(p:List Mono)(n:Int):GX p n=(p.all a6r&&decide ((p.length:Int)<=n)):=rfl
theorem a6n(p:List Mono)(n:Int)(hp:p.length<=9223372036854775807): ∀ (d i:Nat),d+i=p.length->GX p n=((p.drop i).all a6r&&decide ((p.length:Int)<=n)) ->
  At V7 0 (Za WI (Zj (GX p n))) WC 0 44 [(0,.pv (enc p)),(1,.pv (enc n)),(5,.pv (.int .i64 i))] []:=by
 intro d
 induction d with
 | zero=>
  intro i hi hR
  rw[List.drop_of_length_le (by omega)]at hR
  refine a2a p n i (ZN (Ud (by omega)) (ZM ?_))
  rw[hR]
  simp
 | succ d ih=>
  intro i hi hR
  have hlt:i<p.length:=by omega
  rw[List.drop_eq_getElem_cons hlt,List.all_cons]at hR
  refine a2a p n i (ZU (WW hlt) ⟨Zq hlt rfl,ZF hlt ?_⟩)
  rw[c6m hlt]
  refine Xy (fun h=> ?_) fun h=> ?_
  ·have:a6r p[i]=false:=by unfold a6r;rw[decide_eq_false (by omega),Bool.false_and]
   rw[this,Bool.false_and,Bool.false_and]at hR
   exact ZM hR.symm
  ·have hm:a6r p[i]=p[i].v.all fun s=>decide (s.s.length<=40):=by unfold a6r;rw[decide_eq_true (by omega),Bool.true_and]
   refine b9c p n i hlt (by omega) (by omega) (GX p n) (fun ha=> ?_) (fun ha=> ?_) p[i].v.length 0 rfl rfl
   ·rw[hm,ha,Bool.true_and]at hR
    exact ih (i+1) (by omega) hR
   ·rw[hm,ha,Bool.false_and,Bool.false_and]at hR
    exact hR
theorem b3h: ∀ x:List Mono×Int×Unit,U5 x.1=true->Zc V7 0 (Za WI (Zj (GX x.1 x.2.1))) WC [] (Yr c2f (encL x)):=by
 rintro⟨p,n,⟨⟩⟩ h
 unfold U5 at h
 rw[Bool.and_eq_true]at h
 exact c3r p n (a6n p n (Zu.1 h.1) p.length 0 rfl (c5k p n))
theorem EH: ∀ x:Asked×Unit,KQ x.1=true->Zc BH 0 (Za Db (Zj (U1 x.1))) GJ [] (Yr a3v (encL x)):=by
 rintro⟨⟨l,p⟩,⟨⟩⟩ h
 unfold KQ at h
 rw[Bool.and_eq_true]at h
 refine b5n l p ⟨Ze (l,(6:Int),()) rfl h.1,Zd (l,(6:Int),()) rfl ?_⟩
 show if QR l 6=true then _ else _
 refine Wx (fun h4=>⟨Ze (p,(6:Int),()) rfl h.2,Zd (p,(6:Int),()) rfl (ZM ?_)⟩) fun h4=>ZM ?_
 ·show GX p 6=U1 ⟨l,p⟩
  unfold U1
  rw[h4,Bool.true_and]
 ·show false=U1 ⟨l,p⟩
  unfold U1
  rw[h4,Bool.false_and]
def ls0(b:BoxT)(fs:List Fact)(l:Lin)(p:List Mono)(i:Int):List Str->Prop
 | []=>At XK 0 (Za Xf (Zj true)) Xe 0 201 [(1,.pv (enc fs)),(3,.ptr 0 0),(5,.ptr 1 0),(7,.ptr 2 0),(8,.pv (.int .i64 i))] [.obj (.box [.pv (enc b.v),.pv (.int .i64 b.m)]),.obj (.box [.pv (.int .i64 l.k),.pv (enc l.t),.pv (enc p)]),.obj (.box [.pv (.sl 0 true []),.pv (.int .i64 b.m)])]
 | x::r=>At XK 0 (Za Xf (Zj true)) Xe 0 201 [(1,.pv (enc fs)),(3,.ptr 0 0),(5,.ptr 1 0),(7,.ptr 2 0),(8,.pv (.int .i64 i))] [.obj (.box [.pv (enc b.v),.pv (.int .i64 b.m)]),.obj (.box [.pv (.int .i64 l.k),.pv (enc l.t),.pv (enc p)]),.obj (.box [.row 3 (r.length+1) 0 (r.length+1),.pv (.int .i64 b.m)]),.obj (.row false 9 1 ((x::r).map enc))]
theorem c0m{b:BoxT}{fs:List Fact}{l:Lin}{p:List Mono}{i:Int}{n:Nat}{ys:List Str}{qs:List PV}(h:ls0 b fs l p i ys)(h0:ys≠[])(hn:n=ys.length)(hy:qs=ys.map enc):
  At XK 0 (Za Xf (Zj true)) Xe 0 201 [(1,.pv (enc fs)),(3,.ptr 0 0),(5,.ptr 1 0),(7,.ptr 2 0),(8,.pv (.int .i64 i))] [.obj (.box [.pv (enc b.v),.pv (.int .i64 b.m)]),.obj (.box [.pv (.int .i64 l.k),.pv (enc l.t),.pv (enc p)]),.obj (.box [.row 3 n 0 n,.pv (.int .i64 b.m)]),.obj (.row false 9 1 qs)]:=by
 subst hn hy
 cases ys with
 | nil=>exact absurd rfl h0
 | cons x r=>exact h
theorem a8m{b:BoxT}{fs:List Fact}{l:Lin}{p:List Mono}(h1:ZW b=true)(hfs:Zo fs=true)(h6:fs.length<=6)(hb:b.v.length<=1000)(hls:Z6 l=true)(hll:l.t.length<=6)(hpo:Zv p=true):
  ∀ xs:List Str,xs=b.v.reverse->ls0 b fs l p (-1) xs:=by
 have hps:Yf p=true:=hpo
 have hbv:ZW (Yb b)=true:=b8r h1
 have hbl:(Yb b).v.length<=1000:=by show b.v.reverse.length<=1000;rw[List.length_reverse];exact hb
 have hP:(ZW b&&Zo fs&&decide (fs.length<=100)&&decide (b.v.length<=1000))=true:=by rw[h1,hfs,decide_eq_true (show fs.length<=100 by omega),decide_eq_true hb];rfl
 have hPb:(ZW (Yb b)&&Zo fs&&decide (fs.length<=100)&&decide ((Yb b).v.length<=1000))=true:=by rw[hbv,hfs,decide_eq_true (show fs.length<=100 by omega),decide_eq_true hbl];rfl
 have ex:Xw b fs l=true:=by
  unfold Xw
  rw[h1,hfs,hls,decide_eq_true (show fs.length<=100 by omega),decide_eq_true hb,decide_eq_true (show l.t.length<=1000 by omega)];rfl
 have exb:Xw (Yb b) fs l=true:=by
  unfold Xw
  rw[hbv,hfs,hls,decide_eq_true (show fs.length<=100 by omega),decide_eq_true hbl,decide_eq_true (show l.t.length<=1000 by omega)];rfl
 have hof:=c4r hls (by omega)
 have had:=b7p hpo hof
 have sp:YE b fs p=true:=by unfold YE;rw[hP,hps];rfl
 have spb:YE (Yb b) fs p=true:=by unfold YE;rw[hPb,hps];rfl
 have sp1:YE b fs [⟨1,[]⟩]=true:=by unfold YE;rw[hP];rfl
 have so:YE b fs (Jq l).1=true:=by unfold YE;rw[hP];exact hof
 have sa:YE b fs (Vw p (Jq l).1).1=true:=by unfold YE;rw[hP];exact had
 have pq:(Zv p&&Zv (Jq l).1)=true:=by rw[hpo,hof];rfl
 have hfin:(Z8 b fs p).2=0->(Vw p (Jq l).1).2=0->(Z8 b fs (Jq l).1).2=0->(Z8 b fs (Vw p (Jq l).1).1).2=0->((Z8 b fs (Vw p (Jq l).1).1).1==IntKind.i64.wrap ((Z8 b fs p).1+(Z8 b fs (Jq l).1).1))=true:=by
  intro a1 a2 a3 a4
  have e:=b8l a2 a1 a3 a4
  have:=c5y (b9i b fs (Vw p (Jq l).1).1)
  rw[WN (by omega) (by omega),<- e];simp
 have i2:isL (BoxT×List Fact×List Mono×Unit) [.agg [.sl 1 false (List.map enc b.v),.int .i64 b.m],.sl 3 false (List.map enc fs),.sl 2 false [.agg [.int .i64 1,.sl 0 true []]]]=true:=by
  show(is BoxT (enc b)&&(is (List Fact) (enc fs)&&true))=true
  rw[Enc.is_enc,Enc.is_enc];rfl
 have d2:(decL [.agg [.sl 1 false (List.map enc b.v),.int .i64 b.m],.sl 3 false (List.map enc fs),.sl 2 false [.agg [.int .i64 1,.sl 0 true []]]]:BoxT×List Fact×List Mono×Unit)=(b,fs,[⟨1,[]⟩],()):=by
  show((dec (enc b):BoxT),(dec (enc fs):List Fact),([⟨1,[]⟩]:List Mono),())=_
  rw[Enc.dec_enc,Enc.dec_enc]
 intro xs hxs
 cases xs with
 | nil=>
  refine Br b fs l p (-1) (ZN (by decide) ?_)
  have hq1:is (List Str) (.sl 0 true [])=true:=rfl
  have hq2:(dec (.sl 0 true []):List Str)=b.v.reverse:=hxs
  have i1:isL (BoxT×List Fact×Unit) [.agg [.sl 0 true [],.int .i64 b.m],.sl 3 false (List.map enc fs)]=true:=by
   show((is (List Str) (.sl 0 true [])&&true)&&(is (List Fact) (enc fs)&&true))=true
   rw[hq1,Enc.is_enc];rfl
  have d1:(decL [.agg [.sl 0 true [],.int .i64 b.m],.sl 3 false (List.map enc fs)]:BoxT×List Fact×Unit)=(Yb b,fs,()):=by
   show((⟨dec (.sl 0 true []),b.m⟩:BoxT),(dec (enc fs):List Fact),())=_
   rw[hq2,Enc.dec_enc];rfl
  have i3:isL (BoxT×List Fact×Lin×Unit) [.agg [.sl 0 true [],.int .i64 b.m],.sl 3 false (List.map enc fs),.agg [.int .i64 l.k,.sl 2 false (List.map enc l.t)]]=true:=by
   show((is (List Str) (.sl 0 true [])&&true)&&(is (List Fact) (enc fs)&&(is Lin (enc l)&&true)))=true
   rw[hq1,Enc.is_enc,Enc.is_enc];rfl
  have d3:(decL [.agg [.sl 0 true [],.int .i64 b.m],.sl 3 false (List.map enc fs),.agg [.int .i64 l.k,.sl 2 false (List.map enc l.t)]]:BoxT×List Fact×Lin×Unit)=(Yb b,fs,l,()):=by
   show((⟨dec (.sl 0 true []),b.m⟩:BoxT),(dec (enc fs):List Fact),(dec (enc l):Lin),())=_
   rw[hq2,Enc.dec_enc,Enc.dec_enc];rfl
  have i4:isL (BoxT×List Fact×List Mono×Unit) [.agg [.sl 0 true [],.int .i64 b.m],.sl 3 false (List.map enc fs),.sl 2 false (List.map enc p)]=true:=by
   show((is (List Str) (.sl 0 true [])&&true)&&(is (List Fact) (enc fs)&&(is (List Mono) (enc p)&&true)))=true
   rw[hq1,Enc.is_enc,Enc.is_enc];rfl
  have d4:(decL [.agg [.sl 0 true [],.int .i64 b.m],.sl 3 false (List.map enc fs),.sl 2 false (List.map enc p)]:BoxT×List Fact×List Mono×Unit)=(Yb b,fs,p,()):=by
   show((⟨dec (.sl 0 true []),b.m⟩:BoxT),(dec (enc fs):List Fact),(dec (enc p):List Mono),())=_
   rw[hq2,Enc.dec_enc,Enc.dec_enc];rfl
  refine⟨Ze (b,fs,()) rfl hP,Zd (b,fs,()) rfl ⟨UQ (Yb b,fs,()) i1 d1 hPb,Uz (Yb b,fs,()) d1 ⟨UQ (b,fs,[⟨1,[]⟩],()) i2 d2 sp1,Uz (b,fs,[⟨1,[]⟩],()) d2 (ZN ?_ (ZN ?_ (ZN ?_ (ZN ?_ ?_))))⟩⟩⟩
  ·show ¬ ((YD b fs).1 != (YD (Yb b) fs).1)=true
   rw[QN];simp
  ·show ¬ ((YD b fs).2 != (YD (Yb b) fs).2)=true
   rw[QN];simp
  ·show ¬ ((Z8 b fs [⟨1,[]⟩]).1 != (YD b fs).1)=true
   rw[Cm b fs hb];simp
  ·show ¬ ((Z8 b fs [⟨1,[]⟩]).2 != (YD b fs).2)=true
   rw[Cm b fs hb];simp
  refine⟨Ze (b,fs,l,()) rfl ex,Zd (b,fs,l,()) rfl ⟨UQ (Yb b,fs,l,()) i3 d3 exb,Uz (Yb b,fs,l,()) d3 ⟨Ze (b,fs,p,()) rfl sp,Zd (b,fs,p,()) rfl ⟨UQ (Yb b,fs,p,()) i4 d4 spb,Uz (Yb b,fs,p,()) d4 (ZN ?_ (ZN ?_ (ZN ?_ (ZN ?_ ?_))))⟩⟩⟩⟩
  ·show ¬ ((XM lessB b fs l).1 != (XM lessB (Yb b) fs l).1)=true
   rw[QT];simp
  ·show ¬ ((XM lessB b fs l).2 != (XM lessB (Yb b) fs l).2)=true
   rw[QT];simp
  ·show ¬ ((Z8 b fs p).1 != (Z8 (Yb b) fs p).1)=true
   rw[Hr];simp
  ·show ¬ ((Z8 b fs p).2 != (Z8 (Yb b) fs p).2)=true
   rw[Hr];simp
  refine⟨Ze (l,()) rfl hls,Zd (l,()) rfl ⟨Ze (p,(Jq l).1,()) rfl pq,Zd (p,(Jq l).1,()) rfl ⟨Ze (b,fs,(Jq l).1,()) rfl so,Zd (b,fs,(Jq l).1,()) rfl ⟨Ze (b,fs,(Vw p (Jq l).1).1,()) rfl sa,Zd (b,fs,(Vw p (Jq l).1).1,()) rfl ?_⟩⟩⟩⟩
  exact Jk (fun _=>ZM rfl) fun a1=>Jk (fun _=>ZM rfl) fun a2=>Jk (fun _=>ZM rfl) fun a3=>Jk (fun _=>ZM rfl) fun a4=>ZM (hfin (by simpa using a1) (by simpa using a2) (by simpa using a3) (by simpa using a4))
 | cons x r=>
  show At XK 0 (Za Xf (Zj true)) Xe 0 201 [(1,.pv (enc fs)),(3,.ptr 0 0),(5,.ptr 1 0),(7,.ptr 2 0),(8,.pv (.int .i64 (-1)))] [.obj (.box [.pv (enc b.v),.pv (.int .i64 b.m)]),.obj (.box [.pv (.int .i64 l.k),.pv (enc l.t),.pv (enc p)]),.obj (.box [.row 3 (x::r).length 0 (x::r).length,.pv (.int .i64 b.m)]),.obj (.row false 9 1 ((x::r).map enc))]
  generalize x::r=xs at hxs
  have ed:List.drop 0 (List.take xs.length (List.map (enc:Str->PV) xs))=List.map enc xs:=by rw[List.drop_zero,List.take_of_length_le (by simp)]
  refine Az b fs l p (-1) xs.length xs (ZN (by decide) ?_)
  rw[ed]
  have hq1:is (List Str) (.sl 1 false (List.map enc xs))=true:=Enc.is_enc xs
  have hq2:(dec (.sl 1 false (List.map enc xs)):List Str)=b.v.reverse:=(Enc.dec_enc xs).trans hxs
  have i1:isL (BoxT×List Fact×Unit) [.agg [.sl 1 false (List.map enc xs),.int .i64 b.m],.sl 3 false (List.map enc fs)]=true:=by
   show((is (List Str) (.sl 1 false (List.map enc xs))&&true)&&(is (List Fact) (enc fs)&&true))=true
   rw[hq1,Enc.is_enc];rfl
  have d1:(decL [.agg [.sl 1 false (List.map enc xs),.int .i64 b.m],.sl 3 false (List.map enc fs)]:BoxT×List Fact×Unit)=(Yb b,fs,()):=by
   show((⟨dec (.sl 1 false (List.map enc xs)),b.m⟩:BoxT),(dec (enc fs):List Fact),())=_
   rw[hq2,Enc.dec_enc];rfl
  have i3:isL (BoxT×List Fact×Lin×Unit) [.agg [.sl 1 false (List.map enc xs),.int .i64 b.m],.sl 3 false (List.map enc fs),.agg [.int .i64 l.k,.sl 2 false (List.map enc l.t)]]=true:=by
   show((is (List Str) (.sl 1 false (List.map enc xs))&&true)&&(is (List Fact) (enc fs)&&(is Lin (enc l)&&true)))=true
   rw[hq1,Enc.is_enc,Enc.is_enc];rfl
  have d3:(decL [.agg [.sl 1 false (List.map enc xs),.int .i64 b.m],.sl 3 false (List.map enc fs),.agg [.int .i64 l.k,.sl 2 false (List.map enc l.t)]]:BoxT×List Fact×Lin×Unit)=(Yb b,fs,l,()):=by
   show((⟨dec (.sl 1 false (List.map enc xs)),b.m⟩:BoxT),(dec (enc fs):List Fact),(dec (enc l):Lin),())=_
   rw[hq2,Enc.dec_enc,Enc.dec_enc];rfl
  have i4:isL (BoxT×List Fact×List Mono×Unit) [.agg [.sl 1 false (List.map enc xs),.int .i64 b.m],.sl 3 false (List.map enc fs),.sl 2 false (List.map enc p)]=true:=by
   show((is (List Str) (.sl 1 false (List.map enc xs))&&true)&&(is (List Fact) (enc fs)&&(is (List Mono) (enc p)&&true)))=true
   rw[hq1,Enc.is_enc,Enc.is_enc];rfl
  have d4:(decL [.agg [.sl 1 false (List.map enc xs),.int .i64 b.m],.sl 3 false (List.map enc fs),.sl 2 false (List.map enc p)]:BoxT×List Fact×List Mono×Unit)=(Yb b,fs,p,()):=by
   show((⟨dec (.sl 1 false (List.map enc xs)),b.m⟩:BoxT),(dec (enc fs):List Fact),(dec (enc p):List Mono),())=_
   rw[hq2,Enc.dec_enc,Enc.dec_enc];rfl
  refine⟨Ze (b,fs,()) rfl hP,Zd (b,fs,()) rfl ⟨by simp,UQ (Yb b,fs,()) i1 d1 hPb,Uz (Yb b,fs,()) d1 ⟨UQ (b,fs,[⟨1,[]⟩],()) i2 d2 sp1,Uz (b,fs,[⟨1,[]⟩],()) d2 (ZN ?_ (ZN ?_ (ZN ?_ (ZN ?_ ?_))))⟩⟩⟩
  ·show ¬ ((YD b fs).1 != (YD (Yb b) fs).1)=true
   rw[QN];simp
  ·show ¬ ((YD b fs).2 != (YD (Yb b) fs).2)=true
   rw[QN];simp
  ·show ¬ ((Z8 b fs [⟨1,[]⟩]).1 != (YD b fs).1)=true
   rw[Cm b fs hb];simp
  ·show ¬ ((Z8 b fs [⟨1,[]⟩]).2 != (YD b fs).2)=true
   rw[Cm b fs hb];simp
  refine⟨Ze (b,fs,l,()) rfl ex,Zd (b,fs,l,()) rfl ⟨by simp,UQ (Yb b,fs,l,()) i3 d3 exb,Uz (Yb b,fs,l,()) d3 ⟨Ze (b,fs,p,()) rfl sp,Zd (b,fs,p,()) rfl ⟨by simp,UQ (Yb b,fs,p,()) i4 d4 spb,Uz (Yb b,fs,p,()) d4 (ZN ?_ (ZN ?_ (ZN ?_ (ZN ?_ ?_))))⟩⟩⟩⟩
  ·show ¬ ((XM lessB b fs l).1 != (XM lessB (Yb b) fs l).1)=true
   rw[QT];simp
  ·show ¬ ((XM lessB b fs l).2 != (XM lessB (Yb b) fs l).2)=true
   rw[QT];simp
  ·show ¬ ((Z8 b fs p).1 != (Z8 (Yb b) fs p).1)=true
   rw[Hr];simp
  ·show ¬ ((Z8 b fs p).2 != (Z8 (Yb b) fs p).2)=true
   rw[Hr];simp
  refine⟨Ze (l,()) rfl hls,Zd (l,()) rfl ⟨Ze (p,(Jq l).1,()) rfl pq,Zd (p,(Jq l).1,()) rfl ⟨Ze (b,fs,(Jq l).1,()) rfl so,Zd (b,fs,(Jq l).1,()) rfl ⟨Ze (b,fs,(Vw p (Jq l).1).1,()) rfl sa,Zd (b,fs,(Vw p (Jq l).1).1,()) rfl ?_⟩⟩⟩⟩
  exact Jk (fun _=>ZM rfl) fun a1=>Jk (fun _=>ZM rfl) fun a2=>Jk (fun _=>ZM rfl) fun a3=>Jk (fun _=>ZM rfl) fun a4=>ZM (hfin (by simpa using a1) (by simpa using a2) (by simpa using a3) (by simpa using a4))
theorem a3a{b:BoxT}{fs:List Fact}{l:Lin}{p:List Mono}(hb:b.v.length<=1000)(hf : ∀ xs:List Str,xs=b.v.reverse->ls0 b fs l p (-1) xs): ∀ (k:Nat) (xs:List Str),k<=b.v.length->xs=(b.v.drop k).reverse->ls0 b fs l p ((k:Int) - 1) xs:=by
 intro k
 induction k with
 | zero=>intro xs _ hxs;exact hf xs hxs
 | succ k ih=>
  intro xs hk hxs
  have hlt:k<b.v.length:=by omega
  have hd:xs++[b.v[k]]=(b.v.drop k).reverse:=by rw[hxs,List.drop_eq_getElem_cons hlt,List.reverse_cons]
  have hl:xs.length<=1000:=by rw[hxs,List.length_reverse,List.length_drop];omega
  have hi:=ih (xs++[b.v[k]]) (by omega) hd
  have e0:((k+1:Nat):Int) - 1=(k:Int):=by omega
  rw[e0]
  have e1:IntKind.i64.wrap ((k:Int) - 1)=(k:Int) - 1:=WN (by omega) (by omega)
  cases xs with
  | nil=>
   refine Br b fs l p k (ZU (by simp) ⟨Zq hlt rfl,ZF hlt ?_⟩)
   rw[e1]
   exact hi
  | cons x r=>
   rw[List.length_cons]at hl
   refine Az b fs l p k (r.length+1) (x::r) (ZU (by simp) ⟨Zq hlt rfl,ZF hlt ⟨?_,?_⟩⟩)
   ·exact Kh (m:=1) (by simp) (by omega) (by omega)
   ·rw[e1]
    exact c0m hi (by simp) (by simp) (by rw[List.map_append];rfl)
theorem ES: ∀ x:BoxT×List Fact×Asked×Unit,(ZW x.1&&YX x.2.1&&KQ x.2.2.1)=true->Zc XK 0 (Za Xf (Zj true)) Xe [] (Yr a5d (encL x)):=by
 rintro⟨b,fs,⟨l,p⟩,⟨⟩⟩ hp
 simp only[Bool.and_eq_true]at hp
 obtain⟨⟨h1,h2⟩,h3⟩:=hp
 refine a8o b fs l p (Zd () rfl (ZN (by simp) ⟨Ze (b,fs,()) rfl (by rw[h1,h2];rfl),Zd (b,fs,()) rfl ?_⟩))
 refine XX (fun _=>ZM rfl) fun hf=> ?_
 have hf:Qi b fs=true:=hf
 obtain⟨h5,h6,hfs,_⟩:=a3j hf
 refine⟨Ze ((⟨l,p⟩:Asked),()) rfl h3,Zd ((⟨l,p⟩:Asked),()) rfl ?_⟩
 refine XX (fun _=>ZM rfl) fun hs=> ?_
 have hs:(QR l 6&&GX p 6)=true:=hs
 rw[Bool.and_eq_true]at hs
 obtain⟨hls,hll⟩:=a1e hs.1 (by decide)
 have hpo:=b9x hs.2 (by decide)
 have:=a3a (b:=b) (fs:=fs) (l:=l) (p:=p) (by omega) (a8m h1 hfs h6 (by omega) hls (by omega) hpo) b.v.length [] (Nat.le_refl _) (by rw[List.drop_length];rfl)
 have e1:IntKind.i64.wrap ((((b.v.map (enc:Str->PV)).length:Nat):Int) - 1)=(b.v.length:Int) - 1:=by rw[List.length_map];exact WN (by omega) (by omega)
 rw[e1]
 exact this
end Go.Pl

namespace Go.Pl
open Go.RowKit
open Enc (enc dec is)
open EncL (encL decL isL)
set_option maxRecDepth 100000
end Go.Pl

namespace Go.Pl
open Go.RowKit
open Enc (enc dec is)
open EncL (encL decL isL)
end Go.Pl

