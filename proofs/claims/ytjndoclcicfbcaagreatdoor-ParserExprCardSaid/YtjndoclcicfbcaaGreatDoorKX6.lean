/-
  Texts of mine that belong together (packed by pack.py), for every input: TyJc, QJb, TyJe, TyJf, TyJg, TyJh, QJn, VwX, TyAk, VwN, QJw.
-/
import Derived.Test.YtjndoclcicfbcaaGreatDoorKX3
import Derived.Test.YtjndoclcicfbcaaGreatDoorKX4
import Derived.Test.YtjndoclcicfbcaaGreatDoorKX5
import Derived.KernelRfl
open Bool renaming and_eq_true->Ig,and_false->Ik,or_eq_true->Iq,true_and->Iz,or_true->IJ,false_and->I7,or_false->aC,false_or->aD
open Go.IntKind renaming i64->Ic
open Go.Pl.PS renaming linear->Im,func->IA,next->IL,oper->IW,name->I6,arB->aF,pass->aI,numM->aL,num->aN,frameN->aP,ranksN->aR
open Go.Pl.RGe renaming step->Ib,need->Ih,num->Ii,exprN->Iy,fromR->I9,func->aT,fail->aU
open Go.Pl.RS renaming size->Il,plain->Ip,func->Ir,take->IB,numM->IE,num->IM,chk->IR,name->IV,endR->IX,itemN->I1,kind->aG,need->aH,con0->aJ,item->aK,oper->aM,con->aO,frameN->aQ,ranksN->aS
open List renaming length->Ie,dropWhile_cons->Iu,drop->Iw,all_eq_true->IG,map->II,take->IK,mem_cons_of_mem->IP,takeWhile_cons->IQ,mem_cons_self->IU,getElem_mem->IZ,nil_append->I4,length_map->I5,all_cons->aB
open Or renaming inl->Cm,inr->Ia
open Prod renaming fst->Ij
set_option linter.unusedVariables false
set_option linter.unusedSimpArgs false
set_option linter.defProp false
namespace Go.Pl
open Go.RowKit
section
def a2r:List (List UInt8):=[[61,61],[33,61],[60],[60,61],[62],[62,61]]
def Vn(o:Int)(s:PS):Prop:=s.bad=true∧s.wr=o∧s.i=s.l.length
def j1z(o:Int)(s:PS):Prop:=s.bad=false∧(s.peek 0).o=o∧(s.peek 0).k=4∧(s.peek 0).t.s∈a2r
def ZL(o:Int)(s:PS):Prop:=Vn o s∨j1z o s
def i6s{α:Type}(m:PS->α×PS):Prop:= ∀ o s,ZL o s->ZL o (m s).2
section
variable {o:Int} {s:PS}
theorem Vn.peek(h:Vn o s):(s.peek 0).k=0:=by rw[Qo (by rw[h.2.2];exact Nat.le_refl _)]
theorem ZL.k1(h:ZL o s):(s.peek 0).k≠1:=by rcases h with h|h;rw[h.peek];decide;rw[h.2.2.1];decide
theorem ZL.k3(h:ZL o s):(s.peek 0).k≠3:=by rcases h with h|h;rw[h.peek];decide;rw[h.2.2.1];decide
theorem ZL.next(h:ZL o s){w:Str}(a:w.s ∉ a2r):s.next w=false:=by
 unfold IL;rcases h with h|h
 ·rw[h.peek];rfl
 ·rw[decide_eq_false (show ¬ (s.peek 0).t=w from λe=>a (by rw[<- e];exact h.2.2.2)),Ik]
theorem ZL.fail(h:ZL o s):Vn o s.fail:=by
 refine⟨rfl,?_,rfl⟩;show(if s.bad then s.wr else(s.peek 0).o)=o;rcases h with h|h
 ·rw[if_pos h.1];exact h.2.1
 ·rw[if_neg (by rw[h.1];decide)];exact h.2.1
theorem ZL.need(h:ZL o s){w:Str}(a:w.s ∉ a2r):Vn o (s.need w):=by unfold PS.need;rw[if_neg (by rw[h.next a];decide)];exact h.fail
theorem ZL.name(h:ZL o s):Vn o s.name.2:=by unfold I6;rw[if_neg h.k1];exact h.fail
theorem ZL.num(h:ZL o s){m:Int}:Vn o (s.num m).2:=by unfold aN;rw[if_neg (λk=>h.k3 k.1)];exact h.fail
theorem Vn.st(h:Vn o s):ZL o s:=Cm h
theorem ZL.func(h:ZL o s):Vn o s.func.2:=by unfold IA;rw[if_neg (by rw[h.name.st.next (by decide)];decide)];exact h.name
theorem ZL.item(h:ZL o s):Vn o s.item.2:=by unfold PS.item;rw[if_neg h.k1,if_neg (λk=>h.num.st.k1 k.1)];exact h.num
theorem ZL.linLoop(h:Vn o s): ∀ (n:Nat) (l:Lin),(linLoop n s l).2=s
 | 0,l=>rfl
 | n+1,l=>by rw[Go.Pl.linLoop,if_pos h.1]
theorem ZL.linear(h:ZL o s):Vn o s.linear.2:=by
 have e:s.lin0.2=s.item.2:=by unfold PS.lin0;rw[if_neg (by rw[h.next (by decide)];decide)]
 have k:Vn o s.lin0.2:=by rw[e];exact h.item
 unfold Im;rw[ZL.linLoop k];exact k
theorem ZL.more{α:Type}{one:PS->α×PS}(h:ZL o s): ∀ (n:Nat) (l:List α),moreL one n s l=(l,s)
 | 0,l=>rfl
 | n+1,l=>by
  rw[moreL];split
  ·rfl
  ·rw[if_neg (by rw[h.next (by decide)];decide)]
theorem ZL.list{α:Type}{one:PS->α×PS}(h1:i6s one)(h:ZL o s):ZL o (listL one s).2:=by unfold listL;rw[(h1 _ _ h).more];exact h1 _ _ h
theorem ZL.numsP(h:ZL o s): ∀ (n:Nat) (l:List Int),numsP n s l=(l,s)
 | 0,l=>rfl
 | n+1,l=>by rw[Go.Pl.numsP,if_neg h.k3]
theorem ZL.datP{o:Int}: ∀ (n:Nat) {s:PS} (l:List Int),ZL o s->ZL o (datP n s l).2
 | 0,s,l,h=>h
 | n+1,s,l,h=>by
  rw[Go.Pl.datP];split
  ·exact h
  ·rw[if_neg (by rw[h.next (by decide)];decide)];have e:s.sgs=s:=if_neg (by rw[h.next (by decide)];decide);rw[e];exact ZL.datP n _ h.num.st
end
structure Sim0 (z:Int) (s:PS) (r:RS):Prop where
 l:r.l=s.l
 i:r.i=s.i
 sz:s.sz=z
 bad:s.bad=false
 rbad:r.bad=false
 hi:s.i<=s.l.length
 lx:Xh s.l=true
structure Sim (z:Int) (tb:Bool) (s:PS) (r:RS):Prop where
 c:Sim0 z s r
 big:s.big=(r.wide||tb)
def off(z:Int)(r:RS):Int:=if r.i<r.l.length then(r.tok 0).o else z
section
variable {z:Int} {s:PS} {r:RS}
theorem Sim0.tok(h:Sim0 z s r){k:Nat}(hi:s.i+k<s.l.length):r.tok k=s.peek k:=by rw[SA hi,J3 (by rw[h.l,h.i];exact hi)];simp only[h.l,h.i]
theorem Sim0.has(h:Sim0 z s r):(r.i<r.l.length)=(s.i<s.l.length):=by rw[h.l,h.i]
theorem Sim0.kind(h:Sim0 z s r){k:Int}(a:k≠0):r.kind k=decide ((s.peek 0).k=k):=by
 unfold aG;rw[h.rbad];by_cases hi:s.i<s.l.length
 ·rw[h.tok hi,decide_eq_true (show r.i<r.l.length by rw[h.has];exact hi)];rfl
 ·rw[decide_eq_false (show ¬ r.i<r.l.length by rw[h.has];exact hi),Qo (by omega)];simp only[I7,Ik];exact(decide_eq_false (λe=>a e.symm)).symm
theorem Sim0.is(h:Sim0 z s r)(w:Str):r.is w=s.next w:=by
 unfold RS.is IL;rw[h.rbad];by_cases hi:s.i<s.l.length
 ·rw[h.tok hi,decide_eq_true (show r.i<r.l.length by rw[h.has];exact hi)];simp only[Bool.not_false,Iz];exact Bool.and_comm _ _
 ·rw[decide_eq_false (show ¬ r.i<r.l.length by rw[h.has];exact hi),Qo (by omega)];rfl
theorem Sim0.line(h:Sim0 z s r):r.line=(s.peek 0).ln:=by
 unfold RS.line;by_cases hi:s.i<s.l.length
 ·rw[if_pos (by rw[h.has];exact hi),h.tok hi]
 ·rw[if_neg (by rw[h.has];exact hi),Qo (by omega)]
theorem Sim0.off(h:Sim0 z s r):off z r=(s.peek 0).o:=by
 unfold Go.Pl.off;by_cases hi:s.i<s.l.length
 ·rw[if_pos (by rw[h.has];exact hi),h.tok hi]
 ·rw[if_neg (by rw[h.has];exact hi),Qo (by omega)];exact h.sz.symm
theorem Sim0.step(h:Sim0 z s r)(hi:s.i<s.l.length):Sim0 z s.step r.step:=⟨h.l,by show r.i+1=s.i+1;rw[h.i],h.sz,h.bad,h.rbad,hi,h.lx⟩
theorem Sim0.fail(h:Sim0 z s r):r.fail.bad=true∧Vn (Go.Pl.off z r.fail) s.fail:=⟨rfl,⟨rfl,by
 show(if s.bad then s.wr else(s.peek 0).o)=Go.Pl.off z r
 rw[if_neg (by rw[h.bad];decide),h.off],rfl⟩⟩
variable {tb:Bool}
theorem Sim.step(h:Sim z tb s r)(hi:s.i<s.l.length):Sim z tb s.step r.step:=⟨h.c.step hi,h.big⟩
theorem Sim.tok(h:Sim z tb s r){k:Nat}(hi:s.i+k<s.l.length):r.tok k=s.peek k:=h.c.tok hi
theorem Sim.kind(h:Sim z tb s r){k:Int}(a:k≠0):r.kind k=decide ((s.peek 0).k=k):=h.c.kind a
theorem Sim.is(h:Sim z tb s r)(w:Str):r.is w=s.next w:=h.c.is w
theorem Sim.line(h:Sim z tb s r):r.line=(s.peek 0).ln:=h.c.line
theorem Sim.fail(h:Sim z tb s r):r.fail.bad=true∧Vn (Go.Pl.off z r.fail) s.fail:=h.c.fail
theorem Sim.bad(h:Sim z tb s r):s.bad=false:=h.c.bad
theorem Sim.lx(h:Sim z tb s r):Xh s.l=true:=h.c.lx
end
def Sb{α β:Type}(K:Int->PS->Prop)(z:Int)(tb:Bool)(S R:α->β->Prop)(x:α×PS)(y:β×RS):Prop:=(Sim z tb x.2 y.2∧S x.1 y.1∧(y.2.wide=false->R x.1 y.1))∨(y.2.bad=true∧K (off z y.2) x.2)
structure Twin {α β:Type} (K:Int->PS->Prop) (S R:α->β->Prop) (m:PS->α×PS) (n:RS->β×RS):Prop where
 sim : ∀ z tb s r,Sim z tb s r->Sb K z tb S R (m s) (n r)
 keep : ∀ o s,ZL o s->K o (m s).2
 stay : ∀ r,r.bad=true->(n r).2=r
 mono : ∀ r,r.wide=true->(n r).2.wide=true
def bP{α β:Type}(m:PS->α×PS)(f:α->PS->β×PS):PS->β×PS:=λs=>f (m s).1 (m s).2
def bR{α β:Type}(m:RS->α×RS)(f:α->RS->β×RS):RS->β×RS:=λs=>f (m s).1 (m s).2
def twP{α β:Type}(φ:α->β)(m:PS->α×PS):PS->β×PS:=λs=>(φ (m s).1,(m s).2)
def twR{α β:Type}(φ:α->β)(m:RS->α×RS):RS->β×RS:=λs=>(φ (m s).1,(m s).2)
def puP{α:Type}(a:α):PS->α×PS:=λs=>(a,s)
def puR{α:Type}(a:α):RS->α×RS:=λs=>(a,s)
def An{α β:Type}(_:α)(_:β):Prop:=True
section
variable {α β α' β':Type} {S R:α->β->Prop} {S' R':α'->β'->Prop} {K:Int->PS->Prop} {z:Int} {tb:Bool}
theorem Sb.imp{g:Int->PS->Prop}{e i:α->β->Prop}{x:α×PS}{y:β×RS}(h:Sb K z tb S R x y)(q : ∀ o s,K o s->g o s)(j : ∀ a b,S a b->e a b)(k : ∀ a b,R a b->i a b):Sb g z tb e i x y:=by
 rcases h with ⟨h1,h2,h3⟩|⟨h1,h2⟩
 ·exact Cm ⟨h1,j _ _ h2,λl=>k _ _ (h3 l)⟩
 ·exact Ia ⟨h1,q _ _ h2⟩
theorem Sb.map{x:α×PS}{y:β×RS}{φ:α->α'}{ψ:β->β'}(h:Sb K z tb S R x y)(e : ∀ a b,S a b->S' (φ a) (ψ b))(g : ∀ a b,R a b->R' (φ a) (ψ b)):Sb K z tb S' R' (φ x.1,x.2) (ψ y.1,y.2):=by
 rcases h with ⟨h1,h2,h3⟩|⟨h1,h2⟩
 ·exact Cm ⟨h1,e _ _ h2,λi=>g _ _ (h3 i)⟩
 ·exact Ia ⟨h1,h2⟩
theorem Twin.imp{m:PS->α×PS}{n:RS->β×RS}{e g:α->β->Prop}(h:Twin K S R m n)(i : ∀ a b,S a b->e a b)(j : ∀ a b,R a b->g a b):Twin K e g m n:=⟨λz tb s r hs=>(h.sim z tb s r hs).imp (λ_ _ h=>h) i j,h.keep,h.stay,h.mono⟩
theorem Twin.st{m:PS->α×PS}{n:RS->β×RS}(h:Twin Vn S R m n):Twin ZL S R m n:=⟨λz tb s r hs=>(h.sim z tb s r hs).imp (λ_ _ h=>h.st) (λ_ _ h=>h) (λ_ _ h=>h),λo s hs=>(h.keep o s hs).st,h.stay,h.mono⟩
theorem Twin.map{m:PS->α×PS}{n:RS->β×RS}{φ:α->α'}{ψ:β->β'}(h:Twin K S R m n)(e : ∀ a b,S a b->S' (φ a) (ψ b))(g : ∀ a b,R a b->R' (φ a) (ψ b)):Twin K S' R' (twP φ m) (twR ψ n):=⟨λz tb s r hs=>(h.sim z tb s r hs).map e g,h.keep,h.stay,h.mono⟩
theorem Sb.bind{x:α×PS}{y:β×RS}{f:α->PS->α'×PS}{g:β->RS->β'×RS}(h:Sb ZL z tb S R x y)(k : ∀ a b,S a b-> ∀ z tb s r,Sim z tb s r->Sb K z tb S' (λx y=>R a b->R' x y) (f a s) (g b r))(B : ∀ a o s,ZL o s->K o (f a s).2)(ks : ∀ b r,r.bad=true->(g b r).2=r)(A : ∀ b r,r.wide=true->(g b r).2.wide=true):Sb K z tb S' R' (f x.1 x.2) (g y.1 y.2):=by
 rcases h with ⟨h1,C,u⟩|⟨hb,j⟩
 ·rcases k _ _ C z tb _ _ h1 with ⟨h2,i,l⟩|h2
  ·refine Cm ⟨h2,i,λq=>l q (u ?_)⟩;cases e:y.2.wide with
   | false=>rfl
   | true=>exact absurd (A y.1 _ e) (by rw[q];decide)
  ·exact Ia h2
 ·have e:(g y.1 y.2).2=y.2:=ks _ _ hb;refine Ia ⟨by rw[e];exact hb,by rw[e];exact B _ _ _ j⟩
theorem Twin.bind{m:PS->α×PS}{n:RS->β×RS}{f:α->PS->α'×PS}{g:β->RS->β'×RS}(h:Twin ZL S R m n)(k : ∀ a b,S a b->Twin K S' (λx y=>R a b->R' x y) (f a) (g b))(l : ∀ a o s,ZL o s->K o (f a s).2)(ks : ∀ b r,r.bad=true->(g b r).2=r)(j : ∀ b r,r.wide=true->(g b r).2.wide=true):Twin K S' R' (bP m f) (bR n g):=by refine⟨λz tb s r hs=>(h.sim z tb s r hs).bind (λa b i=>(k a b i).sim) l ks j,λo s hs=>l _ _ _ (h.keep _ _ hs),λr hr=> ?_,λr hr=>j _ _ (h.mono r hr)⟩;have e:(n r).2=r:=h.stay r hr;show(g (n r).1 (n r).2).2=r;rw[e];exact ks _ _ hr
theorem Twin.bindT{m:PS->α×PS}{n:RS->β×RS}{f:α->PS->α'×PS}{g:β->RS->β'×RS}(e:α)(b0:β)(h:Twin ZL An R m n)(k : ∀ a b,Twin K S' (λx y=>R a b->R' x y) (f a) (g b)):Twin K S' R' (bP m f) (bR n g):=h.bind (λa b _=>k a b) (λa=>(k a b0).keep) (λb=>(k e b).stay) (λb=>(k e b).mono)
theorem Twin.bindE{α:Type}{R:α->α->Prop}{m:PS->α×PS}{n:RS->α×RS}{f:α->PS->α'×PS}{g:α->RS->β'×RS}(h:Twin ZL Eq R m n)(k : ∀ a,Twin K S' R' (f a) (g a)):Twin K S' R' (bP m f) (bR n g):=h.bind (λa b e=>by subst e;exact(k a).imp (λ_ _ h=>h) (λ_ _ h _=>h)) (λa=>(k a).keep) (λb=>(k b).stay) (λb=>(k b).mono)
theorem Twin.pure{a:α}{b:β}(h:S a b)(k:R a b):Twin ZL S R (puP a) (puR b):=⟨λz tb s r hs=>Cm ⟨hs,h,λ_=>k⟩,λo s hs=>hs,λr hr=>rfl,λr hr=>hr⟩
theorem Twin.congr{m g:PS->α×PS}{n a:RS->β×RS}(h:Twin K S R g a)(hm : ∀ s,s.bad=false->m s=g s)(j : ∀ o s,ZL o s->K o (m s).2)(hn : ∀ r,(n r).2=(a r).2∧((n r).2.bad=false->(n r).1=(a r).1)):Twin K S R m n:=by
 refine⟨λz tb s r hs=> ?_,j,λr hr=> ?_,λr hr=> ?_⟩
 ·rw[hm s hs.c.bad];rcases h.sim z tb s r hs with ⟨h1,h2,h3⟩|⟨h1,h2⟩
  ·have e:=(hn r).1;have b:=(hn r).2 (by rw[e];exact h1.c.rbad);exact Cm ⟨by rw[e];exact h1,by rw[b];exact h2,λi=>by rw[b];exact h3 (by rw[<- e];exact i)⟩
  ·have e:=(hn r).1;exact Ia ⟨by rw[e];exact h1,by rw[e];exact h2⟩
 ·rw[(hn r).1];exact h.stay r hr
 ·rw[(hn r).1];exact h.mono r hr
theorem Twin.eq{m b:PS->α×PS}{n a:RS->β×RS}(h:Twin K S R b a)(hm:m=b)(hn:n=a):Twin K S R m n:=by rw[hm,hn];exact h
end
def Qk(w:Str):PS->Unit×PS:=λs=>((),s.need w)
def Uv(w:Str):RS->Unit×RS:=λs=>((),s.need w)
def a4d(w:Str):PS->Bool×PS:=λs=>s.pass w
def Oa(w:Str):RS->Bool×RS:=λs=>s.take w
def f9n(k:Int):PS->Bool×PS:=λs=>(decide ((s.peek 0).k=k),s)
def f4o(k:Int):RS->Bool×RS:=λs=>(s.kind k,s)
def g8z(m:Int):PS->Int×PS:=λs=>s.num m
def e1r(m:Int):RS->Int×RS:=λs=>s.num m
def DY{r:RS}{w:Str}(h:r.bad=true):r.need w=r:=by rw[DW (XA h),PO h]
def YK{w:Str}(a:w.s ∉ a2r):Twin Vn Eq Eq (Qk w) (Uv w):=by
 refine⟨λz tb s r h=> ?_,λo s h=>h.need a,λr h=>DY h,λr h=> ?_⟩
 ·unfold Qk Uv PS.need aH Sb;dsimp only;rw[h.is];cases e:s.next w with
  | true=>exact Cm ⟨h.step (Zt e),rfl,λ_=>rfl⟩
  | false=>exact Ia h.fail
 ·show(r.need w).wide=true;unfold aH;split <;> exact h
def P5{w:Str}(a:w.s ∉ a2r):Twin ZL Eq Eq (a4d w) (Oa w):=by
 refine⟨λz tb s r h=> ?_,λo s h=> ?_,λr h=> ?_,λr h=> ?_⟩
 ·unfold a4d Oa aI IB Sb;rw[h.is];cases e:s.next w with
  | true=>exact Cm ⟨h.step (Zt e),rfl,λ_=>rfl⟩
  | false=>exact Cm ⟨h,rfl,λ_=>rfl⟩
 ·unfold a4d aI;rw[if_neg (by rw[h.next a];decide)];exact h
 ·unfold Oa IB;rw[if_neg (by rw[XA h];decide)]
 ·unfold Oa IB;split <;> exact h
def f0y{k:Int}(a:k≠0):Twin ZL Eq Eq (f9n k) (f4o k):=⟨λz tb s r h=>Cm ⟨h,(h.kind a).symm,λ_=>(h.kind a).symm⟩,λo s h=>h,λr h=>rfl,λr h=>h⟩
def QP:Twin Vn Eq Eq I6 IV:=by
 refine⟨λz tb s r h=> ?_,λo s h=>h.name,λr h=> ?_,λr h=> ?_⟩
 ·unfold I6 IV Sb;rw[h.kind (by decide)];by_cases e:(s.peek 0).k=1
  ·have hi:=Y2 (s:=s) (by omega);rw[if_pos e,if_pos (decide_eq_true e)];have a:(s.peek 0).t=(r.tok 0).t:=by rw[h.tok hi]
   exact Cm ⟨h.step hi,a,λ_=>a⟩
  ·rw[if_neg e,if_neg (by simpa using e)];exact Ia h.fail
 ·unfold IV;rw[if_neg (by rw[YO h];decide)];exact PO h
 ·unfold IV;split <;> exact h
def d6k{s:PS}(h:Xh s.l=true)(a:(s.peek 0).k=3):(XD (s.peek 0).t).2=true:=by
 have hi:=Y2 (s:=s) (by omega);have h3:=IG.1 h _ (IZ (l:=s.l) (n:=s.i+0) hi);rw[<- SA (k:=0) hi]at h3;unfold b7v at h3;simp only[Ig,Iq,decide_eq_true_eq]at h3;rcases h3.2.1 with h|h
 ·exact absurd a h
 ·exact h
def a2c{s:PS}(h:Xh s.l=true)(a:(s.peek 0).k=1):nameI (s.peek 0).t.s=true:=by
 have hi:=Y2 (s:=s) (by omega);have h3:=IG.1 h _ (IZ (l:=s.l) (n:=s.i+0) hi);rw[<- SA (k:=0) hi]at h3;unfold b7v at h3;simp only[Ig,Iq,decide_eq_true_eq]at h3;rcases h3.1 with h|h
 ·exact absurd a h
 ·exact h
def Qu{m:Int}:Twin Vn Eq Eq (g8z m) (e1r m):=by
 refine⟨λz tb s r h=> ?_,λo s h=>h.num,λr h=> ?_,λr h=> ?_⟩
 ·unfold g8z e1r aN IM Sb;rw[h.kind (by decide)];by_cases e:(s.peek 0).k=3
  ·have hi:=Y2 (s:=s) (by omega);rw[if_pos (decide_eq_true e)];have a:(r.tok 0).t=(s.peek 0).t:=by rw[h.tok hi]
   rw[a];by_cases q:(XD (s.peek 0).t).1<=m
   ·rw[if_pos ⟨e,d6k h.lx e,q⟩,if_pos q];exact Cm ⟨h.step hi,rfl,λ_=>rfl⟩
   ·rw[if_neg (λk=>q k.2.2),if_neg q];exact Ia h.fail
  ·rw[if_neg (λk=>e k.1),if_neg (by simpa using e)];exact Ia h.fail
 ·unfold e1r IM;rw[if_neg (by rw[YO h];decide)];exact PO h
 ·unfold e1r IM;split
  ·split <;> exact h
  ·exact h
section
variable {α:Type}
theorem PN{w:Str}(f:Bool->PS->α×PS)(s:PS):bP (a4d w) f s=if s.next w then f true s.step else f false s:=by unfold bP a4d aI;split <;> rfl
theorem PZ{w:Str}(f:Bool->RS->α×RS)(s:RS):bR (Oa w) f s=if s.is w then f true s.step else f false s:=by unfold bR Oa IB;split <;> rfl
theorem h2y{k:Int}(f:Bool->PS->α×PS)(s:PS):bP (f9n k) f s=if (s.peek 0).k=k then f true s else f false s:=by
 unfold bP f9n;by_cases h:(s.peek 0).k=k
 ·rw[if_pos h];simp[h]
 ·rw[if_neg h];simp[h]
theorem h4n{k:Int}(f:Bool->RS->α×RS)(s:RS):bR (f4o k) f s=if s.kind k then f true s else f false s:=by unfold bR f4o;cases s.kind k <;> rfl
end
end
open Enc (enc dec is)
open EncL (encL decL isL)
section
def b1l(e:List UInt8)(ln:Int)(d:List Int)(r:List Int×RS):Tm×RS:=(.mk {Tz 3 ln with elem:=⟨e⟩,dims:=d,data:=r.1} [],r.2.need ⟨[93]⟩)
def j1u(e:List UInt8)(ln:Int)(W:Nat)(r:List Int×RS):Tm×RS:=b1l e ln r.1 (datR (W+1) (r.2.need ⟨[58]⟩) [])
def TW{e:List UInt8}{ln:Int}{d x:List Int}{p q:PV}(h:Zg d p)(k:Zg x q):Zg (Vt (.mk {Tz 3 ln with elem:=⟨e⟩,dims:=d,data:=x} [])) (.agg [.int .i64 3,.int .i64 ln,.str [],.int .i64 0,.str e,p,q,.sl 0 true [],.sl 0 true [],.sl 0 true []]):=Jo (Yn rfl) (Yn rfl) (Yu rfl) (Yn rfl) (Yu rfl) h k Zq Zq Zq
def JL{s:RS}{q:List Int}(h:(s.kind 3||s.is ⟨[45]⟩)=false): ∀ n,datR n s q=(q,s)
 | 0=>rfl
 | n+1=>by rw[datR,if_neg (by rw[h];decide)]
def KT{n:Nat}{s:RS}{q:List Int}(h:s.is ⟨[45]⟩=true):datR (n+1) s q=datR n (s.step.num 2147483648).2 (q++[Ic.wrap (-(s.step.num 2147483648).1)]):=by rw[datR,if_pos (by rw[h];simp),if_pos h]
def Pt{n:Nat}{s:RS}{q:List Int}(h:s.is ⟨[45]⟩=false)(k:s.kind 3=true):datR (n+1) s q=datR n (s.num 2147483648).2 (q++[(s.num 2147483648).1]):=by rw[datR,if_pos (by rw[k];rfl),if_neg (by rw[h];decide)]
def Rb{s:RS}{q:List Int}(h:s.kind 3=false): ∀ n,numsR n s q=(q,s)
 | 0=>rfl
 | n+1=>by rw[numsR,if_neg (by rw[h];decide)]
def c2g{n:Nat}{s:RS}{q:List Int}(h:s.kind 3=true):numsR (n+1) s q=numsR n (s.num 2147483648).2 (q++[(s.num 2147483648).1]):=by rw[numsR,if_pos h]
def RU{s:RS}{m:Int}(h:s.kind 3=true):(s.num m).2.bad=true∨(s.num m).2.i=s.i+1:=by
 unfold IM;rw[if_pos h];split
 ·exact Ia rfl
 ·exact Cm rfl
def Gj{s:RS}{m:Int}:(s.num m).2.bad=true∨(s.num m).2.i=s.i+1:=by
 cases h:s.kind 3 with
 | true=>exact RU h
 | false=>unfold IM;rw[h];exact Cm rfl
def g4q{s:RS}(h:s.bad=true):(s.kind 3||s.is ⟨[45]⟩)=false:=by rw[YO h,XA h];rfl
def d1x(e:List UInt8)(ln:Int)(o:List Int)(L:Nat)(k:L=o.length)(R:List Int×RS): ∀ (n:Nat) (s:RS) (q:List Int) (M:Nat),ZA s=true->M=q.length->(s.bad=true∨(s.l.length<s.i+n∧M<=s.i))->R=datR n s q ->
  At WF 1 (Zl 1 Xk (ZB [] [] (Vt (b1l e ln o R).1) (b1l e ln o R).2)) Xn 1 82 [(0,.ptr 0 0),(4,.ptr 1 0),(5,.ptr 2 0)] [.obj (Zf s),.obj (.box [.pv (.int .i64 0),.pv (.int .i64 0),.pv (.str []),.pv (.int .i64 0),.pv (.str []),.pv (.sl 0 true []),.pv (.sl 0 true []),.pv (.sl 0 true []),.pv (.sl 0 true []),.pv (.sl 0 true [])]),.obj (.box [.pv (.int .i64 3),.pv (.int .i64 ln),.pv (.str []),.pv (.int .i64 0),.pv (.str e),.row 3 L 0 L,.row 4 M 0 M,.pv (.sl 0 true []),.pv (.sl 0 true []),.pv (.sl 0 true [])]),.obj (.row false 3 1 (o.map enc)),.obj (.row false 3 1 (q.map enc))]:=by
 intro n
 induction n with
 | zero=>
  intro s q M hs a hb h;have r:=ZY hs;have hb:s.bad=true:=by
   rcases hb with hb|hb
   ·exact hb
   ·omega
  have u:=g4q hb;rw[JL u]at h;subst h;have k1:s.kind 3=false:=YO hb;have b:s.is ⟨[45]⟩=false:=XA hb;refine d8o s ln e o L q M (VU hs (Z0 (by rw[k1];decide) (a3c hs (Z0 (by rw[b];decide) (YN hs ⟨by simp[k],by simp[a],?_⟩)))));rw[UN o k,UN q a];exact Ze (TW (Ue o rfl) (Ue q rfl))
 | succ n ih=>
  intro s q M hs a hb h;have r:=ZY hs;refine d8o s ln e o L q M (VU hs (Z5 (λh1=>YV hs (λh2=>ZW rfl (V3 ((Ib (Z7 h2)).ok hs) ?_)) λh2=>Z0 (by simp) (V3 hs ?_)) λh1=>a3c hs (Z5 (λh3=>YV hs (λh2=>ZW rfl (V3 ((Ib (Z7 h2)).ok hs) ?_)) λh2=> ?_) λh3=>YN hs ⟨by simp[k],by simp[a],?_⟩)))
  ·rcases hb with hb|hb
   ·rw[XA hb]at h2;cases h2
   have k1:=Ib (Z7 h2);have j:=k1.ok hs;have y:s.step.i=s.i+1:=rfl;have b:=Ii (m:=2147483648) k1.hi;refine⟨by simp[a];omega,?_⟩;rw[show II (enc:Int->PV) q++Iw 0 (IK 1 [PV.int .i64 (Ic.wrap (-(s.step.num 2147483648).1))])=(q++[Ic.wrap (-(s.step.num 2147483648).1)]).map enc from Jq q (Ic.wrap (-(s.step.num 2147483648).1))];refine ih _ _ _ (b.ok j) (by rw[a];simp) ?_ (by rw[h,KT h2]);rcases Gj (s:=s.step) (m:=2147483648)with g|g
   ·exact Cm g
   ·refine Ia ⟨?_,by simp;omega⟩;rw[b.l,k1.l];omega
  ·rcases hb with hb|hb
   ·rw[YO hb]at h1;cases h1
   have b:=Ii (m:=2147483648) r.2;refine⟨by simp[a];omega,?_⟩;rw[Jq q (s.num 2147483648).1];refine ih _ _ _ (b.ok hs) (by rw[a];simp) ?_ (by rw[h,Pt h2 h1]);rcases RU (m:=2147483648) h1 with g|g
   ·exact Cm g
   ·refine Ia ⟨?_,by simp;omega⟩;rw[b.l];omega
  ·rcases hb with hb|hb
   ·rw[XA hb]at h2;cases h2
   have k1:=Ib (Z7 h2);have j:=k1.ok hs;have y:s.step.i=s.i+1:=rfl;have b:=Ii (m:=2147483648) k1.hi;refine⟨by simp[a];omega,?_⟩;rw[show II (enc:Int->PV) q++Iw 0 (IK 1 [PV.int .i64 (Ic.wrap (-(s.step.num 2147483648).1))])=(q++[Ic.wrap (-(s.step.num 2147483648).1)]).map enc from Jq q (Ic.wrap (-(s.step.num 2147483648).1))];refine ih _ _ _ (b.ok j) (by rw[a];simp) ?_ (by rw[h,KT h2]);rcases Gj (s:=s.step) (m:=2147483648)with g|g
   ·exact Cm g
   ·refine Ia ⟨?_,by simp;omega⟩;rw[b.l,k1.l];omega
  ·rw[h3]at h2;cases h2
  ·rw[JL (by rw[h1,h3];rfl)]at h;subst h;rw[UN o k,UN q a];exact Ze (TW (Ue o rfl) (Ue q rfl))
def g3i(e:List UInt8)(ln:Int)(o:List Int)(L:Nat)(j:L=o.length)(R:List Int×RS)(s:RS)(hs:ZA s=true)(h:R=datR (s.l.length+1) s []):
  At WF 1 (Zl 1 Xk (ZB [] [] (Vt (b1l e ln o R).1) (b1l e ln o R).2)) Xn 1 82 [(0,.ptr 0 0),(4,.ptr 1 0),(5,.ptr 2 0)] [.obj (Zf s),.obj (.box [.pv (.int .i64 0),.pv (.int .i64 0),.pv (.str []),.pv (.int .i64 0),.pv (.str []),.pv (.sl 0 true []),.pv (.sl 0 true []),.pv (.sl 0 true []),.pv (.sl 0 true []),.pv (.sl 0 true [])]),.obj (.box [.pv (.int .i64 3),.pv (.int .i64 ln),.pv (.str []),.pv (.int .i64 0),.pv (.str e),.row 3 L 0 L,.pv (.sl 0 true []),.pv (.sl 0 true []),.pv (.sl 0 true []),.pv (.sl 0 true [])]),.obj (.row false 3 1 (o.map enc))]:=by
 have q:=ZY hs;refine h1i s ln e o L (VU hs (Z5 (λh1=>YV hs (λh2=>ZW rfl (V3 ((Ib (Z7 h2)).ok hs) ?_)) λh2=>Z0 (by simp) (V3 hs ?_)) λh1=>a3c hs (Z5 (λh3=>YV hs (λh2=>ZW rfl (V3 ((Ib (Z7 h2)).ok hs) ?_)) λh2=> ?_) λh3=>YN hs ⟨by simp[j],?_⟩)))
 ·have k1:=Ib (Z7 h2);have b:=k1.ok hs;have k:s.step.i=s.i+1:=rfl;have a:=Ii (m:=2147483648) k1.hi;refine d1x e ln o L j R s.l.length _ [Ic.wrap (-(s.step.num 2147483648).1)] 1 (a.ok b) rfl ?_ (by rw[h,KT h2];rfl);rcases Gj (s:=s.step) (m:=2147483648)with g|g
  ·exact Cm g
  ·refine Ia ⟨?_,by omega⟩;rw[a.l,k1.l];omega
 ·have a:=Ii (m:=2147483648) q.2;refine d1x e ln o L j R s.l.length _ [(s.num 2147483648).1] 1 (a.ok hs) rfl ?_ (by rw[h,Pt h2 h1];rfl);rcases RU (m:=2147483648) h1 with g|g
  ·exact Cm g
  ·refine Ia ⟨?_,by omega⟩;rw[a.l];omega
 ·have k1:=Ib (Z7 h2);have b:=k1.ok hs;have k:s.step.i=s.i+1:=rfl;have a:=Ii (m:=2147483648) k1.hi;refine d1x e ln o L j R s.l.length _ [Ic.wrap (-(s.step.num 2147483648).1)] 1 (a.ok b) rfl ?_ (by rw[h,KT h2];rfl);rcases Gj (s:=s.step) (m:=2147483648)with g|g
  ·exact Cm g
  ·refine Ia ⟨?_,by omega⟩;rw[a.l,k1.l];omega
 ·rw[h3]at h2;cases h2
 ·rw[JL (by rw[h1,h3];rfl)]at h;subst h;rw[UN o j];exact Ze (TW (Ue o rfl) Zq)
def c7h(e:List UInt8)(ln:Int)(R:List Int×RS): ∀ (n:Nat) (s:RS) (q:List Int) (M:Nat),ZA s=true->M=q.length->(s.bad=true∨(s.l.length<s.i+n∧M<=s.i))->R=datR n s q ->
  At WF 1 (Zl 1 Xk (ZB [] [] (Vt (b1l e ln [] R).1) (b1l e ln [] R).2)) Xn 1 82 [(0,.ptr 0 0),(4,.ptr 1 0),(5,.ptr 2 0)] [.obj (Zf s),.obj (.box [.pv (.int .i64 0),.pv (.int .i64 0),.pv (.str []),.pv (.int .i64 0),.pv (.str []),.pv (.sl 0 true []),.pv (.sl 0 true []),.pv (.sl 0 true []),.pv (.sl 0 true []),.pv (.sl 0 true [])]),.obj (.box [.pv (.int .i64 3),.pv (.int .i64 ln),.pv (.str []),.pv (.int .i64 0),.pv (.str e),.pv (.sl 0 true []),.row 3 M 0 M,.pv (.sl 0 true []),.pv (.sl 0 true []),.pv (.sl 0 true [])]),.obj (.row false 3 1 (q.map enc))]:=by
 intro n
 induction n with
 | zero=>
  intro s q M hs a hb h;have k:=ZY hs;have hb:s.bad=true:=by
   rcases hb with hb|hb
   ·exact hb
   ·omega
  have r:=g4q hb;rw[JL r]at h;subst h;have k1:s.kind 3=false:=YO hb;have b:s.is ⟨[45]⟩=false:=XA hb;refine e0t s ln e q M (VU hs (Z0 (by rw[k1];decide) (a3c hs (Z0 (by rw[b];decide) (YN hs ⟨by simp[a],?_⟩)))));rw[UN q a];exact Ze (TW Zq (Ue q rfl))
 | succ n ih=>
  intro s q M hs a hb h;have k:=ZY hs;refine e0t s ln e q M (VU hs (Z5 (λh1=>YV hs (λh2=>ZW rfl (V3 ((Ib (Z7 h2)).ok hs) ?_)) λh2=>Z0 (by simp) (V3 hs ?_)) λh1=>a3c hs (Z5 (λh3=>YV hs (λh2=>ZW rfl (V3 ((Ib (Z7 h2)).ok hs) ?_)) λh2=> ?_) λh3=>YN hs ⟨by simp[a],?_⟩)))
  ·rcases hb with hb|hb
   ·rw[XA hb]at h2;cases h2
   have k1:=Ib (Z7 h2);have j:=k1.ok hs;have u:s.step.i=s.i+1:=rfl;have b:=Ii (m:=2147483648) k1.hi;refine⟨by simp[a];omega,?_⟩;rw[show II (enc:Int->PV) q++Iw 0 (IK 1 [PV.int .i64 (Ic.wrap (-(s.step.num 2147483648).1))])=(q++[Ic.wrap (-(s.step.num 2147483648).1)]).map enc from Jq q (Ic.wrap (-(s.step.num 2147483648).1))];refine ih _ _ _ (b.ok j) (by rw[a];simp) ?_ (by rw[h,KT h2]);rcases Gj (s:=s.step) (m:=2147483648)with g|g
   ·exact Cm g
   ·refine Ia ⟨?_,by simp;omega⟩;rw[b.l,k1.l];omega
  ·rcases hb with hb|hb
   ·rw[YO hb]at h1;cases h1
   have b:=Ii (m:=2147483648) k.2;refine⟨by simp[a];omega,?_⟩;rw[Jq q (s.num 2147483648).1];refine ih _ _ _ (b.ok hs) (by rw[a];simp) ?_ (by rw[h,Pt h2 h1]);rcases RU (m:=2147483648) h1 with g|g
   ·exact Cm g
   ·refine Ia ⟨?_,by simp;omega⟩;rw[b.l];omega
  ·rcases hb with hb|hb
   ·rw[XA hb]at h2;cases h2
   have k1:=Ib (Z7 h2);have j:=k1.ok hs;have u:s.step.i=s.i+1:=rfl;have b:=Ii (m:=2147483648) k1.hi;refine⟨by simp[a];omega,?_⟩;rw[show II (enc:Int->PV) q++Iw 0 (IK 1 [PV.int .i64 (Ic.wrap (-(s.step.num 2147483648).1))])=(q++[Ic.wrap (-(s.step.num 2147483648).1)]).map enc from Jq q (Ic.wrap (-(s.step.num 2147483648).1))];refine ih _ _ _ (b.ok j) (by rw[a];simp) ?_ (by rw[h,KT h2]);rcases Gj (s:=s.step) (m:=2147483648)with g|g
   ·exact Cm g
   ·refine Ia ⟨?_,by simp;omega⟩;rw[b.l,k1.l];omega
  ·rw[h3]at h2;cases h2
  ·rw[JL (by rw[h1,h3];rfl)]at h;subst h;rw[UN q a];exact Ze (TW Zq (Ue q rfl))
def i2o(e:List UInt8)(ln:Int)(R:List Int×RS)(s:RS)(hs:ZA s=true)(h:R=datR (s.l.length+1) s []):
  At WF 1 (Zl 1 Xk (ZB [] [] (Vt (b1l e ln [] R).1) (b1l e ln [] R).2)) Xn 1 82 [(0,.ptr 0 0),(4,.ptr 1 0),(5,.ptr 2 0)] [.obj (Zf s),.obj (.box [.pv (.int .i64 0),.pv (.int .i64 0),.pv (.str []),.pv (.int .i64 0),.pv (.str []),.pv (.sl 0 true []),.pv (.sl 0 true []),.pv (.sl 0 true []),.pv (.sl 0 true []),.pv (.sl 0 true [])]),.obj (.box [.pv (.int .i64 3),.pv (.int .i64 ln),.pv (.str []),.pv (.int .i64 0),.pv (.str e),.pv (.sl 0 true []),.pv (.sl 0 true []),.pv (.sl 0 true []),.pv (.sl 0 true []),.pv (.sl 0 true [])])]:=by
 have k:=ZY hs;refine h3d s ln e (VU hs (Z5 (λh1=>YV hs (λh2=>ZW rfl (V3 ((Ib (Z7 h2)).ok hs) ?_)) λh2=>Z0 (by simp) (V3 hs ?_)) λh1=>a3c hs (Z5 (λh3=>YV hs (λh2=>ZW rfl (V3 ((Ib (Z7 h2)).ok hs) ?_)) λh2=> ?_) λh3=>YN hs ?_)))
 ·have k1:=Ib (Z7 h2);have b:=k1.ok hs;have j:s.step.i=s.i+1:=rfl;have a:=Ii (m:=2147483648) k1.hi;refine c7h e ln R s.l.length _ [Ic.wrap (-(s.step.num 2147483648).1)] 1 (a.ok b) rfl ?_ (by rw[h,KT h2];rfl);rcases Gj (s:=s.step) (m:=2147483648)with g|g
  ·exact Cm g
  ·refine Ia ⟨?_,by omega⟩;rw[a.l,k1.l];omega
 ·have a:=Ii (m:=2147483648) k.2;refine c7h e ln R s.l.length _ [(s.num 2147483648).1] 1 (a.ok hs) rfl ?_ (by rw[h,Pt h2 h1];rfl);rcases RU (m:=2147483648) h1 with g|g
  ·exact Cm g
  ·refine Ia ⟨?_,by omega⟩;rw[a.l];omega
 ·have k1:=Ib (Z7 h2);have b:=k1.ok hs;have j:s.step.i=s.i+1:=rfl;have a:=Ii (m:=2147483648) k1.hi;refine c7h e ln R s.l.length _ [Ic.wrap (-(s.step.num 2147483648).1)] 1 (a.ok b) rfl ?_ (by rw[h,KT h2];rfl);rcases Gj (s:=s.step) (m:=2147483648)with g|g
  ·exact Cm g
  ·refine Ia ⟨?_,by omega⟩;rw[a.l,k1.l];omega
 ·rw[h3]at h2;cases h2
 ·rw[JL (by rw[h1,h3];rfl)]at h;subst h;exact Ze (TW Zq Zq)
def i8z(e:List UInt8)(ln:Int)(W:Nat)(R:Tm×RS): ∀ (n:Nat) (s:RS) (o:List Int) (L:Nat),ZA s=true->L=o.length->s.l.length=W->(s.bad=true∨(s.l.length<s.i+n∧L<=s.i))->R=j1u e ln W (numsR n s o) ->
  At WF 1 (Zl 1 Xk (ZB [] [] (Vt R.1) R.2)) Xn 0 82 [(0,.ptr 0 0),(4,.ptr 1 0),(5,.ptr 2 0)] [.obj (Zf s),.obj (.box [.pv (.int .i64 0),.pv (.int .i64 0),.pv (.str []),.pv (.int .i64 0),.pv (.str []),.pv (.sl 0 true []),.pv (.sl 0 true []),.pv (.sl 0 true []),.pv (.sl 0 true []),.pv (.sl 0 true [])]),.obj (.box [.pv (.int .i64 3),.pv (.int .i64 ln),.pv (.str []),.pv (.int .i64 0),.pv (.str e),.row 3 L 0 L,.pv (.sl 0 true []),.pv (.sl 0 true []),.pv (.sl 0 true []),.pv (.sl 0 true [])]),.obj (.row false 3 1 (o.map enc))]:=by
 intro n
 induction n with
 | zero=>
  intro s o L hs b j hb a;have h:=ZY hs;have hb:s.bad=true:=by
   rcases hb with hb|hb
   ·exact hb
   ·omega
  have k1:s.kind 3=false:=YO hb;have k3:=Ih (w:=⟨[58]⟩) h.2;rw[Rb k1]at a;subst a;refine d6j s ln e o L (VU hs (Z0 (by rw[k1];decide) (YN hs ?_)));exact g3i e ln o L b _ _ (k3.ok hs) (by rw[k3.l,j])
 | succ n ih=>
  intro s o L hs b j hb a;have h:=ZY hs;refine d6j s ln e o L (VU hs (Z5 (λh1=>V3 hs ⟨by simp[b];rcases hb with hb|hb;rw[YO hb]at h1;cases h1;omega,?_⟩) λh1=>YN hs ?_))
  ·rcases hb with hb|hb
   ·rw[YO hb]at h1;cases h1
   have k:=Ii (m:=2147483648) h.2;rw[Jq o (s.num 2147483648).1];refine ih _ _ _ (k.ok hs) (by rw[b];simp) (by rw[k.l,j]) ?_ (by rw[a,c2g h1]);rcases RU (m:=2147483648) h1 with g|g
   ·exact Cm g
   ·refine Ia ⟨?_,by simp;omega⟩;rw[k.l];omega
  ·rw[Rb h1]at a;have k3:=Ih (w:=⟨[58]⟩) h.2;subst a;exact g3i e ln o L b _ _ (k3.ok hs) (by rw[k3.l,j])
def i1w(e:List UInt8)(ln:Int)(s:RS)(R:Tm×RS)(hs:ZA s=true)(a:R=j1u e ln s.l.length (numsR (s.l.length+1) s [])):
  At WF 1 (Zl 1 Xk (ZB [] [] (Vt R.1) R.2)) Xn 0 82 [(0,.ptr 0 0),(4,.ptr 1 0),(5,.ptr 2 0)] [.obj (Zf s),.obj (.box [.pv (.int .i64 0),.pv (.int .i64 0),.pv (.str []),.pv (.int .i64 0),.pv (.str []),.pv (.sl 0 true []),.pv (.sl 0 true []),.pv (.sl 0 true []),.pv (.sl 0 true []),.pv (.sl 0 true [])]),.obj (.box [.pv (.int .i64 3),.pv (.int .i64 ln),.pv (.str []),.pv (.int .i64 0),.pv (.str e),.pv (.sl 0 true []),.pv (.sl 0 true []),.pv (.sl 0 true []),.pv (.sl 0 true []),.pv (.sl 0 true [])])]:=by
 have h:=ZY hs;refine h2b s ln e (VU hs (Z5 (λh1=>V3 hs ?_) λh1=>YN hs ?_))
 ·have b:=Ii (m:=2147483648) h.2;refine i8z e ln s.l.length R s.l.length _ [(s.num 2147483648).1] 1 (b.ok hs) rfl (by rw[b.l]) ?_ (by rw[a,c2g h1];rfl);rcases RU (m:=2147483648) h1 with g|g
  ·exact Cm g
  ·refine Ia ⟨?_,by omega⟩;rw[b.l];omega
 ·have k3:=Ih (w:=⟨[58]⟩) h.2;rw[Rb h1]at a;subst a;exact i2o e ln _ _ (k3.ok hs) (by rw[k3.l])
def h6s{s:RS}{w:List UInt8}{xs:List AV}{K:Unit->RS->Prop}(a:xs=(encL s).map AV.pv)(hs:ZA s=true)(h:K () (s.need ⟨w⟩)):Xw Zn Z8 [] [] (λ(s:RS) (_:Str×Unit)=>ZA s) R5 [.ptr 0 0,.pv (.str w)] [.box xs] K:=by subst a;exact YN hs h
def h4p: ∀ (s:RS) (a:Int×Unit),ZA s=true->Zk WF 1 (Zl 1 Xk (ZB [] [] (a8n s a).1 (a8n s a).2)) Xn [] (ZT i5z (Zn a) ([]++[Zf s])):=by
 rintro s ⟨ln,⟨⟩⟩ hs;have g:=ZY hs;show Zk WF 1 (Zl 1 Xk (ZB [] [] (Vt (s.con ln).1) (s.con ln).2)) Xn [] _;have b : ∀ (e:List UInt8) (t:RS),ZA t=true->t.l=s.l->s.con0=t.need ⟨[91]⟩->(s.kind 1&&decide ((s.tok 0).t≠⟨[98]⟩))=false->(if s.kind 1 then Y8 else XR)=e->At WF 1 (Zl 1 Xk (ZB [] [] (Vt (s.con ln).1) (s.con ln).2)) Xn 0 82 [(0,.ptr 0 0),(4,.ptr 1 0),(5,.ptr 2 0)] [.obj (Zf (t.need ⟨[91]⟩)),.obj (.box [.pv (.int .i64 0),.pv (.int .i64 0),.pv (.str []),.pv (.int .i64 0),.pv (.str []),.pv (.sl 0 true []),.pv (.sl 0 true []),.pv (.sl 0 true []),.pv (.sl 0 true []),.pv (.sl 0 true [])]),.obj (.box [.pv (.int .i64 3),.pv (.int .i64 ln),.pv (.str []),.pv (.int .i64 0),.pv (.str e),.pv (.sl 0 true []),.pv (.sl 0 true []),.pv (.sl 0 true []),.pv (.sl 0 true []),.pv (.sl 0 true [])])]:=λe t ht g hc hn h=>by have k1:=Ih (w:=⟨[91]⟩) (ZY ht).2;refine i1w e ln _ (s.con ln) (k1.ok ht) ?_;unfold aO;rw[if_neg (by rw[hn];decide),h];unfold RS.con2 RS.con1;rw[hc,k1.l,g];rfl
 refine j5v s ln (VU hs (Z5 (λh1=> ?_) λh1=>YN hs ?_))
 ·have hi:=V8 h1;have k1:=Ib hi;refine⟨YA hi rfl,Xo hi (Yk (λh2=> ?_) λh2=> ?_)⟩
  ·have h2:(s.l[s.i].t.s==[98])=false:=h2;have h3:s.con ln=(.mk {Tz 3 ln with elem:=⟨XR⟩} [],s.fail):=by
    unfold aO;rw[h1,J3 (k:=0) hi,if_pos];rw[Iz];refine decide_eq_true λe=> ?_
    rw[show s.l[s.i].t=⟨[98]⟩from e]at h2;exact absurd h2 (by decide)
   rw[h3];exact a9i (TW Zq Zq) rfl
  ·have h2:(s.l[s.i].t.s==[98])=true:=h2;refine h6s (Dw hi g.1) (k1.ok hs) (b Y8 s.step (k1.ok hs) rfl ?_ ?_ (by rw[h1];rfl))
   ·unfold aJ;rw[h1];rfl
   ·rw[h1,J3 (k:=0) hi,Iz];refine decide_eq_false λk=>k ?_
    exact congrArg Str.mk (by simpa using h2)
 ·refine b XR s hs rfl ?_ (by rw[h1];rfl) (by rw[h1];rfl);unfold aJ;rw[h1];rfl
def j3k{s:RS}{ln:Int}{K:TS->RS->Prop}(hs:ZA s=true)(h:K (Vt (s.con ln).1) (s.con ln).2):Xw Zn Z8 [] [] (λ(s:RS) (_:Int×Unit)=>ZA s) a8n [.ptr 0 0,.pv (.int .i64 ln)] [Zf s] K:=Ya Zx s (ln,()) rfl rfl hs h
def Gm{N:Nat}{s:RS}(hs:ZA s=true)(a:Wp N s):(ZA s&&decide (Ie (RS.l s) - RS.i s<N))=true:=by have a:Ie (RS.l s) - RS.i s<N:=a;rw[hs,decide_eq_true a];rfl
def CJ{N:Nat}{s:RS}(h:(ZA s&&decide (Ie (RS.l s) - RS.i s<N))=true):ZA s=true∧Wp N s:=by simp only[Ig,decide_eq_true_eq]at h;exact h
def c8k{N:Nat}{s:RS}{K:TS->RS->Prop}(hs:ZA s=true)(a:Wp N s)(h:K (Vt (Y9 N s).1) (Y9 N s).2):Xw Zn Z8 [] [] (λ(s:RS) (_:Unit)=>ZA s&&decide (Ie (RS.l s) - RS.i s<N)) (Qs N) [.ptr 0 0] [Zf s] K:=Ya Zx s () rfl rfl (Gm hs a) h
def i4x{N:Nat}{s:RS}{K:TS->RS->Prop}(hs:ZA s=true)(a:Wp N s)(h:K (Vt (QS N s).1) (QS N s).2):Xw Zn Z8 [] [] (λ(s:RS) (_:Unit)=>ZA s&&decide (Ie (RS.l s) - RS.i s<N)) (OC N) [.ptr 0 0] [Zf s] K:=Ya Zx s () rfl rfl (Gm hs a) h
def i4c{N:Nat}{s:RS}{K:TS->RS->Prop}(hs:ZA s=true)(a:Wp (N+1) s)(h:K (Vt (primR (Y9 N) s).1) (primR (Y9 N) s).2):Xw Zn Z8 [] [] (λ(s:RS) (_:Unit)=>ZA s&&decide (Ie (RS.l s) - RS.i s<N+1)) (TH N) [.ptr 0 0] [Zf s] K:=Ya Zx s () rfl rfl (Gm hs a) h
def c6o{N:Nat}{s:RS}{w:List UInt8}{K:List Tm->RS->Prop}(hs:ZA s=true)(a:Wp N s)(h:K (listR (Y9 N) ⟨w⟩ s).1 (listR (Y9 N) ⟨w⟩ s).2):Xw Zn Z8 [] [] (λ(s:RS) (_:Str×Unit)=>ZA s&&decide (Ie (RS.l s) - RS.i s<N)) (Ct N) [.ptr 0 0,.pv (.str w)] [Zf s] K:=Ya Zx s (⟨w⟩,()) rfl rfl (Gm hs a) h
def i8g{N:Nat}{s:RS}{ln:Int}{K:TS->RS->Prop}(hs:ZA s=true)(a:Wp (N+1) s)(b:s.kind 1=true)(h:K (Vt (callRR (Y9 N) ln s).1) (callRR (Y9 N) ln s).2):Xw Zn Z8 [] [] (λ(s:RS) (_:Int×Unit)=>ZA s&&decide (Ie (RS.l s) - RS.i s<N+1)&&aG s 1) (RN N) [.ptr 0 0,.pv (.int .i64 ln)] [Zf s] K:=Ya Zx s (ln,()) rfl rfl (by rw[Gm hs a,b];rfl) h
def i0h{N:Nat}{s:RS}{ln:Int}{K:TS->RS->Prop}(hs:ZA s=true)(a:Wp (N+1) s)(h:K (Vt (loopR (Y9 N) ln s).1) (loopR (Y9 N) ln s).2):Xw Zn Z8 [] [] (λ(s:RS) (_:Int×Unit)=>ZA s&&decide (Ie (RS.l s) - RS.i s<N+1)) (R6 N) [.ptr 0 0,.pv (.int .i64 ln)] [Zf s] K:=Ya Zx s (ln,()) rfl rfl (Gm hs a) h
def h7w(o:List Tm)(t:Tm):II (enc:Tm->PV) o++Iw 0 (IK 1 [enc (Vt t)])=(o++[t]).map enc:=by rw[FB];exact Jq o t
def f0z(N:Nat)(w:List UInt8)(R:List Tm×RS): ∀ (n:Nat) (s:RS) (o:List Tm) (L:Nat),ZA s=true->Wp N s->s.l.length<s.i+n->L=o.length->L<=s.i+1->R=moreR (Y9 N) n s o ->
  At (a9j N) 1 (Zl 1 Mc (ZB [] [] R.1 (R.2.need ⟨w⟩))) N7 0 20 [(0,.ptr 0 0),(1,.pv (.str w)),(5,.row 1 L 0 L)] [.obj (Zf s),.obj (.row false 29 10 (o.map enc))]:=by
 intro n
 induction n with
 | zero=>intro s o L hs _ hi;have:=ZY hs;omega
 | succ n ih=>
  intro s o L hs k hi g hb e;have hl:=ZY hs;rw[moreR]at e;refine i2j N s w o L (YV hs (λh=>ZW rfl ?_) λh=>Z0 (by simp) (YN hs ⟨by simp[g],?_⟩))
  ·rw[if_pos h]at e;have k1:=Ib (Z7 h);have b:=k1.ok hs;have a:=k.ge k1;have j:=Iy a k1.hi;have e1:=j.le;have e3:s.step.i=s.i+1:=rfl;refine c8k b a ⟨by simp[g];omega,?_⟩;rw[h7w o (Y9 N s.step).1];refine ih _ (o++[(Y9 N s.step).1]) _ (j.ok b) (a.ge j) ?_ (by rw[g];simp) (by simp;omega) e;rw[j.l,k1.l];omega
  ·rw[if_neg (by rw[h];simp)]at e;rw[e,UN o g];exact Ze (ZF (x:=o) rfl)
def h6a(N:Nat): ∀ (s:RS) (a:Str×Unit),(ZA s&&decide (Ie (RS.l s) - RS.i s<N))=true->Zk (a9j N) 1 (Zl 1 Mc (ZB [] [] (Ct N s a).1 (Ct N s a).2)) N7 [] (ZT i2c (Zn a) ([]++[Zf s])):=by rintro s ⟨⟨w⟩,⟨⟩⟩ h;obtain⟨hs,b⟩:=CJ h;have e:=ZY hs;have k1:=Iy b e.2;refine j1l N s w (c8k hs b ?_);rw[show([eS (Vt (Y9 N s).1)]:List PV)=[(Y9 N s).1].map enc from congrArg (λx=>[x]) (FB _)];refine f0z N w (XK (Y9 N) s) (s.l.length+1) _ [(Y9 N s).1] 1 (k1.ok hs) (b.ge k1) ?_ rfl (by omega) rfl;rw[k1.l];omega
def c3h{ex:RS->Tm×RS}{s:RS}(h:(s.need ⟨[40]⟩).is ⟨[41]⟩=true):kidsR ex s=([],(s.need ⟨[40]⟩).step):=if_pos h
def b8f{ex:RS->Tm×RS}{s:RS}(h:(s.need ⟨[40]⟩).is ⟨[41]⟩=false):kidsR ex s=listR ex ⟨[41]⟩ (s.need ⟨[40]⟩):=if_neg (by rw[h];decide)
def e6f{N:Nat}{s:RS}{ln num:Int}{n:List UInt8}{sizes:List Lin}{ranks:List Int}{sz e:PV}(hs:ZA s=true)(g:Wp N s)(h1:Zg sizes sz)(h2:Zg ranks e):Dz (ZB [] [] (Vt (Tm.mk (TY ln num ⟨n⟩ sizes ranks) (kidsR (Y9 N) s).1)) (kidsR (Y9 N) s).2) s N ln n num sz e:=by
 have i:=ZY hs;have k1:=Ih (w:=⟨[40]⟩) i.2;have a:=k1.ok hs;have b:=g.ge k1;refine YN hs (YV a (λh=>Z0 (by simp) ?_) λh=>ZW rfl ?_)
 ·rw[c3h h];exact Ze (Bc h1 h2 Zq)
 ·rw[b8f h];exact c6o a b (Ze (Bc h1 h2 (ZF rfl)))
def Pb{s:RS}(h:s.is ⟨[91]⟩=true):s.sizesN=((XK Il s.step).1,(XK Il s.step).2.need ⟨[93]⟩):=if_pos h
def Ns{s:RS}(h:s.is ⟨[91]⟩=false):s.sizesN=([],s):=if_neg (by rw[h];decide)
def Pg{s:RS}(h:s.is ⟨[123]⟩=true):s.frameN=((s.step.num 2147483648).1,(s.step.num 2147483648).2.need ⟨[125]⟩):=if_pos h
def Nb{s:RS}(h:s.is ⟨[123]⟩=false):s.frameN=(0,s):=if_neg (by rw[h];decide)
def f4m{s:RS}(h:s.is ⟨[64]⟩=true):s.ranksN=((XK IE (s.step.need ⟨[40]⟩)).1,(XK IE (s.step.need ⟨[40]⟩)).2.need ⟨[41]⟩):=if_pos h
def Ps{s:RS}(h:s.is ⟨[64]⟩=false):s.ranksN=([],s):=if_neg (by rw[h];decide)
def EP(ex:RS->Tm×RS)(ln:Int)(n:Str)(num:Int)(sizes:List Lin)(r:List Int×RS):Tm×RS:=(.mk (TY ln num n sizes r.1) (kidsR ex r.2).1,(kidsR ex r.2).2)
def c4b{ex:RS->Tm×RS}{ln:Int}{n:Str}{s:RS}:callR0 ex ln n s=EP ex ln n s.sizesN.2.frameN.1 s.sizesN.1 s.sizesN.2.frameN.2.ranksN:=rfl
def d2i{ex:RS->Tm×RS}{ln num:Int}{n:Str}{e h g a:RS}{z:List Lin}{r:List Int}(i:e.sizesN=(z,h))(b:h.frameN=(num,g))(hr:g.ranksN=(r,a)):callR0 ex ln n e=(.mk (TY ln num n z r) (kidsR ex a).1,(kidsR ex a).2):=by rw[c4b];unfold EP;rw[i];dsimp only;rw[b];dsimp only;rw[hr]
def Gi{N:Nat}{ln num:Int}{n:List UInt8}{b h g a:RS}{z:List Lin}{r:List Int}{sz i:PV}(k:b.sizesN=(z,h))(e:h.frameN=(num,g))(hr:g.ranksN=(r,a))(hs:ZA a=true)(j:Wp N a)(h1:Zg z sz)(h2:Zg r i):Dz (ZB [] [] (Vt (callR0 (Y9 N) ln ⟨n⟩ b).1) (callR0 (Y9 N) ln ⟨n⟩ b).2) a N ln n num sz i:=by rw[d2i k e hr];exact e6f hs j h1 h2
def g0j(N:Nat)(ln num:Int)(w:List UInt8)(k:Nat)(j:Bool)(xs:List PV)(R:Tm×RS)(z:List Lin)(u:Zg z (.sl k j xs))(W:Nat): ∀ (n:Nat) (s:RS) (o:List Int) (L:Nat),ZA s=true->Wp N s->s.l.length<s.i+n->L=o.length->L<=s.i+1 ->
  R=EP (Y9 N) ln ⟨w⟩ num z ((moreR IE n s o).1,(moreR IE n s o).2.need ⟨[41]⟩) ->
  At (AO N) 1 (Zl 1 J5 (ZB [] [] (Vt R.1) R.2)) J6 0 98 [(0,.ptr 0 0),(4,.ptr 1 0),(5,.ptr 2 0)] [.obj (Zf s),.obj (.box [.pv (.int .i64 0),.pv (.int .i64 0),.pv (.str []),.pv (.int .i64 0),.pv (.str []),.pv (.sl 0 true []),.pv (.sl 0 true []),.pv (.sl 0 true []),.pv (.sl 0 true []),.pv (.sl 0 true [])]),.obj (.box [.pv (.int .i64 6),.pv (.int .i64 ln),.pv (.str w),.pv (.int .i64 num),.pv (.str []),.pv (.sl 0 true []),.pv (.sl 0 true []),.pv (.sl k j xs),.row 3 L 0 L,.pv (.sl 0 true [])]),.obj (.row false 3 1 (o.map enc))]:=by
 intro n
 induction n with
 | zero=>intro s o L hs _ hi;have:=ZY hs;omega
 | succ n ih=>
  intro s o L hs r hi e hb g;have y:=ZY hs;rw[moreR]at g;refine i7e N s ln w num k j xs o L (YV hs (λh=>ZW rfl ?_) λh=>Z0 (by simp) (YN hs ?_))
  ·rw[if_pos h]at g;have k1:=Ib (Z7 h);have a:=k1.ok hs;have b:RGe s.step s.step.numM.2:=Ii k1.hi;have e1:=b.le;have e3:s.step.i=s.i+1:=rfl;have e4:s.step.numM.2.i=(s.step.num 2147483648).2.i:=rfl;refine V3 a ⟨by simp[e];omega,?_⟩;rw[Jq o (s.step.num 2147483648).1];refine ih _ (o++[s.step.numM.1]) _ (b.ok a) (r.ge (k1.trans b)) ?_ (by rw[e];simp) (by simp;omega) g;rw[show(s.step.num 2147483648).2.l=s.step.l from b.l,k1.l];show s.l.length<s.step.numM.2.i+n;omega
  ·rw[if_neg (by rw[h];simp)]at g;subst g;have k1:=Ih (w:=⟨[41]⟩) y.2;have a:=k1.ok hs;have q:=r.ge k1;have b:=Ih (w:=⟨[40]⟩) k1.hi;refine YN a (YV (b.ok a) (λh=>Z0 (by simp) ⟨by simp[e],?_⟩) λh=>ZW rfl (c6o (b.ok a) (q.ge b) ⟨by simp[e],?_⟩))
   ·rw[UN o e];unfold EP;dsimp only;rw[c3h h];exact Ze (Bc u (Ue o rfl) Zq)
   ·rw[UN o e];unfold EP;dsimp only;rw[b8f h];exact Ze (Bc u (Ue o rfl) (ZF rfl))
def SS{N:Nat}{ln num:Int}{w:List UInt8}{k:Nat}{b:Bool}{xs:List PV}{z:List Lin}{e g a:RS}(u:Zg z (.sl k b xs))(hs:ZA a=true)(j:Wp N a)(q:e.sizesN=(z,g))(r:g.frameN=(num,a))(h:a.is ⟨[64]⟩=true):
  At (AO N) 1 (Zl 1 J5 (ZB [] [] (Vt (callR0 (Y9 N) ln ⟨w⟩ e).1) (callR0 (Y9 N) ln ⟨w⟩ e).2)) J6 0 98 [(0,.ptr 0 0),(4,.ptr 1 0),(5,.ptr 2 0)] [.obj (Zf ((a.step.need ⟨[40]⟩).num 2147483648).2),.obj (.box [.pv (.int .i64 0),.pv (.int .i64 0),.pv (.str []),.pv (.int .i64 0),.pv (.str []),.pv (.sl 0 true []),.pv (.sl 0 true []),.pv (.sl 0 true []),.pv (.sl 0 true []),.pv (.sl 0 true [])]),.obj (.box [.pv (.int .i64 6),.pv (.int .i64 ln),.pv (.str w),.pv (.int .i64 num),.pv (.str []),.pv (.sl 0 true []),.pv (.sl 0 true []),.pv (.sl k b xs),.row 3 1 0 1,.pv (.sl 0 true [])]),.obj (.row false 3 1 [enc ((a.step.need ⟨[40]⟩).num 2147483648).1])]:=by
 have k1:=Ib (Z7 h);have i:=Ih (w:=⟨[40]⟩) k1.hi;have k3:=Ii (m:=2147483648) i.hi;have K:=k1.trans (i.trans k3);refine g0j N ln num w k b xs _ z u 0 ((a.step.need ⟨[40]⟩).l.length+1) _ [((a.step.need ⟨[40]⟩).num 2147483648).1] 1 (K.ok hs) (j.ge K) ?_ rfl (by omega) ?_
 ·rw[k3.l];omega
 ·rw[c4b,q];dsimp only;rw[r];dsimp only;rw[f4m h];rfl
def i5e{N:Nat}{s:RS}{ln:Int}{n:List UInt8}(hs:ZA s=true)(k:Wp N s):Oh (ZB [] [] (Vt (callR0 (Y9 N) ln ⟨n⟩ s).1) (callR0 (Y9 N) ln ⟨n⟩ s).2) s N ln n:=by
 have hl:=ZY hs;refine YV hs (λh=>ZW rfl ?_) λh=>Z0 (by simp) ?_
 ·have k1:=Ib (Z7 h);have y:=k1.ok hs;have B:=RGe.sizes k1.hi;have z:=B.ok y;have k3:=Ih (w:=⟨[93]⟩) B.hi;have e:=k3.ok z;have C:=k1.trans (B.trans k3);refine g5u y (YN z (YV e (λh2=>ZW rfl ?_) λh2=>Z0 (by simp) ?_))
  ·have q:=Ib (Z7 h2);have i:=q.ok e;have l:=Ii (m:=2147483648) q.hi;have j:=l.ok i;have A:=Ih (w:=⟨[125]⟩) l.hi;have b:=A.ok j;have u:=C.trans (q.trans (l.trans A));refine V3 i (YN j (YV b (λh3=>ZW rfl ?_) λh3=>Z0 (by simp) ?_))
   ·have g:=Ib (Z7 h3);have a:=g.ok b;have r:=Ih (w:=⟨[40]⟩) g.hi;exact YN a (V3 (r.ok a) (SS (ZF rfl) b (k.ge u) (Pb h) (Pg h2) h3))
   ·exact Gi (Pb h) (Pg h2) (Ps h3) b (k.ge u) (ZF rfl) Zq
  ·refine YV e (λh3=>ZW rfl ?_) λh3=>Z0 (by simp) ?_
   ·have g:=Ib (Z7 h3);have a:=g.ok e;have r:=Ih (w:=⟨[40]⟩) g.hi;exact YN a (V3 (r.ok a) (SS (ZF rfl) e (k.ge C) (Pb h) (Nb h2) h3))
   ·exact Gi (Pb h) (Nb h2) (Ps h3) e (k.ge C) (ZF rfl) Zq
 ·refine YV hs (λh2=>ZW rfl ?_) λh2=>Z0 (by simp) ?_
  ·have q:=Ib (Z7 h2);have i:=q.ok hs;have l:=Ii (m:=2147483648) q.hi;have j:=l.ok i;have A:=Ih (w:=⟨[125]⟩) l.hi;have b:=A.ok j;have u:=q.trans (l.trans A);refine V3 i (YN j (YV b (λh3=>ZW rfl ?_) λh3=>Z0 (by simp) ?_))
   ·have g:=Ib (Z7 h3);have a:=g.ok b;have r:=Ih (w:=⟨[40]⟩) g.hi;exact YN a (V3 (r.ok a) (SS Zq b (k.ge u) (Ns h) (Pg h2) h3))
   ·exact Gi (Ns h) (Pg h2) (Ps h3) b (k.ge u) Zq Zq
  ·refine YV hs (λh3=>ZW rfl ?_) λh3=>Z0 (by simp) ?_
   ·have g:=Ib (Z7 h3);have a:=g.ok hs;have r:=Ih (w:=⟨[40]⟩) g.hi;exact YN a (V3 (r.ok a) (SS Zq hs k (Ns h) (Nb h2) h3))
   ·exact Gi (Ns h) (Nb h2) (Ps h3) hs k Zq Zq
def g1t{ex:RS->Tm×RS}{ln:Int}{s:RS}(h:s.func.2.plain s.func.1=false):callRR ex ln s=callR0 ex ln s.func.1 s.func.2:=if_neg (by rw[h];decide)
def e1u{ex:RS->Tm×RS}{ln:Int}{s:RS}(h:s.func.2.plain s.func.1=true):callRR ex ln s=(.mk (V7 1 ln s.func.1) [],s.func.2):=if_pos h
def h2a(N:Nat): ∀ (s:RS) (a:Int×Unit),(ZA s&&decide (Ie (RS.l s) - RS.i s<N+1)&&aG s 1)=true->Zk (AO N) 1 (Zl 1 J5 (ZB [] [] (RN N s a).1 (RN N s a).2)) J6 [] (ZT i5m (Zn a) ([]++[Zf s])):=by
 rintro s ⟨ln,⟨⟩⟩ h;obtain⟨h,z⟩:=(Ig _ _▸h:_∧_)
 obtain⟨hs,D⟩:=CJ h;have hl:=ZY hs;have hi:=V8 z;have C:=Ib hi;have h1:=RGe.func1 z;have k1:=C.trans h1;have b:=k1.ok hs;have hl1:=ZY b;have r:Wp N s.func.2:=(D.step hi).ge h1;have hp:1<=s.func.2.i:=by have:=h1.le;have e3:s.step.i=s.i+1:=rfl;omega
 show Zk (AO N) 1 (Zl 1 J5 (ZB [] [] (Vt (callRR (Y9 N) ln s).1) (callRR (Y9 N) ln s).2)) J6 [] _;have go:s.func.2.plain s.func.1=false->Oh (ZB [] [] (Vt (callRR (Y9 N) ln s).1) (callRR (Y9 N) ln s).2) s.func.2 N ln s.func.1.s:=λe=>by rw[g1t e];exact i5e b r
 refine j5s N s ln (d4v hs (Yk (λhb=> ?_) λhb=>go (by unfold Ip;rw[hb];rfl)));have B:Ic.wrap ((s.func.2.i:Int) - 1)=((s.func.2.i - 1:Nat):Int):=by rw[Xd (by omega) (by omega)];omega
 have y:s.func.2.i - 1<s.func.2.l.length:=by omega
 have A:s.func.2.l.getD (s.func.2.i - 1) ⟨0,⟨[]⟩,0,0⟩=s.func.2.l[s.func.2.i - 1]:=by rw[List.getD_eq_getElem?_getD,List.getElem?_eq_getElem y];rfl
 rw[B];refine⟨YA y rfl,Xo y (Z9 (λg=>a3c b (Yk (λj=>a3c b (Yk (λq=>a3c b (Yk (λu=>a3c b (Yk (λk=> ?_) λk=>go ?_)) λu=>go ?_)) λq=>go ?_)) λj=>go ?_)) λg=>go ?_)⟩
 ·have g:s.func.2.l[s.func.2.i - 1].t.s=s.func.1.s:=g;rw[e1u (by unfold Ip;rw[hb,A,decide_eq_true (show s.func.2.l[s.func.2.i - 1].t=s.func.1 from congrArg Str.mk g),j,q,u,k];rfl)];exact Ze (Jo (Yn rfl) (Yn rfl) (Yu rfl) (Yn rfl) (Yu rfl) Zq Zq Zq Zq Zq)
 ·unfold Ip;rw[k];simp
 ·unfold Ip;rw[u];simp
 ·unfold Ip;rw[q];simp
 ·unfold Ip;rw[j];simp
 ·have g:s.func.2.l[s.func.2.i - 1].t.s≠s.func.1.s:=g;unfold Ip;rw[A,decide_eq_false (show ¬ s.func.2.l[s.func.2.i - 1].t=s.func.1 from λe=>g (congrArg Str.s e))];simp
def d9j{c ln:Int}{w:List UInt8}{ts:List Tm}{p:PV}(h:Zg ts p):Zg (Vt (.mk (V7 c ln ⟨w⟩) ts)) (.agg [.int .i64 c,.int .i64 ln,.str w,.int .i64 0,.str [],.sl 0 true [],.sl 0 true [],.sl 0 true [],.sl 0 true [],p]):=Jo (Yn rfl) (Yn rfl) (Yu rfl) (Yn rfl) (Yu rfl) Zq Zq Zq Zq h
def Ms{ex:RS->Tm×RS}{s:RS}{o:List Tm}(h:s.bad=true): ∀ k,foldK ex k s o=(o,s)
 | 0=>rfl
 | k+1=>by rw[foldK,if_pos h]
def c2i{ex:RS->Tm×RS}{k:Nat}{s:RS}{o:List Tm}(h:s.bad=false):foldK ex (k+1) s o=foldK ex k (ex (s.need ⟨[44]⟩)).2 (o++[(ex (s.need ⟨[44]⟩)).1]):=by rw[foldK,if_neg (by rw[h];decide)]
def d8z(c ln:Int)(w:Str)(b:List Tm×RS):Tm×RS:=(.mk (V7 c ln w) b.1,b.2.need ⟨[41]⟩)
def i0u(N:Nat)(ln c K:Int)(w:List UInt8)(R:Tm×RS): ∀ (n:Nat) (s:RS) (o:List Tm) (L:Nat) (i:Int),ZA s=true->Wp N s->L=o.length->L<=10->0<=i->i+n=K->K<=10->L+n<=10->R=d8z c ln ⟨w⟩ (foldK (Y9 N) n s o) ->
  At (Aq N) 1 (Zl 1 Hl (ZB [] [] (Vt R.1) R.2)) Ha 0 45 [(0,.ptr 0 0),(4,.ptr 1 0),(5,.ptr 2 0),(6,.pv (.int .i64 K)),(7,.pv (.int .i64 i))] [.obj (Zf s),.obj (.box [.pv (.int .i64 0),.pv (.int .i64 0),.pv (.str []),.pv (.int .i64 0),.pv (.str []),.pv (.sl 0 true []),.pv (.sl 0 true []),.pv (.sl 0 true []),.pv (.sl 0 true []),.pv (.sl 0 true [])]),.obj (.box [.pv (.int .i64 c),.pv (.int .i64 ln),.pv (.str w),.pv (.int .i64 0),.pv (.str []),.pv (.sl 0 true []),.pv (.sl 0 true []),.pv (.sl 0 true []),.pv (.sl 0 true []),.row 3 L 0 L]),.obj (.row false 29 10 (o.map enc))]:=by
 intro n
 induction n with
 | zero=>intro s o L i hs k a j hi l h hn e;subst e;refine d9s N s ln w c K i o L (Z0 (by simp;omega) (YN hs ⟨by simp[a],?_⟩));rw[UN o a];exact Ze (d9j (Ue o rfl))
 | succ n ih=>
  intro s o L i hs k a j hi l h hn e;have r:=ZY hs;refine d9s N s ln w c K i o L (ZW (by simp;omega) (Yk (λhb=>YN hs ?_) λhb=>YN hs ⟨by simp[a],?_⟩))
  ·rw[c2i hb]at e;have k1:=Ih (w:=⟨[44]⟩) r.2;have g:=k1.ok hs;have b:=k.ge k1;have q:=Iy b k1.hi;refine c8k g b ⟨by simp[a];omega,?_⟩;rw[h7w o (Y9 N (s.need ⟨[44]⟩)).1,show Ic.wrap (i+1)=i+1 from Xd (by omega) (by omega)];exact ih _ _ _ _ (q.ok g) (b.ge q) (by rw[a];simp) (by simp;omega) (by omega) (by push_cast at l;omega) h (by simp;omega) e
  ·rw[Ms hb]at e;subst e;rw[UN o a];exact Ze (d9j (Ue o rfl))
def g0w(N:Nat)(ln c K:Int)(w:List UInt8)(R:Tm×RS)(n:Nat)(s:RS)(hs:ZA s=true)(j:Wp N s)(hK:(n:Int)+1=K)(hK2:K<=9)(g:R=d8z c ln ⟨w⟩ (foldK (Y9 N) (n+1) s [])):
  At (Aq N) 1 (Zl 1 Hl (ZB [] [] (Vt R.1) R.2)) Ha 0 45 [(0,.ptr 0 0),(4,.ptr 1 0),(5,.ptr 2 0),(6,.pv (.int .i64 K)),(7,.pv (.int .i64 0))] [.obj (Zf s),.obj (.box [.pv (.int .i64 0),.pv (.int .i64 0),.pv (.str []),.pv (.int .i64 0),.pv (.str []),.pv (.sl 0 true []),.pv (.sl 0 true []),.pv (.sl 0 true []),.pv (.sl 0 true []),.pv (.sl 0 true [])]),.obj (.box [.pv (.int .i64 c),.pv (.int .i64 ln),.pv (.str w),.pv (.int .i64 0),.pv (.str []),.pv (.sl 0 true []),.pv (.sl 0 true []),.pv (.sl 0 true []),.pv (.sl 0 true []),.pv (.sl 0 true [])])]:=by
 have i:=ZY hs;refine d6v N s ln w c K 0 (ZW (by simp;omega) (Yk (λhb=>YN hs ?_) λhb=>YN hs ?_))
 ·rw[c2i hb]at g;have k1:=Ih (w:=⟨[44]⟩) i.2;have b:=k1.ok hs;have a:=j.ge k1;have h:=Iy a k1.hi;refine c8k b a ?_;have e:([eS (Vt (Y9 N (s.need ⟨[44]⟩)).1)]:List PV)=[(Y9 N (s.need ⟨[44]⟩)).1].map enc:=congrArg (λx=>[x]) (FB _);rw[e];exact i0u N ln c K w R n _ [(Y9 N (s.need ⟨[44]⟩)).1] 1 1 (h.ok b) (a.ge h) rfl (by omega) (by omega) (by omega) (by omega) (by omega) g
 ·rw[Ms hb]at g;subst g;exact Ze (d9j Zq)
def g9w{ex:RS->Tm×RS}{ln:Int}{s:RS}(h:s.is ⟨[102,111,108,100]⟩=true):loopR ex ln s=d8z 8 ln (s.step.need ⟨[40]⟩).func.1 (foldK ex 2 (s.step.need ⟨[40]⟩).func.2 []):=if_pos h
def h4b{ex:RS->Tm×RS}{ln:Int}{s:RS}(h:s.is ⟨[102,111,108,100]⟩=false):loopR ex ln s=d8z 9 ln ((s.need ⟨[115,99,97,110]⟩).need ⟨[40]⟩).func.1 (foldK ex 1 ((s.need ⟨[115,99,97,110]⟩).need ⟨[40]⟩).func.2 []):=if_neg (by rw[h];decide)
def g8v(N:Nat): ∀ (s:RS) (a:Int×Unit),(ZA s&&decide (Ie (RS.l s) - RS.i s<N+1))=true->Zk (Aq N) 1 (Zl 1 Hl (ZB [] [] (R6 N s a).1 (R6 N s a).2)) Ha [] (ZT h9w (Zn a) ([]++[Zf s])):=by
 rintro s ⟨ln,⟨⟩⟩ h;obtain⟨hs,u⟩:=CJ h;have A:=ZY hs;show Zk (Aq N) 1 (Zl 1 Hl (ZB [] [] (Vt (loopR (Y9 N) ln s).1) (loopR (Y9 N) ln s).2)) Ha [] _;refine j2l N s ln (YV hs (λh=>Z0 (by simp) ?_) λh=>ZW rfl ?_)
 ·have k1:=Ib (Z7 h);have b:=k1.ok hs;have e:=Ih (w:=⟨[40]⟩) k1.hi;have k3:=aT e.hi;rw[g9w h];exact YN b (d4v (e.ok b) (g0w N ln 8 2 _ _ 1 _ (k3.ok (e.ok b)) ((u.step (Z7 h)).ge (e.trans k3)) (by omega) (by omega) rfl))
 ·rw[h4b h];have k1:=Ih (w:=⟨[115,99,97,110]⟩) A.2;have b:=k1.ok hs;have e:=Ih (w:=⟨[40]⟩) k1.hi;have j:=e.ok b;have k3:=aT e.hi;have g:=k3.ok j;refine YN hs (YN b (d4v j ?_));cases k:s.is ⟨[115,99,97,110]⟩with
  | true=>
   have q:Wp N (s.need ⟨[115,99,97,110]⟩):=by rw[show s.need ⟨[115,99,97,110]⟩=s.step from if_pos k];exact u.step (Z7 k)
   exact g0w N ln 9 1 _ _ 0 _ g (q.ge (e.trans k3)) (by omega) (by omega) rfl
  | false=>
   have y:s.need ⟨[115,99,97,110]⟩=s.fail:=DW k;have z:s.fail.need ⟨[40]⟩=s.fail:=DY rfl;have B:s.fail.name=(⟨[]⟩,s.fail):=if_neg (by rw[YO (show s.fail.bad=true from rfl)];decide);have r:s.fail.func=(⟨[]⟩,s.fail):=by unfold Ir;rw[B];exact if_neg (by rw[XA (show s.fail.bad=true from rfl)];decide)
   rw[y,z,r]at g;rw[y,z,r];dsimp only;rw[Ms (show s.fail.bad=true from rfl)];refine d6v N s.fail ln [] 9 1 0 (ZW (by decide) (Z0 (by simp[RS.fail]) (YN g ?_)));exact Ze (d9j Zq)
def g9a{ex:RS->Tm×RS}{s:RS}(h:s.kind 3=true):primR ex s=(.mk {V7 2 s.line ⟨XR⟩with num:=(s.num 2147483647).1} [],(s.num 2147483647).2):=if_pos h
section
variable {ex:RS->Tm×RS} {s:RS} (h1:s.kind 3=false)
include h1
theorem f3h(h:s.is ⟨[116,114,117,101]⟩=true):primR ex s=(.mk {V7 2 s.line ⟨Y8⟩with num:=1} [],s.step):=(if_neg (by rw[h1];decide)).trans (if_pos h)
variable (h2:s.is ⟨[116,114,117,101]⟩=false)
include h2
theorem e3x(h:s.is ⟨[102,97,108,115,101]⟩=true):primR ex s=(.mk (V7 2 s.line ⟨Y8⟩) [],s.step):=(if_neg (by rw[h1];decide)).trans ((if_neg (by rw[h2];decide)).trans (if_pos h))
variable (h3:s.is ⟨[102,97,108,115,101]⟩=false)
include h3
theorem f5l(h:s.kind 1=true):primR ex s=callRR ex s.line s:=(if_neg (by rw[h1];decide)).trans ((if_neg (by rw[h2];decide)).trans ((if_neg (by rw[h3];decide)).trans (if_pos h)))
variable (h4:s.kind 1=false)
include h4
theorem g6q(h:s.is ⟨[40]⟩=true):primR ex s=((ex s.step).1,(ex s.step).2.need ⟨[41]⟩):=(if_neg (by rw[h1];decide)).trans ((if_neg (by rw[h2];decide)).trans ((if_neg (by rw[h3];decide)).trans ((if_neg (by rw[h4];decide)).trans (if_pos h))))
variable (h5:s.is ⟨[40]⟩=false)
include h5
theorem g9m(h:s.is ⟨[91]⟩=true):primR ex s=(.mk (Tz 7 s.line) (listR ex ⟨[93]⟩ s.step).1,(listR ex ⟨[93]⟩ s.step).2):=(if_neg (by rw[h1];decide)).trans ((if_neg (by rw[h2];decide)).trans ((if_neg (by rw[h3];decide)).trans ((if_neg (by rw[h4];decide)).trans ((if_neg (by rw[h5];decide)).trans (if_pos h)))))
variable (h6:s.is ⟨[91]⟩=false)
include h6
theorem h3e(h:s.is ⟨[35]⟩=true):primR ex s=s.step.con s.line:=(if_neg (by rw[h1];decide)).trans ((if_neg (by rw[h2];decide)).trans ((if_neg (by rw[h3];decide)).trans ((if_neg (by rw[h4];decide)).trans ((if_neg (by rw[h5];decide)).trans ((if_neg (by rw[h6];decide)).trans (if_pos h))))))
variable (h7:s.is ⟨[35]⟩=false)
include h7
theorem f6w(h:s.is ⟨[115,105,122,101]⟩=true):primR ex s=sizeR0 s.line s.step:=(if_neg (by rw[h1];decide)).trans ((if_neg (by rw[h2];decide)).trans ((if_neg (by rw[h3];decide)).trans ((if_neg (by rw[h4];decide)).trans ((if_neg (by rw[h5];decide)).trans ((if_neg (by rw[h6];decide)).trans ((if_neg (by rw[h7];decide)).trans (if_pos h)))))))
variable (h8:s.is ⟨[115,105,122,101]⟩=false)
include h8
theorem f0v:primR ex s=loopR ex s.line s:=(if_neg (by rw[h1];decide)).trans ((if_neg (by rw[h2];decide)).trans ((if_neg (by rw[h3];decide)).trans ((if_neg (by rw[h4];decide)).trans ((if_neg (by rw[h5];decide)).trans ((if_neg (by rw[h6];decide)).trans ((if_neg (by rw[h7];decide)).trans (if_neg (by rw[h8];decide))))))))
end
set_option maxHeartbeats 2000000 in
def h4s(N:Nat): ∀ (s:RS) (a:Unit),(ZA s&&decide (Ie (RS.l s) - RS.i s<N+1))=true->Zk (f8v N) 1 (Zl 1 c9w (ZB [] [] (TH N s a).1 (TH N s a).2)) c9m [] (ZT i7u (Zn a) ([]++[Zf s])):=by
 rintro s ⟨⟩ h;obtain⟨hs,A⟩:=CJ h;have hl:=ZY hs;show Zk (f8v N) 1 (Zl 1 c9w (ZB [] [] (Vt (primR (Y9 N) s).1) (primR (Y9 N) s).2)) c9m [] _;refine j3z N s (a9x hs (VU hs (Z5 (λb=>V3 hs ?_) λb=>YV hs (λe=>ZW rfl ?_) λe=>Z0 (by simp) (YV hs (λg=>ZW rfl ?_) λg=>Z0 (by simp) (VU hs (Z5 (λj=>i8g hs A j ?_) λj=>YV hs (λk=>ZW rfl ?_) λk=>Z0 (by simp) (YV hs (λq=>ZW rfl ?_) λq=>Z0 (by simp) (YV hs (λu=>ZW rfl ?_) λu=>Z0 (by simp) (YV hs (λB=>ZW rfl ?_) λB=>Z0 (by simp) (i0h hs A ?_))))))))))
 ·rw[g9a b];exact Ze (Nj Zq)
 ·rw[f3h b e];exact Ze (Nj Zq)
 ·rw[e3x b e g];exact Ze (Nj Zq)
 ·rw[f5l b e g j];exact Ze (Sd _)
 ·have hi:=Z7 k;have k1:=Ib hi;have C:=A.step hi;have z:=Iy C k1.hi;rw[g6q b e g j k];exact c8k (k1.ok hs) C (YN (z.ok (k1.ok hs)) (Ze (Sd _)))
 ·have hi:=Z7 q;have k1:=Ib hi;have C:=A.step hi;rw[g9m b e g j k q];exact c6o (k1.ok hs) C (Ze (Jo (Yn rfl) (Yn rfl) (Yu rfl) (Yn rfl) (Yu rfl) Zq Zq Zq Zq (ZF rfl)))
 ·have k1:=Ib (Z7 u);rw[h3e b e g j k q u];exact j3k (k1.ok hs) (Ze (Sd _))
 ·have k1:=Ib (Z7 B);have r:=k1.ok hs;have z:=Ih (w:=⟨[91]⟩) k1.hi;have y:=z.ok r;have k3:=RGe.size z.hi;have D:=k3.ok y;rw[f6w b e g j k q u B];exact YN r (d5f y (YN D (Ze (Jo (Yn rfl) (Yn rfl) (Yu rfl) (Yn rfl) (Yu rfl) Zq Zq (ZF (x:=[(s.step.need ⟨[91]⟩).size.1]) rfl) Zq Zq))))
 ·rw[f0v b e g j k q u B];exact Ze (Sd _)
def h1j(N:Nat): ∀ (s:RS) (a:Unit),(ZA s&&decide (Ie (RS.l s) - RS.i s<N+1))=true->Zk (g2k N) 1 (Zl 1 c8h (ZB [] [] (OC (N+1) s a).1 (OC (N+1) s a).2)) d1w [] (ZT i8a (Zn a) ([]++[Zf s])):=by
 rintro s ⟨⟩ h;obtain⟨hs,g⟩:=CJ h;have hl:=ZY hs;show Zk (g2k N) 1 (Zl 1 c8h (ZB [] [] (Vt (QS (N+1) s).1) (QS (N+1) s).2)) d1w [] _;rw[c2l];refine j2p N s (a9x hs (YV hs (λb=>ZW rfl (VU ((Ib (Z7 b)).ok hs) (Z5 (λj=>V3 ((Ib (Z7 b)).ok hs) ?_) λj=>i4x ((Ib (Z7 b)).ok hs) (g.step (Z7 b)) ?_))) λb=>Z0 (by simp) (YV hs (λe=>ZW rfl (i4x ((Ib (Z7 e)).ok hs) (g.step (Z7 e)) ?_)) λe=>Z0 (by simp) (i4c hs g ?_))))
 ·rw[show unaR (Y9 N) (QS N) s=(.mk {V7 2 s.line ⟨XR⟩with num:=Ic.wrap (-(s.step.num 2147483648).1)} [],(s.step.num 2147483648).2)from(if_pos b).trans (if_pos j)];exact Ze (Nj Zq)
 ·rw[show unaR (Y9 N) (QS N) s=(.mk (V7 6 s.line ⟨[110,101,103]⟩) [(QS N s.step).1],(QS N s.step).2)from(if_pos b).trans (if_neg (by rw[j];decide))];exact Ze (Nj (Pd (UH _)))
 ·rw[show unaR (Y9 N) (QS N) s=(.mk (V7 6 s.line ⟨[110,111,116]⟩) [(QS N s.step).1],(QS N s.step).2)from(if_neg (by rw[b];decide)).trans (if_pos e)];exact Ze (Nj (Pd (UH _)))
 ·rw[show unaR (Y9 N) (QS N) s=primR (Y9 N) s from(if_neg (by rw[b];decide)).trans (if_neg (by rw[e];decide))];exact Ze (Sd _)
def j5b{N:Nat}{s:RS}{v:Int}{K:TS->RS->Prop}(hs:ZA s=true)(e:Wp (N+1) s)(b:1<=v∧v<=6)(h:K (Ql (N+1) s (v,())).1 (Ql (N+1) s (v,())).2):Xw Zn Z8 [] [] (λ(s:RS) (a:Int×Unit)=>ZA s&&decide (Ie (RS.l s) - RS.i s<N+1)&&(decide (1<=Ij a)&&decide (Ij a<=6))) (Ql (N+1)) [.ptr 0 0,.pv (.int .i64 v)] [Zf s] K:=Ya Zx s (v,()) rfl rfl (by rw[Gm hs e,decide_eq_true b.1,decide_eq_true b.2];rfl) h
def i1g{N:Nat}{V:Int}{s:RS}{v:Int}{K:TS->RS->Prop}(hs:ZA s=true)(e:Wp (N+1) s)(b:1<=v∧v<=6)(g:V<v)(h:K (Ql (N+1) s (v,())).1 (Ql (N+1) s (v,())).2):Xw Zn Z8 [] [] (λ(s:RS) (a:Int×Unit)=>ZA s&&decide (Ie (RS.l s) - RS.i s<N+1)&&(decide (1<=Ij a)&&(decide (V<Ij a)&&decide (Ij a<=6)))) (Ql (N+1)) [.ptr 0 0,.pv (.int .i64 v)] [Zf s] K:=Ya Zx s (v,()) rfl rfl (by rw[Gm hs e,decide_eq_true b.1,decide_eq_true g,decide_eq_true b.2];rfl) h
def d4p{N:Nat}{V:Int}{s:RS}{v w:Int}{xs:List AV}{K:TS->RS->Prop}(e:xs=(encL s).map AV.pv)(g:w=v)(hs:ZA s=true)(j:Wp (N+1) s)(b:1<=v∧v<=6)(k:V<v)(h:K (Ql (N+1) s (v,())).1 (Ql (N+1) s (v,())).2):Xw Zn Z8 [] [] (λ(s:RS) (a:Int×Unit)=>ZA s&&decide (Ie (RS.l s) - RS.i s<N+1)&&(decide (1<=Ij a)&&(decide (V<Ij a)&&decide (Ij a<=6)))) (Ql (N+1)) [.ptr 0 0,.pv (.int .i64 w)] [.box xs] K:=by subst e;subst g;exact i1g hs j b k h
def Du{N d:Nat}{s:RS}{v:Int}(h:v=6 - (d:Int)):Ql N s (v,())=tsR (fromR (QS N) d s):=by subst h;show tsR (fromR (QS N) (6 - (6 - (d:Int))).toNat s)=_;rw[show(6 - (6 - (d:Int))).toNat=d by omega]
def e8j{fr:RS->Tm×RS}{lev ln:Int}{n:Nat}{s:RS}{l:Tm}(h:(s.oper lev).2=false):opR fr lev ln (n+1) s l=(l,s):=if_neg (by rw[h];decide)
def MF{fr:RS->Tm×RS}{lev ln:Int}{n:Nat}{s t:RS}{l:Tm}(h:(s.oper lev).2=true)(ht:(if ((fr s.step).2.oper lev).2&&decide (lev=3)then(fr s.step).2.fail else(fr s.step).2)=t):opR fr lev ln (n+1) s l=opR fr lev ln n t (.mk (V7 6 ln (s.oper lev).1) [l,(fr s.step).1]):=by rw[<- ht];exact if_pos h
def d1q(N d:Nat)(V v c:Int)(hVv:V<=v)(hd:d<=4)(hv:v=5 - (d:Int))(R:Tm×RS): ∀ (n:Nat) (s:RS) (w:List UInt8) (p q:PV) (l:Tm),ZA s=true->Wp (N+1) s->s.l.length<s.i+n->Zg (Vt l) (.agg [.int .i64 6,.int .i64 c,.str w,.int .i64 0,.str [],.sl 0 true [],.sl 0 true [],.sl 0 true [],.sl 0 true [],.sl 10 false [p,q]])->R=opR (fromR (QS (N+1)) d) v c n s l ->
  At (DL N V) 1 (Zl 1 Ke (ZB [] [] (tsR R).1 (tsR R).2)) Kk 0 60 [(0,.ptr 0 0),(1,.pv (.int .i64 v)),(4,.ptr 1 0),(5,.pv (.int .i64 c)),(6,.ptr 2 0)] [.obj (Zf s),.obj (.box [.pv (.int .i64 0),.pv (.int .i64 0),.pv (.str []),.pv (.int .i64 0),.pv (.str []),.pv (.sl 0 true []),.pv (.sl 0 true []),.pv (.sl 0 true []),.pv (.sl 0 true []),.pv (.sl 0 true [])]),.obj (.box [.pv (.int .i64 6),.pv (.int .i64 c),.pv (.str w),.pv (.int .i64 0),.pv (.str []),.pv (.sl 0 true []),.pv (.sl 0 true []),.pv (.sl 0 true []),.pv (.sl 0 true []),.row 3 2 0 2]),.obj (.row false 29 10 [p,q])]:=by
 intro n
 induction n with
 | zero=>intro s w p q l hs _ hi;have:=ZY hs;omega
 | succ n ih=>
  intro s w p q l hs r hi k g;have u:=ZY hs;refine g5r N s V v w [p,q] c (b0a hs (Yk (λh=>⟨rfl,?_⟩) λh=> ?_))
  ·rw[e8j h]at g;subst g;exact⟨_,rfl,k,rfl⟩
  ·have h:(s.oper v).2=true:=h;have j:=a4j h;have k1:=Ib j;have e:=k1.ok hs;have b:=r.ge k1;have hu:Dr (N+1) (fromR (QS (N+1)) d):=I9 (Po (N+1)).2 d;have a:=hu _ b k1.hi;have e1:=a.le;have e3:s.step.i=s.i+1:=rfl;refine d4p (v:=6 - (d:Int)) (Dw j u.1) (by rw[Xd (by omega) (by omega)];omega) e b (by omega) (by omega) ?_;rw[Du (d:=d) rfl];refine⟨rfl,b0a (a.ok e) (Z5 (λh2=>Z9 (λh3=> ?_) λh3=> ?_) λh2=> ?_)⟩
   ·have h2:((fromR (QS (N+1)) d s.step).2.oper v).2=true:=h2;have k3:=aU a.hi;rw[MF h (t:=(fromR (QS (N+1)) d s.step).2.fail) (by rw[h2,h3];rfl)]at g;refine ih (fromR (QS (N+1)) d s.step).2.fail _ _ _ _ (k3.ok (a.ok e)) (b.ge (a.trans k3)) ?_ (TC (a0f k) (UH _)) g;rw[k3.l,a.l,k1.l];show s.l.length<(fromR (QS (N+1)) d s.step).2.i+n;omega
   ·rw[MF h (t:=(fromR (QS (N+1)) d s.step).2) (by rw[if_neg];simp;intro _;exact h3)]at g;refine ih _ _ _ _ _ (a.ok e) (b.ge a) ?_ (TC (a0f k) (UH _)) g;show(fromR (QS (N+1)) d s.step).2.l.length<(fromR (QS (N+1)) d s.step).2.i+n;rw[a.l,k1.l];omega
   ·have h2:((fromR (QS (N+1)) d s.step).2.oper v).2=false:=h2;rw[MF h (t:=(fromR (QS (N+1)) d s.step).2) (by rw[h2];rfl)]at g;refine ih _ _ _ _ _ (a.ok e) (b.ge a) ?_ (TC (a0f k) (UH _)) g;show(fromR (QS (N+1)) d s.step).2.l.length<(fromR (QS (N+1)) d s.step).2.i+n;rw[a.l,k1.l];omega
def i6y(N d:Nat)(V v c:Int)(j:V<=v)(hd:d<=4)(q:v=5 - (d:Int))(R:Tm×RS)(n:Nat)(s:RS)(l:Tm)(hs:ZA s=true)(r:Wp (N+1) s)(hi:s.l.length<s.i+n)(g:R=opR (fromR (QS (N+1)) d) v c n s l):
  At (DL N V) 1 (Zl 1 Ke (ZB [] [] (tsR R).1 (tsR R).2)) Kk 0 60 [(0,.ptr 0 0),(1,.pv (.int .i64 v)),(4,.ptr 1 0),(5,.pv (.int .i64 c)),(6,.ptr 2 0)] [.obj (Zf s),.obj (.box [.pv (.int .i64 0),.pv (.int .i64 0),.pv (.str []),.pv (.int .i64 0),.pv (.str []),.pv (.sl 0 true []),.pv (.sl 0 true []),.pv (.sl 0 true []),.pv (.sl 0 true []),.pv (.sl 0 true [])]),.obj (.box (bS (Vt l)))]:=by
 have u:=ZY hs;obtain⟨n,rfl⟩ : ∃ m,n=m+1:=⟨n - 1,by omega⟩
 refine g5q N s V v (Vt l) c (b0a hs (Yk (λh=> ?_) λh=> ?_))
 ·rw[e8j h]at g;subst g;exact⟨_,rfl,Sd _,rfl⟩
 ·have h:(s.oper v).2=true:=h;have k:=a4j h;have k1:=Ib k;have b:=k1.ok hs;have e:=r.ge k1;have hu:Dr (N+1) (fromR (QS (N+1)) d):=I9 (Po (N+1)).2 d;have a:=hu _ e k1.hi;have e1:=a.le;have e3:s.step.i=s.i+1:=rfl;refine d4p (v:=6 - (d:Int)) (Dw k u.1) (by rw[Xd (by omega) (by omega)];omega) b e (by omega) (by omega) ?_;rw[Du (d:=d) rfl];refine b0a (a.ok b) (Z5 (λh2=>Z9 (λh3=> ?_) λh3=> ?_) λh2=> ?_)
  ·have h2:((fromR (QS (N+1)) d s.step).2.oper v).2=true:=h2;have k3:=aU a.hi;rw[MF h (t:=(fromR (QS (N+1)) d s.step).2.fail) (by rw[h2,h3];rfl)]at g;refine d1q N d V v c j hd q R n (fromR (QS (N+1)) d s.step).2.fail _ _ _ _ (k3.ok (a.ok b)) (e.ge (a.trans k3)) ?_ (TC (UH _) (UH _)) g;rw[k3.l,a.l,k1.l];show s.l.length<(fromR (QS (N+1)) d s.step).2.i+n;omega
  ·rw[MF h (t:=(fromR (QS (N+1)) d s.step).2) (by rw[if_neg];simp;intro _;exact h3)]at g;refine d1q N d V v c j hd q R n _ _ _ _ _ (a.ok b) (e.ge a) ?_ (TC (UH _) (UH _)) g;show(fromR (QS (N+1)) d s.step).2.l.length<(fromR (QS (N+1)) d s.step).2.i+n;rw[a.l,k1.l];omega
  ·have h2:((fromR (QS (N+1)) d s.step).2.oper v).2=false:=h2;rw[MF h (t:=(fromR (QS (N+1)) d s.step).2) (by rw[h2];rfl)]at g;refine d1q N d V v c j hd q R n _ _ _ _ _ (a.ok b) (e.ge a) ?_ (TC (UH _) (UH _)) g;show(fromR (QS (N+1)) d s.step).2.l.length<(fromR (QS (N+1)) d s.step).2.i+n;rw[a.l,k1.l];omega
def h4v(N:Nat)(V:Int): ∀ (s:RS) (a:Int×Unit),(ZA s&&decide (Ie (RS.l s) - RS.i s<N+1)&&(decide (1<=Ij a)&&(decide (V - 1<Ij a)&&decide (Ij a<=6))))=true->Zk (DL N V) 1 (Zl 1 Ke (ZB [] [] (Ql (N+1) s a).1 (Ql (N+1) s a).2)) Kk [] (ZT i7q (Zn a) ([]++[Zf s])):=by
 rintro s ⟨v,⟨⟩⟩ h;obtain⟨h,hv⟩:(ZA s&&decide (Ie (RS.l s) - RS.i s<N+1))=true∧(1<=v∧V - 1<v∧v<=6):=by rw[Ig]at h;refine⟨h.1,?_⟩;simpa using h.2
 obtain⟨hs,b⟩:=CJ h;have e:=ZY hs;refine j1q N s V v (XQ (λh6=> ?_) λh6=>a9x hs ?_)
 ·rw[Du (d:=0) (by omega)];exact i4x hs b ⟨_,rfl,Sd _,rfl⟩
 ·obtain⟨d,hd⟩ : ∃ d:Nat,v=5 - (d:Int):=⟨(5 - v).toNat,by omega⟩
  rw[Du (d:=d+1) (by omega)];have hu:Dr (N+1) (fromR (QS (N+1)) d):=I9 (Po (N+1)).2 d;have k1:=hu _ b e.2;refine d4p (v:=6 - (d:Int)) rfl (by rw[Xd (by omega) (by omega)];omega) hs b (by omega) (by omega) ?_;rw[Du (d:=d) rfl];refine i6y N d V v _ (by omega) (by omega) hd (fromR (QS (N+1)) (d+1) s) (s.l.length+1) _ (fromR (QS (N+1)) d s).1 (k1.ok hs) (b.ge k1) ?_ (by rw[hd];rfl);show(fromR (QS (N+1)) d s).2.l.length<(fromR (QS (N+1)) d s).2.i+(s.l.length+1);rw[k1.l];omega
def g8f(N:Nat): ∀ (s:RS) (a:Unit),(ZA s&&decide (Ie (RS.l s) - RS.i s<N+1))=true->Zk (f2m N) 1 (Zl 1 d1h (ZB [] [] (Qs (N+1) s a).1 (Qs (N+1) s a).2)) d3f [] (ZT i7d (Zn a) ([]++[Zf s])):=by
 rintro s ⟨⟩ h;obtain⟨hs,A⟩:=CJ h;have hl:=ZY hs;show Zk (f2m N) 1 (Zl 1 d1h (ZB [] [] (Vt (Y9 (N+1) s).1) (Y9 (N+1) s).2)) d3f [] _;rw[a9q];refine j3b N s (a9x hs (YV hs (λq=>Z0 (by simp) ?_) λq=>ZW rfl (j5b hs A (by omega) ?_)))
 ·have hi:=Z7 q;have k1:=Ib hi;have e:=k1.ok hs;have C:=A.step hi;have u:=RGe.name k1.hi;have g:=u.ok e;have k3:=Ih (w:=⟨[61]⟩) u.hi;have j:=k3.ok g;have y:=C.ge (u.trans k3);have k:=Iy y k3.hi;have b:=k.ok j;have z:=Ih (w:=⟨[105,110]⟩) k.hi;have r:=z.ok b;have B:=y.ge (k.trans z);rw[show exR (Y9 N) (QS (N+1)) s=(.mk (V7 5 s.line s.step.name.1) [(Y9 N (s.step.name.2.need ⟨[61]⟩)).1,(Y9 N ((Y9 N (s.step.name.2.need ⟨[61]⟩)).2.need ⟨[105,110]⟩)).1],(Y9 N ((Y9 N (s.step.name.2.need ⟨[61]⟩)).2.need ⟨[105,110]⟩)).2)from if_pos q];exact Eu e (YN g (c8k j y (YN b (c8k r B (Ze (Nj (PW (UH _) (UH _))))))))
 ·rw[show exR (Y9 N) (QS (N+1)) s=fromR (QS (N+1)) 5 s from if_neg (by rw[q];decide),Du (d:=5) (by omega)];exact Ze (Sd _)
end
end Go.Pl
namespace Go.Pl
open Go.RowKit
def NF{x:Lin}(h:Zj x=true):Zp ⟨0,[]⟩ x 1=(x,0):=by
 have a:Zj (⟨0,[]⟩:Lin)=true:=by decide
 rw[Kv 1 a h];have e:Yr ⟨0,[]⟩ x 1=x:=by
  have g:(Yr ⟨0,[]⟩ x 1).t=x.t:=Fh (c2s 1 x.t _ (show K4 ([]:List Coef)from QY a)) (c1p (a3o a)) (QY h) (a3o h) λs=>by rw[d4e a h (by decide) (by decide)];show YI [] s+1*YI x.t s=YI x.t s;rw[JO];omega
  have b:(Yr ⟨0,[]⟩ x 1).k=x.k:=by rw[c0q a h (by decide) (by decide)];show 0+1*x.k=x.k;omega
  cases x;generalize Yr ⟨0,[]⟩ _ 1=z at g b;cases z;simp only at g b;rw[g,b]
 unfold Cv;rw[e,h];rfl
def g7z{c:UInt8}(h:lowB c=true):c≠95:=by intro e;subst e;exact absurd h (by decide)
def h5v{n:Str}(h:nameI n.s=true):Y3 n=true:=by
 obtain⟨n⟩:=n;cases n with
 | nil=>cases h
 | cons c r=>unfold nameI at h;simp only[Ig,decide_eq_true_eq]at h;obtain⟨⟨⟨h1,h2⟩,h3⟩,h4⟩:=h;show(if c=95 then _ else(lowB c&&r.all (λc=>lowB c||digB c)&&decide (r.length<=29)))=true;rw[if_neg (g7z h1),h1,decide_eq_true h3];rw[show(λc=>lowB c||digB c)=ldI from funext λc=>Bool.or_comm _ _,h2];rfl
def e5i{n:Str}(h:nameI n.s=true):Zj (JE n)=true:=by unfold Zj JE;simp only[aB,List.all_nil,h5v h];rfl
def e3s{x:Lin}(h:Zj x=true):XO x 1=(x,0):=NF h
def FI{x:Lin}{k:Int}(h:(XO x k).2=0):Zj (XO x k).1=true:=(CQ h).2.2
def a3g{a b:Lin}{k:Int}(h:Zj a=false∨Zj b=false):(Zp a b k).2≠0:=by
 intro e;have h1:=CQ e;rcases h with h|h
 ·rw[h]at h1;cases h1.1
 ·rw[h]at h1;cases h1.2.1
def Et{r:RS}{x:Lin×Int}(h:r.bad=false)(h1:x.2=0)(h2:Zj x.1=true):r.chk x=(x.1,r):=by unfold IR;rw[h,h2,decide_eq_false (λk=>k h1)];rfl
def d3u{r:RS}{x:Lin×Int}(h:r.bad=false)(h1:x.2≠0∨Zj x.1=false):r.chk x=(⟨0,[]⟩,r.wid):=by
 unfold IR;rw[h,if_pos];rcases h1 with h1|h1
 ·rw[decide_eq_true h1];rfl
 ·rw[h1];simp
def NI{r:RS}{x:Lin×Int}(h:r.bad=true):(r.chk x).2=r:=by unfold IR;rw[h];rfl
def Sc{r:RS}{x:Lin×Int}(h:r.wide=true):(r.chk x).2.wide=true:=by
 unfold IR;split
 ·rfl
 ·exact h
def Sim0.wid{z:Int}{s:PS}{r:RS}(h:Sim0 z s r):Sim0 z s r.wid:=⟨h.l,h.i,h.sz,h.bad,h.rbad,h.hi,h.lx⟩
def Sim0.wide{z:Int}{s:PS}{r:RS}(h:Sim0 z s r){b:Bool}:Sim0 z (s.wide b) r:=⟨h.l,h.i,h.sz,h.bad,h.rbad,h.hi,h.lx⟩
def Vn.wide{o:Int}{s:PS}(h:Vn o s){b:Bool}:Vn o (s.wide b):=h
structure LinS (z:Int) (tb:Bool) (s:PS) (l:Lin) (r:RS) (l':Lin):Prop where
 c:Sim0 z s r
 nw:r.wide=false->s.big=tb∧l=l'∧Zj l=true
 wd:r.wide=true->(s.big || !Zj l)=true
def c1u{z:Int}{s:PS}{r:RS}(h:Sim0 z s r):
  (Sim0 z s.item.2 r.item.2∧(r.item.2.wide=false->s.item.2.big=s.big∧r.wide=false∧s.item.1=r.item.1∧Zj s.item.1=true)∧(r.item.2.wide=true->r.wide=true∨(s.item.2.big || !Zj s.item.1)=true)∧(s.big=true->s.item.2.big=true))∨(r.item.2.bad=true∧Vn (off z r.item.2) s.item.2):=by
 unfold PS.item aK;by_cases k1:(s.peek 0).k=1
 ·have hi:=Y2 (s:=s) (by omega);rw[if_pos k1,if_neg (by rw[h.kind (by decide)];simp;omega)];have b:s.name=((s.peek 0).t,s.step):=if_pos k1;have e:r.name=((s.peek 0).t,r.step):=by rw[<- h.tok hi];exact if_pos (by rw[h.kind (by decide)];simpa using k1)
  have j:=e5i (a2c h.lx k1);unfold I1;rw[b,e];dsimp only;rw[e3s j,Et (r:=r.step) (x:=(JE (s.peek 0).t,0)) h.rbad rfl j];exact Cm ⟨h.step hi,λq=>⟨rfl,q,rfl,j⟩,λq=>Cm q,λq=>q⟩
 rw[if_neg k1];by_cases k3:(s.peek 0).k=3
 ·have hi:=Y2 (s:=s) (by omega);rw[if_pos (show r.kind 3=true by rw[h.kind (by decide)];simpa using k3)];have u:r.tok 0=s.peek 0:=h.tok hi;by_cases q:(XD (s.peek 0).t).1<=2147483648
  ·have b:s.num 2147483648=((XD (s.peek 0).t).1,s.step):=if_pos ⟨k3,d6k h.lx k3,q⟩;have e:r.num 2147483648=((XD (s.peek 0).t).1,r.step):=by unfold IM;rw[if_pos (show r.kind 3=true by rw[h.kind (by decide)];simpa using k3),u,if_pos q]
   rw[b,e];dsimp only;have h1:=h.step hi;generalize hc:(XD (s.peek 0).t).1=c;by_cases i:(s.step.peek 0).k=1
   ·have l:=Y2 (s:=s.step) (by omega);rw[if_pos ⟨i,h1.bad⟩,if_pos (show r.step.kind 1=true by rw[h1.kind (by decide)];simpa using i)];have y:s.step.name=((s.step.peek 0).t,s.step.step):=if_pos i;have A:r.step.name=((s.step.peek 0).t,r.step.step):=by rw[<- h1.tok l];exact if_pos (by rw[h1.kind (by decide)];simpa using i)
    unfold I1;rw[y,A];dsimp only;have h2:=h1.step l;by_cases g:(XO (JE (s.step.peek 0).t) c).2=0
    ·rw[Et h2.rbad g (FI g)];refine Cm ⟨h2.wide,λq=>⟨?_,q,rfl,FI g⟩,λq=>Cm q,λq=> ?_⟩
     ·show(s.big||decide ((XO (JE (s.step.peek 0).t) c).2≠0))=s.big;rw[decide_eq_false (λk=>k g),aC]
     ·show(s.big||_)=true;rw[q];rfl
    ·rw[d3u h2.rbad (Cm g)];have hb:(s.step.step.note (XO (JE (s.step.peek 0).t) c)).2.big=true:=by show(s.big||decide ((XO (JE (s.step.peek 0).t) c).2≠0))=true;rw[decide_eq_true g,IJ]
     exact Cm ⟨h2.wide.wid,λq=>absurd (show true=false from q) (by decide),λ_=>Ia (by rw[hb];rfl),λ_=>hb⟩
   ·rw[if_neg (λk=>i k.1),if_neg (by rw[h1.kind (by decide)];simpa using i)];cases j:Zj ⟨c,[]⟩with
    | true=>rw[Et (x:=((⟨c,[]⟩:Lin),0)) h1.rbad rfl j];exact Cm ⟨h1,λq=>⟨rfl,q,rfl,rfl⟩,λq=>Cm q,λq=>q⟩
    | false=>rw[d3u (x:=((⟨c,[]⟩:Lin),0)) h1.rbad (Ia j)];exact Cm ⟨h1.wid,λq=>absurd (show true=false from q) (by decide),λ_=>Ia (by simp),λq=>q⟩
  ·have b:s.num 2147483648=(0,s.fail):=if_neg (λk=>q k.2.2);have e:r.num 2147483648=(0,r.fail):=by unfold IM;rw[if_pos (show r.kind 3=true by rw[h.kind (by decide)];simpa using k3),u,if_neg q]
   rw[b,e];dsimp only;have a:=h.fail;rw[if_neg (λk=>a.2.st.k1 k.1),if_neg (by rw[YO a.1];decide),NI a.1];exact Ia a
 ·rw[if_neg (show ¬ r.kind 3=true by rw[h.kind (by decide)];simpa using k3)];have b:s.num 2147483648=(0,s.fail):=if_neg (λk=>k3 k.1);have e:r.name=(⟨[]⟩,r.fail):=if_neg (by rw[h.kind (by decide)];simpa using k1);unfold I1;rw[b,e];dsimp only;have a:=h.fail;rw[if_neg (λk=>a.2.st.k1 k.1),NI a.1];exact Ia a
def i1q(n:Nat)(r:RS)(l:Lin):Lin×RS:=if r.is ⟨[43]⟩then sizL n r.step l false else if r.is ⟨[45]⟩then sizL n r.step l true else(l,r)
def a0w{n:Nat}{r:RS}{l:Lin}{m:Bool}(h:r.item.2.bad=true):sizL (n+1) r l m=(⟨0,[]⟩,r.item.2):=by rw[sizL,if_pos h]
def d6c{n:Nat}{r:RS}{l:Lin}{m:Bool}(h:r.item.2.bad=false):sizL (n+1) r l m=i1q n (r.item.2.chk (Zp l r.item.1 (sgM m))).2 (r.item.2.chk (Zp l r.item.1 (sgM m))).1:=by rw[sizL,if_neg (by rw[h];decide)];rfl
def d9k{z:Int}{tb:Bool}{s:PS}{l:Lin}{r:RS}{l':Lin}(k:Int)(h:LinS z tb s l r l'):
  LinS z tb (s.item.2.note (Zp l s.item.1 k)).2 (Zp l s.item.1 k).1 (r.item.2.chk (Zp l' r.item.1 k)).2 (r.item.2.chk (Zp l' r.item.1 k)).1∨(r.item.2.bad=true∧Vn (off z r.item.2) s.item.2):=by
 rcases c1u h.c with ⟨h1,h2,h3,e⟩|h1
 ·refine Cm ?_;have big:(s.item.2.note (Zp l s.item.1 k)).2.big=(s.item.2.big||decide ((Zp l s.item.1 k).2≠0)):=rfl;cases b:r.item.2.wide with
  | true=>
   have hc:(r.item.2.chk (Zp l' r.item.1 k)).2.wide=true:=Sc b;have hb:(s.item.2.note (Zp l s.item.1 k)).2.big=true:=by
    rw[big];rcases h3 b with h5|h5
    ·have a:=h.wd h5;rw[Iq]at a;rcases a with a|a
     ·rw[e a];rfl
     ·rw[decide_eq_true (a3g (Cm (by simpa using a))),IJ]
    ·rw[Iq]at h5;rcases h5 with h5|h5
     ·rw[h5];rfl
     ·rw[decide_eq_true (a3g (Ia (by simpa using h5))),IJ]
   refine⟨?_,λq=>(by rw[hc]at q;cases q),λ_=>by rw[hb];rfl⟩;unfold IR;split
   ·exact h1.wide.wid
   ·exact h1.wide
  | false=>
   obtain⟨i,u,y,i4⟩:=h2 b;obtain⟨A,j,j3⟩:=h.nw u;rw[<- y,<- j];by_cases g:(Zp l s.item.1 k).2=0
   ·rw[Et h1.rbad g (CQ g).2.2];refine⟨h1.wide,λ_=>⟨?_,rfl,(CQ g).2.2⟩,λq=>(by rw[b]at q;cases q)⟩;rw[big,decide_eq_false (λk=>k g),aC,i,A]
   ·rw[d3u h1.rbad (Cm g)];exact⟨h1.wide.wid,λq=>absurd (show true=false from q) (by decide),λ_=>by rw[big,decide_eq_true g,IJ];rfl⟩
 ·exact Ia h1
def F7{o:Int}{s:PS}(h:Vn o s)(n:Nat)(l:Lin):(linLoop n s l).2=s:=ZL.linLoop h n l
def a8p{r:RS}(h:r.wide=true):r.item.2.wide=true:=by
 have hn:(r.num 2147483648).2.wide=true:=(Qu (m:=2147483648)).mono r h;have hm : ∀ (t:RS) c,t.wide=true->(t.itemN c).2.wide=true:=λt c ht=>Sc (QP.mono t ht)
 unfold aK;split
 ·split
  ·exact hm _ _ hn
  ·exact Sc hn
 ·exact hm _ _ h
def LB: ∀ (n:Nat) {r:RS} {l:Lin} {m:Bool},r.wide=true->(sizL n r l m).2.wide=true
 | 0,r,l,m,h=>h
 | n+1,r,l,m,h=>by
  rw[sizL];have hc:=Sc (x:=Zp l r.item.1 (sgM m)) (a8p h);split
  ·exact a8p h
  ·dsimp only;split
   ·exact LB n hc
   ·split
    ·exact LB n hc
    ·exact hc
def a6l{r:RS}(h:r.bad=true):r.item.2=r:=by unfold aK I1;rw[if_neg (by rw[YO h];decide)];have e:r.name.2=r:=QP.stay r h;rw[e];exact NI h
def e0s{z:Int}{tb:Bool}: ∀ (n a:Nat) {s:PS} {r:RS} {l l':Lin},LinS z tb s l r l'->s.l.length<s.i+n->s.l.length<=s.i+a->Sb Vn z tb An (λx y=>x=y∧Zj x=true) (linLoop n s l) (i1q a r l')
 | 0,a,s,r,l,l',h,hn,_=>absurd h.c.hi (by omega)
 | n+1,a,s,r,l,l',h,hn,hn'=>by
  rw[linLoop,if_neg (by rw[h.c.bad];decide)];unfold i1q;rw[h.c.is,h.c.is];have go : ∀ (k:Int) (m:Bool),sgM m=k->s.i<s.l.length->Sb Vn z tb An (λx y=>x=y∧Zj x=true) (linLoop n (s.step.item.2.note (Zp l s.step.item.1 k)).2 (Zp l s.step.item.1 k).1) (sizL a r.step l' m):=λk m C hi=>by
   obtain⟨a,rfl⟩ : ∃ q,a=q+1:=⟨a - 1,by omega⟩
   have h1:LinS z tb s.step l r.step l':=⟨h.c.step hi,h.nw,h.wd⟩
   rcases d9k k h1 with h2|h2
   ·have hb:r.step.item.2.bad=false:=by
     cases e:r.step.item.2.bad with
     | false=>rfl
     | true=>have:=h2.c.rbad;rw[NI e,e]at this;cases this
    rw[d6c hb,C];have g:=Ge.item (s:=s.step) h1.c.hi;refine e0s n a h2 ?_ ?_
    ·show s.step.item.2.l.length<s.step.item.2.i+n;have B:=g.le;have u:s.step.i=s.i+1:=rfl;rw[g.l];show s.l.length<_;omega
    ·show s.step.item.2.l.length<=s.step.item.2.i+a;have B:=g.le;have u:s.step.i=s.i+1:=rfl;rw[g.l];show s.l.length<=_;omega
   ·rw[a0w h2.1];refine Ia ⟨h2.1,?_⟩;show Vn (off z r.step.item.2) _;have hb:Vn (off z r.step.item.2) (s.step.item.2.note (Zp l s.step.item.1 k)).2:=h2.2.wide;rw[F7 hb];exact hb
  cases j:s.next ⟨[43]⟩with
  | true=>exact go 1 false rfl (Zt j)
  | false=>
   rw[if_neg (show ¬ false=true by decide),if_neg (show ¬ false=true by decide)];cases D:s.next ⟨[45]⟩with
   | true=>exact go (-1) true rfl (Zt D)
   | false=>
    rw[if_neg (show ¬ false=true by decide),if_neg (show ¬ false=true by decide)];refine Cm ⟨⟨h.c.wide,?_⟩,trivial,λb=>(h.nw b).2⟩;show(s.big || !Zj l)=(r.wide||tb);cases b:r.wide with
    | true=>rw[h.wd b];rfl
    | false=>obtain⟨E,j2,A⟩:=h.nw b;rw[E,A];simp
def c3v:Twin Vn An (λx y=>x=y∧Zj x=true) Im Il:=by
 refine⟨λz tb s r h=> ?_,λo s h=>h.linear,λr h=> ?_,λr h=> ?_⟩
 ·unfold Im Il PS.lin0 IB;rw[h.is];have C:r.l.length=s.l.length:=by rw[h.c.l]
  rw[C];have F : ∀ t:PS,t.big=s.big-> ∀ q:RS,q.wide=r.wide->Sim0 z t q->LinS z tb t ⟨0,[]⟩ q ⟨0,[]⟩:=λt ht q g hc=>⟨hc,λa=>⟨by rw[ht,h.big,<- g,a];rfl,rfl,rfl⟩,λa=>by rw[ht,h.big,<- g,a];rfl⟩
  have fin : ∀ (t:PS) (q:RS) (m:Bool) (y:Lin×PS),Sim0 z t q->t.l.length=s.l.length->t.i<=s.l.length->Ge t y.2->(LinS z tb y.2 y.1 (q.item.2.chk (Zp ⟨0,[]⟩ q.item.1 (sgM m))).2 (q.item.2.chk (Zp ⟨0,[]⟩ q.item.1 (sgM m))).1∧q.item.2.bad=false∨(q.item.2.bad=true∧Vn (off z q.item.2) y.2))->Sb Vn z tb An (λx y=>x=y∧Zj x=true) (linLoop (s.l.length+1) y.2 y.1) (sizL (s.l.length+1) q ⟨0,[]⟩ m):=λt q m y hc B hi A j=>by
   rcases j with ⟨h1,h2⟩|⟨h1,h2⟩
   ·rw[d6c h2];have e:y.2.l.length=s.l.length:=by rw[A.l,B]
    exact e0s _ _ h1 (by rw[e];omega) (by rw[e];omega)
   ·rw[a0w h1];refine Ia ⟨h1,?_⟩;rw[F7 h2];exact h2
  cases e:s.next ⟨[45]⟩with
  | true=>
   have hi:=Zt e;have h1:=h.c.step hi;refine fin s.step r.step true (s.step.item.2.note (XO s.step.item.1 (-1))) h1 rfl hi ((Ge.item h1.hi).trans (Ge.note (Ge.item h1.hi).hi)) ?_;rcases d9k (-1) (F s.step rfl r.step rfl h1)with h2|h2
   ·refine Cm ⟨h2,?_⟩;cases e:r.step.item.2.bad with
    | false=>rfl
    | true=>have:=h2.c.rbad;rw[NI e,e]at this;cases this
   ·exact Ia ⟨h2.1,h2.2.wide⟩
  | false=>
   refine fin s r false s.item h.c rfl h.c.hi (Ge.item h.c.hi) ?_;rcases c1u h.c with ⟨h1,h2,h3,k⟩|h1
   ·refine Cm ⟨?_,h1.rbad⟩
    ·cases a:r.item.2.wide with
     | true=>
      have hc:=Sc (x:=Zp ⟨0,[]⟩ r.item.1 1) a;refine⟨?_,λq=>(by rw[show sgM false=1 from rfl,hc]at q;cases q),λ_=> ?_⟩
      ·unfold IR;split
       ·exact h1.wid
       ·exact h1
      ·rcases h3 a with h5|h5
       ·rw[k (by rw[h.big,h5];rfl)];rfl
       ·exact h5
     | false=>obtain⟨u,E,D,b⟩:=h2 a;rw[<- D,show sgM false=1 from rfl,NF b,Et (x:=(s.item.1,0)) h1.rbad rfl b];refine⟨h1,λ_=>⟨?_,rfl,b⟩,λq=>by rw[a]at q;cases q⟩;rw[u,h.big,E];rfl
   ·exact Ia h1
 ·unfold Il IB;rw[XA h,if_neg (by decide)];show(sizL (r.l.length+1) r ⟨0,[]⟩ false).2=r;rw[a0w (by rw[a6l h];exact h)];exact a6l h
 ·unfold Il;refine LB _ ?_;unfold IB;split <;> exact h
def a1h:Twin Vn An Eq Im Il:=c3v.imp (λ_ _ h=>h) λ_ _ h=>h.1
section
def Mw{s:PS}{w:Str}(h:s.next w=true):(s.peek 0).t=w:=by unfold IL at h;simp only[Ig,decide_eq_true_eq]at h;exact h.2
section
variable {α:Type} {one one':PS->α×PS} {two:RS->α×RS} {K:Int->PS->Prop}
theorem MX{α:Type}{two:RS->α×RS}{r:RS}(h:r.bad=true): ∀ (n:Nat) (o:List α),moreR two n r o=(o,r)
 | 0,o=>rfl
 | n+1,o=>by rw[moreR,if_neg (by rw[XA h];decide)]
theorem Sm{α:Type}{two:RS->α×RS}(h1 : ∀ r,r.wide=true->(two r).2.wide=true): ∀ (n:Nat) {r:RS} (o:List α),r.wide=true->(moreR two n r o).2.wide=true
 | 0,r,o,h=>h
 | n+1,r,o,h=>by
  rw[moreR];split
  ·exact Sm h1 n _ (h1 _ h)
  ·exact h
theorem c4q{α:Type}{one:PS->α×PS}{two:RS->α×RS}{z:Int}{tb:Bool}{S:α->α->Prop}{g:List α->List α->Prop}(h1:Twin ZL S Eq one two)(q : ∀ o o' a b,g o o'->S a b->g (o++[a]) (o'++[b])): ∀ (n:Nat) {s:PS} {r:RS} {o o':List α},Sim z tb s r->g o o'->Sb ZL z tb g (λx y=>o=o'->x=y) (moreL one n s o) (moreR two n r o')
 | 0,s,r,o,o',h,ho=>Cm ⟨h,ho,λ_ e=>e⟩
 | n+1,s,r,o,o',h,ho=>by
  rw[moreL,moreR,if_neg (by rw[h.bad];decide),h.is];cases e:s.next ⟨[44]⟩with
  | false=>exact Cm ⟨h,ho,λ_ e=>e⟩
  | true=>
   show Sb ZL z tb g _ (moreL one n (one s.step).2 (o++[(one s.step).1])) (moreR two n (two r.step).2 (o'++[(two r.step).1]));rcases h1.sim z tb _ _ (h.step (Zt e))with ⟨i,j,A⟩|⟨i,j⟩
   ·rcases c4q h1 q n i (q _ _ _ _ ho j)with ⟨k1,B,k3⟩|k
    ·refine Cm ⟨k1,B,λl ho=>k3 l ?_⟩;rw[ho,A];cases u:(two r.step).2.wide with
     | false=>rfl
     | true=>rw[Sm h1.mono n _ u]at l;cases l
    ·exact Ia k
   ·rw[MX i,j.more];exact Ia ⟨i,j⟩
theorem c3z{S:α->α->Prop}{g:List α->List α->Prop}(h1:Twin ZL S Eq one two)(y : ∀ a b,S a b->g [a] [b])(B : ∀ o o' a b,g o o'->S a b->g (o++[a]) (o'++[b])):Twin ZL g Eq (listL one) (XK two):=by
 refine⟨λz tb s r h=> ?_,λo s h=>h.list h1.keep,λr h=> ?_,λr h=>Sm h1.mono _ _ (h1.mono r h)⟩
 ·unfold listL XK;rw[h.c.l];rcases h1.sim z tb s r h with ⟨e,i,u⟩|⟨e,i⟩
  ·rcases c4q h1 B (s.l.length+1) e (y _ _ i)with ⟨k1,A,k3⟩|k
   ·refine Cm ⟨k1,A,λj=>k3 j ?_⟩;rw[u];cases q:(two r).2.wide with
    | false=>rfl
    | true=>rw[Sm h1.mono _ _ q]at j;cases j
   ·exact Ia k
  ·rw[MX e,i.more];exact Ia ⟨e,i⟩
 ·unfold XK;rw[h1.stay r h,MX h]
theorem e7g(h1:Twin ZL An Eq one two):Twin ZL An Eq (listL one) (XK two):=c3z h1 (λ_ _ _=>trivial) (λ_ _ _ _ _ _=>trivial)
theorem e2f(h1:Twin ZL Eq Eq one two):Twin ZL Eq Eq (listL one) (XK two):=c3z h1 (λa b h=>by rw[h]) (λo o' a b h k=>by rw[h,k])
theorem a4h{w:Str}(h:w.s ∉ a2r)(h1:Twin ZL An Eq one two):Twin Vn An Eq (λs=>((listL one s).1,(listL one s).2.need w)) (λr=>((XK two r).1,(XK two r).2.need w)):=(Twin.bindT (f:=λks=>twP (λ_=>ks) (Qk w)) (g:=λks=>twR (λ_=>ks) (Uv w)) ([]:List α) ([]:List α) (e7g h1) λa b=>(YK h).map (λ_ _ _=>trivial) λ_ _ _ e=>e).eq rfl rfl
theorem c6t{w:Str}(b:w.s ∉ a2r)(h1:Twin ZL Eq Eq one two):Twin Vn Eq Eq (λs=>((listL one s).1,(listL one s).2.need w)) (λr=>((XK two r).1,(XK two r).2.need w)):=(Twin.bindE (f:=λks=>twP (λ_=>ks) (Qk w)) (g:=λks=>twR (λ_=>ks) (Uv w)) (e2f h1) λa=>(YK b).map (λ_ _ _=>rfl) λ_ _ _=>rfl).eq rfl rfl
end
def g0c:Twin Vn Eq Eq aL IE:=Qu
def Uc:Twin Vn Eq Eq IA Ir:=by
 refine⟨λz tb s r h=> ?_,λo s h=>h.func,λr h=> ?_,λr h=> ?_⟩
 ·unfold IA Ir;rcases QP.sim z tb s r h with ⟨h1,e,_⟩|⟨hb,a⟩
  ·rw[h1.is,<- e];cases q:s.name.2.next ⟨[46]⟩with
   | false=>exact Cm ⟨h1,rfl,λ_=>rfl⟩
   | true=>
    show Sb Vn z tb Eq Eq ((⟨s.name.1.s++([46]++s.name.2.step.name.1.s)⟩:Str),s.name.2.step.name.2) ((⟨s.name.1.s++([46]++r.name.2.step.name.1.s)⟩:Str),r.name.2.step.name.2);rcases QP.sim z tb _ _ (h1.step (Zt q))with ⟨h2,g,_⟩|h2
    ·have b:(⟨s.name.1.s++([46]++s.name.2.step.name.1.s)⟩:Str)=⟨s.name.1.s++([46]++r.name.2.step.name.1.s)⟩:=by rw[g]
     exact Cm ⟨h2,b,λ_=>b⟩
    ·exact Ia h2
  ·rw[if_neg (by rw[a.st.next (by decide)];decide),if_neg (by rw[XA hb];decide)];exact Ia ⟨hb,a⟩
 ·unfold Ir;have e:r.name.2=r:=QP.stay r h;rw[e,if_neg (by rw[XA h];decide)]
 ·unfold Ir;split
  ·exact QP.mono _ (QP.mono r h)
  ·exact QP.mono r h
def c8w:Twin Vn An Eq (λs=>((listL Im s).1,(listL Im s).2.need ⟨[93]⟩)) (λr=>((XK Il r).1,(XK Il r).2.need ⟨[93]⟩)):=a4h (by decide) a1h.st
def b8x: ∀ (n:Nat) (o:List Int),Twin ZL Eq Eq (λs=>numsP n s o) (λr=>numsR n r o)
 | 0,o=>(Twin.pure (a:=o) (b:=o) rfl rfl).eq rfl rfl
 | n+1,o=>by
  refine(Twin.bindE (f0y (k:=3) (by decide)) (f:=λb=>if b then bP (g8z 2147483648) λx s=>numsP n s (o++[x])else puP o) (g:=λb=>if b then bR (e1r 2147483648) λx s=>numsR n s (o++[x])else puR o) λb=> ?_).eq (funext λs=> ?_) (funext λr=> ?_)
  ·cases b with
   | true=>exact Twin.bindE Qu.st λx=>b8x n (o++[x])
   | false=>exact Twin.pure rfl rfl
  ·rw[h2y,numsP];rfl
  ·rw[h4n,numsR];rfl
def d5o: ∀ (d:List UInt8) (n:Int),0<=n->d.all digB=true->0<=d.foldl (λn c=>10*n+((c.toNat:Int) - 48)) n
 | [],n,h,_=>h
 | c::d,n,h,hd=>by rw[aB,Ig]at hd;rw[List.foldl_cons];refine d5o d _ ?_ hd.2;have h1:=hd.1;unfold digB at h1;simp only[Ig,decide_eq_true_eq]at h1;have h2:48<=c.toNat:=h1.1;omega
def h2l{s:PS}{m:Int}(hm:0<=m):0<=(s.num m).1∧(s.num m).1<=m:=by
 unfold aN;split
 ·rename_i h;refine⟨?_,h.2.2⟩;show 0<=(XD (s.peek 0).t).1;unfold XD;split
  ·rename_i a;unfold Js at a;simp only[Ig]at a;exact d5o _ 0 (Int.le_refl 0) a.1.1.2
  ·exact Int.le_refl 0
 ·exact⟨Int.le_refl 0,hm⟩
def c2f(n:Nat)(s:PS)(o:List Int):List Int×PS:=((datP n s o).1,(datP n s o).2.need ⟨[93]⟩)
def b3w(n:Nat)(s:RS)(o:List Int):List Int×RS:=((datR n s o).1,(datR n s o).2.need ⟨[93]⟩)
def c2k{s:RS}{o:List Int}(h:s.bad=true): ∀ n,datR n s o=(o,s)
 | 0=>rfl
 | n+1=>by rw[datR,if_neg (by rw[YO h,XA h];decide)]
def LQ: ∀ (n:Nat) {s:RS} (o:List Int),s.wide=true->(datR n s o).2.wide=true
 | 0,s,o,h=>h
 | n+1,s,o,h=>by
  rw[datR];split
  ·split
   ·exact LQ n _ ((Qu (m:=2147483648)).mono _ h)
   ·exact LQ n _ ((Qu (m:=2147483648)).mono _ h)
  ·exact h
def d8l{z:Int}{tb:Bool}: ∀ (n:Nat) {s:PS} {r:RS} (o:List Int),Sim z tb s r->Sb Vn z tb Eq Eq (c2f n s o) (b3w n r o)
 | 0,s,r,o,h=>((YK (w:=⟨[93]⟩) (by decide)).sim z tb s r h).map (φ:=λ_=>o) (ψ:=λ_=>o) (λ_ _ _=>rfl) λ_ _ _=>rfl
 | n+1,s,r,o,h=>by
  have nd:=((YK (w:=⟨[93]⟩) (by decide)).sim z tb s r h).map (S':=Eq) (R':=Eq) (φ:=λ_=>o) (ψ:=λ_=>o) (λ_ _ _=>rfl) λ_ _ _=>rfl
  have go : ∀ {l:PS} {i:RS} (f:Int->Int) (g:Int->Int),(∀ x,0<=x->x<=2147483648->f x=g x)->Sim z tb l i->Sb Vn z tb Eq Eq (c2f n (l.num 2147483648).2 (o++[f (l.num 2147483648).1])) (b3w n (i.num 2147483648).2 (o++[g (i.num 2147483648).1])):=λ{l i} f g hf h'=>by
   rcases (Qu (m:=2147483648)).sim z tb l i h' with ⟨h1,e,_⟩|⟨hb,A⟩
   ·have e:(l.num 2147483648).1=(i.num 2147483648).1:=e;have q:=h2l (s:=l) (m:=2147483648) (by decide);rw[hf _ q.1 q.2,e];exact d8l n _ h1
   ·have hb:(i.num 2147483648).2.bad=true:=hb;have u:(b3w n (i.num 2147483648).2 (o++[g (i.num 2147483648).1])).2=(i.num 2147483648).2:=by unfold b3w;rw[c2k hb];exact DY hb
    refine Ia ⟨by rw[u];exact hb,?_⟩;rw[u];exact(ZL.datP n _ A.st).need (by decide)
  have j:(s.peek 0).k=3-> ∀ w,s.next w=false:=λh3 w=>by unfold IL;rw[h3];rfl
  unfold c2f b3w;rw[datP,datR,if_neg (by rw[h.bad];decide),h.is,h.kind (by decide)];by_cases k3:(s.peek 0).k=3
  ·rw[decide_eq_true k3,j k3,j k3];have u:s.sgs=s:=if_neg (by rw[j k3];decide);have b:s.sgn=1:=if_neg (by rw[j k3];decide);rw[u,b];refine go (λx=>Ic.wrap (1*x)) (λx=>x) (λx h1 h2=> ?_) h;show Ic.wrap (1*x)=x;rw[Int.one_mul];exact Xd (by omega) (by omega)
  ·rw[decide_eq_false k3,aD];cases e:s.next ⟨[93]⟩with
   | true=>
    have b:s.next ⟨[45]⟩=false:=by
     cases b:s.next ⟨[45]⟩with
     | false=>rfl
     | true=>have a:=Mw e;rw[Mw b]at a;exact absurd a (by decide)
    rw[b];exact nd
   | false=>
    cases b:s.next ⟨[45]⟩with
    | true=>have B:s.sgs=s.step:=if_pos b;have y:s.sgn = -1:=if_pos b;rw[B,y];refine go (λx=>Ic.wrap (-1*x)) (λx=>Ic.wrap (-x)) (λx h1 h2=> ?_) (h.step (Zt b));show Ic.wrap (-1*x)=Ic.wrap (-x);rw[show -1*x = -x by omega]
    | false=>have B:s.sgs=s:=if_neg (by rw[b];decide);have y:s.num 2147483648=(0,s.fail):=if_neg (λk=>k3 k.1);have C:r.need ⟨[93]⟩=r.fail:=DW (by rw[h.is];exact e);rw[B,y];show Sb Vn z tb Eq Eq (c2f n s.fail (o++[Ic.wrap (s.sgn*0)])) (o,r.need ⟨[93]⟩);rw[C];exact Ia ⟨rfl,(ZL.datP n _ h.fail.2.st).need (by decide)⟩
def g8g(n:Nat)(o:List Int):Twin Vn Eq Eq (λs=>c2f n s o) (λr=>b3w n r o):=by
 refine⟨λz tb s r h=>d8l n o h,λq s h=>(ZL.datP n _ h).need (by decide),λr h=> ?_,λr h=> ?_⟩
 ·unfold b3w;rw[c2k h];exact DY h
 ·exact(YK (w:=⟨[93]⟩) (by decide)).mono _ (LQ n o h)
def b8e(n:Nat):PS->(List Int×List Int)×PS:=bP (Qk ⟨[91]⟩) λ_=>bP (λs=>numsP n s []) λd=>bP (Qk ⟨[58]⟩) λ_=>twP (λx=>(d,x)) λs=>c2f n s []
def b7s(n:Nat):RS->(List Int×List Int)×RS:=bR (Uv ⟨[91]⟩) λ_=>bR (λs=>numsR n s []) λd=>bR (Uv ⟨[58]⟩) λ_=>twR (λx=>(d,x)) λs=>b3w n s []
def PP(n:Nat):Twin Vn Eq Eq (b8e n) (b7s n):=Twin.bindE (YK (by decide)).st λ_=>Twin.bindE (b8x n []) λd=>Twin.bindE (YK (by decide)).st λ_=>(g8g n []).map (λa b e=>by rw[e]) λa b e=>by rw[e]
def f7a(s:PS)(ln:Int):Tm×PS:=(.mk {Tz 3 ln with elem:=s.arr.1.e,dims:=s.arr.1.d,data:=s.arr.1.x} [],s.arr.2)
def d8y(s:PS)(ln:Int):f7a s ln=(.mk {Tz 3 ln with elem:=⟨if s.arB then Y8 else XR⟩,dims:=(b8e (s.l.length+1) (if s.arB then s.step else s)).1.1,data:=(b8e (s.l.length+1) (if s.arB then s.step else s)).1.2} [],(b8e (s.l.length+1) (if s.arB then s.step else s)).2):=by simp only[f7a,PS.arr,PS.ar3,PS.ar2,PS.ar1,b8e,bP,twP,Qk,c2f]
def b4v{r:RS}{ln:Int}(h:(r.kind 1&&decide ((r.tok 0).t≠⟨[98]⟩))=false):r.con ln=(.mk {Tz 3 ln with elem:=⟨if r.kind 1 then Y8 else XR⟩,dims:=(b7s (r.l.length+1) (if r.kind 1 then r.step else r)).1.1,data:=(b7s (r.l.length+1) (if r.kind 1 then r.step else r)).1.2} [],(b7s (r.l.length+1) (if r.kind 1 then r.step else r)).2):=by unfold aO;rw[if_neg (by rw[h];decide)];simp only[RS.con2,RS.con1,aJ,b7s,bR,twR,Uv,b3w]
def d8e(ln:Int):Twin Vn An Eq (λs=>f7a s ln) (λr=>r.con ln):=by
 refine⟨λz tb s r h=> ?_,λo s h=> ?_,λr h=> ?_,λr h=> ?_⟩
 ·show Sb Vn z tb An Eq (f7a s ln) (r.con ln);have go : ∀ {j:PS} {q:RS} (e:List UInt8),Sim z tb j q->Sb Vn z tb An Eq (Tm.mk {Tz 3 ln with elem:=⟨e⟩,dims:=(b8e (s.l.length+1) j).1.1,data:=(b8e (s.l.length+1) j).1.2} [],(b8e (s.l.length+1) j).2) (Tm.mk {Tz 3 ln with elem:=⟨e⟩,dims:=(b7s (s.l.length+1) q).1.1,data:=(b7s (s.l.length+1) q).1.2} [],(b7s (s.l.length+1) q).2):=λ{j q} e h'=>((PP (s.l.length+1)).sim z tb j q h').map (φ:=λx=>Tm.mk {Tz 3 ln with elem:=⟨e⟩,dims:=x.1,data:=x.2} []) (ψ:=λx=>Tm.mk {Tz 3 ln with elem:=⟨e⟩,dims:=x.1,data:=x.2} []) (λ_ _ _=>trivial) λa b e=>by rw[e]
  rw[d8y];by_cases k1:(s.peek 0).k=1
  ·have hi:=Y2 (s:=s) (by omega);have g:r.kind 1=true:=by rw[h.kind (by decide)];exact decide_eq_true k1
   by_cases kb:(s.peek 0).t=⟨[98]⟩
   ·have i:s.arB=true:=by unfold aF;rw[decide_eq_true k1,decide_eq_true kb];rfl
    rw[b4v (by rw[h.tok hi,kb];simp),i,g,h.c.l];exact go Y8 (h.step hi)
   ·have i:s.arB=false:=by unfold aF;rw[decide_eq_false kb,Ik]
    have A:r.con ln=(.mk {Tz 3 ln with elem:=⟨XR⟩} [],r.fail):=if_pos (by rw[g,h.tok hi,decide_eq_true kb];rfl);rw[i,A];refine Ia ⟨rfl,?_⟩
    have y:s.need ⟨[91]⟩=s.fail:=if_neg (by
     unfold IL;rw[k1]
     simp)
    have u:=h.fail.2;show Vn (off z r.fail) (c2f (s.l.length+1) ((numsP (s.l.length+1) (s.need ⟨[91]⟩) []).2.need ⟨[58]⟩) []).2;rw[y,u.st.numsP];exact(ZL.datP _ _ (u.st.need (w:=⟨[58]⟩) (by decide)).st).need (by decide)
  ·have g:r.kind 1=false:=by rw[h.kind (by decide)];exact decide_eq_false k1
   have i:s.arB=false:=by unfold aF;rw[decide_eq_false k1];rfl
   rw[b4v (by rw[g];rfl),i,g,h.c.l];exact go XR h
 ·show Vn o (f7a s ln).2;rw[d8y];have i:s.arB=false:=by unfold aF;rw[decide_eq_false h.k1];rfl
  rw[i];exact(PP _).keep o s h
 ·have g:r.kind 1=false:=YO h;show(r.con ln).2=r;rw[b4v (by rw[g];rfl),g];exact(PP _).stay r h
 ·show(r.con ln).2.wide=true;cases e:(r.kind 1&&decide ((r.tok 0).t≠⟨[98]⟩))with
  | true=>rw[show r.con ln=(.mk {Tz 3 ln with elem:=⟨XR⟩} [],r.fail)from if_pos e];exact h
  | false=>rw[b4v e];refine(PP _).mono _ ?_;split <;> exact h
end
section
def c8d:Twin ZL An Eq PS.sizesN RS.sizesN:=by
 refine(Twin.bindE (P5 (w:=⟨[91]⟩) (by decide)) (f:=λb=>if b then(λs=>((listL Im s).1,(listL Im s).2.need ⟨[93]⟩))else puP []) (g:=λb=>if b then(λr=>((XK Il r).1,(XK Il r).2.need ⟨[93]⟩))else puR []) λb=> ?_).eq (funext λs=> ?_) (funext λr=> ?_)
 ·cases b with
  | true=>exact c8w.st
  | false=>exact Twin.pure trivial rfl
 ·rw[PN];rfl
 ·rw[PZ];rfl
def d3k:Twin ZL Eq Eq aP aQ:=by
 refine(Twin.bindE (P5 (w:=⟨[123]⟩) (by decide)) (f:=λb=>if b then(bP (g8z 2147483648) λx=>twP (λ_=>x) (Qk ⟨[125]⟩))else puP 0) (g:=λb=>if b then(bR (e1r 2147483648) λx=>twR (λ_=>x) (Uv ⟨[125]⟩))else puR 0) λb=> ?_).eq (funext λs=> ?_) (funext λr=> ?_)
 ·cases b with
  | true=>exact Twin.bindE (Qu (m:=2147483648)).st λx=>((YK (w:=⟨[125]⟩) (by decide)).map (S':=Eq) (R':=Eq) (φ:=λ_=>x) (ψ:=λ_=>x) (λ_ _ _=>rfl) λ_ _ _=>rfl).st
  | false=>exact Twin.pure rfl rfl
 ·rw[PN];rfl
 ·rw[PZ];rfl
def d4s:Twin ZL Eq Eq aR aS:=by
 refine(Twin.bindE (P5 (w:=⟨[64]⟩) (by decide)) (f:=λb=>if b then(bP (Qk ⟨[40]⟩) λ_=>(λs=>((listL aL s).1,(listL aL s).2.need ⟨[41]⟩)))else puP []) (g:=λb=>if b then(bR (Uv ⟨[40]⟩) λ_=>(λr=>((XK IE r).1,(XK IE r).2.need ⟨[41]⟩)))else puR []) λb=> ?_).eq (funext λs=> ?_) (funext λr=> ?_)
 ·cases b with
  | true=>exact Twin.bindE (YK (by decide)).st λ_=>(c6t (by decide) g0c.st).st
  | false=>exact Twin.pure rfl rfl
 ·rw[PN];rfl
 ·rw[PZ];rfl
section
variable {ex:PS->Tm×PS} {ex':RS->Tm×RS}
theorem SV{w:Str}(a:w.s ∉ a2r)(b:Twin ZL An Eq ex ex'):Twin Vn An Eq (λs=>((listL ex s).1,(listL ex s).2.need w)) (listR ex' w):=a4h a b
theorem g0a{s:PS}(h:s.bad=false):(if s.bad then(([]:List Tm),s.need ⟨[41]⟩)else if s.next ⟨[41]⟩then([],s.need ⟨[41]⟩)else((listL ex s).1,(listL ex s).2.need ⟨[41]⟩))=bP (a4d ⟨[41]⟩) (λb=>if b then puP []else λs=>((listL ex s).1,(listL ex s).2.need ⟨[41]⟩)) s:=by
 rw[if_neg (by rw[h];decide),PN];cases e:s.next ⟨[41]⟩with
 | true=>rw[if_pos rfl,if_pos rfl,show s.need ⟨[41]⟩=s.step from if_pos e];rfl
 | false=>rfl
theorem g3b(k:Twin ZL An Eq ex ex'):Twin Vn An Eq (VF ex) (kidsR ex'):=by
 have j:Twin ZL An Eq (bP (a4d ⟨[41]⟩) (λb=>if b then puP []else λs=>((listL ex s).1,(listL ex s).2.need ⟨[41]⟩))) (bR (Oa ⟨[41]⟩) (λb=>if b then puR []else listR ex' ⟨[41]⟩)):=Twin.bindE (P5 (by decide)) λb=>by
  cases b with
  | true=>exact Twin.pure trivial rfl
  | false=>exact(SV (by decide) k).st
 have g : ∀ r:RS,kidsR ex' r=bR (Oa ⟨[41]⟩) (λb=>if b then puR []else listR ex' ⟨[41]⟩) (r.need ⟨[40]⟩):=λr=>by rw[PZ];rfl
 refine⟨λz tb s r h=> ?_,λo s h=> ?_,λr h=> ?_,λr h=> ?_⟩
 ·rcases (YK (w:=⟨[40]⟩) (by decide)).sim z tb s r h with ⟨h1,_,_⟩|⟨hb,a⟩
  ·have h1:Sim z tb (s.need ⟨[40]⟩) (r.need ⟨[40]⟩):=h1;rw[g];unfold VF;rw[g0a h1.bad,PN,PZ,h1.is];cases e:(s.need ⟨[40]⟩).next ⟨[41]⟩with
   | true=>exact Cm ⟨h1.step (Zt e),trivial,λ_=>rfl⟩
   | false=>exact(SV (by decide) k).sim z tb _ _ h1
  ·have hb:(r.need ⟨[40]⟩).bad=true:=hb;have a:Vn (off z (r.need ⟨[40]⟩)) (s.need ⟨[40]⟩):=a;have i:(kidsR ex' r).2=r.need ⟨[40]⟩:=by rw[g];exact j.stay _ hb
   refine Ia ⟨by rw[i];exact hb,?_⟩;rw[i];unfold VF;rw[if_pos a.1];exact a.st.need (by decide)
 ·have h1:=h.need (w:=⟨[40]⟩) (by decide);unfold VF;rw[if_pos h1.1];exact h1.st.need (by decide)
 ·have i:r.need ⟨[40]⟩=r:=DY h;rw[g,i];exact j.stay r h
 ·rw[g];exact j.mono _ ((YK (w:=⟨[40]⟩) (by decide)).mono r h)
theorem JM(h:Twin ZL An Eq ex ex')(ln:Int)(n:Str):Twin Vn An Eq (QD ex ln n) (callR0 ex' ln n):=(Twin.bindT (f:=λz=>bP aP λf=>bP aR λk=>twP (λks=>Tm.mk {Bw with kind:=6,line:=ln,name:=n,num:=f,sizes:=z,ranks:=k} ks) (VF ex)) (g:=λz=>bR aQ λf=>bR aS λk=>twR (λks=>Tm.mk {Bw with kind:=6,line:=ln,name:=n,num:=f,sizes:=z,ranks:=k} ks) (kidsR ex')) ([]:List Lin) ([]:List Lin) c8d λa b=>Twin.bindE d3k λf=>Twin.bindE d4s λk=>(g3b h).map (λ_ _ _=>trivial) λx y e q=>by rw[e,q]).eq rfl rfl
end
def f6f{n:List UInt8}(h : ∀ c∈n,c≠46)(r:List UInt8):(n++46::r).takeWhile (λc=>c != 46)=n∧(n++46::r).dropWhile (λc=>c != 46)=46::r:=by
 induction n with
 | nil=>exact⟨by rw[I4,IQ];rfl,by rw[I4,Iu];rfl⟩
 | cons c n ih=>
  have h1:(c != 46)=true:=by simpa using h c (IU ..)
  have h2:=ih λx a=>h x (IP _ a)
  rw[List.cons_append,IQ,Iu,h1];exact⟨by rw[if_pos rfl,h2.1],by rw[if_pos rfl];exact h2.2⟩
def e4o{n:List UInt8}(h : ∀ c∈n,c≠46):n.dropWhile (λc=>c != 46)=[]:=by
 induction n with
 | nil=>rfl
 | cons c n ih=>
  have h1:(c != 46)=true:=by simpa using h c (IU ..)
  rw[Iu,h1,if_pos rfl];exact ih λx a=>h x (IP _ a)
def a7i{n:List UInt8}(h:nameI n=true): ∀ c∈n,c≠46:=by
 cases n with
 | nil=>cases h
 | cons c r=>
  unfold nameI at h;simp only[Ig,IG]at h;intro x a e;subst e;rcases List.mem_cons.1 a with a|a
  ·rw[<- a]at h;exact absurd h.1.1.1 (by decide)
  ·exact absurd (h.1.1.2 _ a) (by decide)
def g8q{n:List UInt8}(h:nameI n=true):fullI n=false:=by unfold fullI;rw[e4o (a7i h)]
def f8x{n m:List UInt8}(h:nameI n=true)(k:nameI m=true):fullI (n++([46]++m))=true:=by have e:=f6f (a7i h) m;unfold fullI;rw[show n++([46]++m)=n++46::m from rfl,e.2,e.1,h];show(true&&nameI m)=true;rw[k];rfl
def d1o{z:Int}{tb:Bool}{s:PS}{r:RS}(h:Sim z tb s r)(a:r.func.2.bad=false):r.func.2.plain r.func.1=s.func.2.plain s.func.1:=by
 rcases Uc.sim z tb s r h with ⟨g,u,_⟩|⟨hb,_⟩
 ·have u:s.func.1=r.func.1:=u;unfold Ip PS.plain;rw[g.is,g.is,g.is,g.is,g.c.rbad,<- u];congr 1;by_cases k1:(s.peek 0).k=1
  ·have hi:=Y2 (s:=s) (by omega);have D:s.name=((s.peek 0).t,s.step):=if_pos k1;have j:r.name=((s.peek 0).t,r.step):=by rw[<- h.tok (show s.i+0<s.l.length by omega)];exact if_pos (by rw[h.kind (by decide)];simpa using k1)
   have C:=a2c h.lx k1;have h1:=h.step hi;cases q:s.step.next ⟨[46]⟩with
   | false=>
    have B:s.func=((s.peek 0).t,s.step):=by unfold IA;rw[D];exact if_neg (by rw[q];decide)
    have b:r.func=((s.peek 0).t,r.step):=by unfold Ir;rw[j];exact if_neg (by rw[h1.is,q];decide)
    rw[B,b,g8q C];show(!false&&decide ((r.l.getD (r.i+1 - 1) ⟨0,⟨[]⟩,0,0⟩).t=_))=_;rw[show r.l.getD (r.i+1 - 1) ⟨0,⟨[]⟩,0,0⟩=r.tok 0 from rfl,h.tok hi];simp
   | true=>
    have B:s.func=(⟨(s.peek 0).t.s++([46]++s.step.step.name.1.s)⟩,s.step.step.name.2):=by unfold IA;rw[D];exact if_pos q
    have b:r.func=(⟨(s.peek 0).t.s++([46]++r.step.step.name.1.s)⟩,r.step.step.name.2):=by unfold Ir;rw[j];exact if_pos (by rw[h1.is,q])
    have h2:=h1.step (Zt q);rw[b]at a;by_cases k2:(s.step.step.peek 0).k=1
    ·have A:=Y2 (s:=s.step.step) (by omega);have F:s.step.step.name=((s.step.step.peek 0).t,s.step.step.step):=if_pos k2;have y:r.step.step.name=((s.step.step.peek 0).t,r.step.step.step):=by rw[<- h2.tok (show s.step.step.i+0<s.step.step.l.length by omega)];exact if_pos (by rw[h2.kind (by decide)];simpa using k2)
     have E:=a2c h2.lx k2;rw[B,b,F,y];dsimp only;rw[f8x C E];show(!false&&decide ((r.step.step.l.getD (r.step.step.i+1 - 1) ⟨0,⟨[]⟩,0,0⟩).t=_))=_;rw[show r.step.step.l.getD (r.step.step.i+1 - 1) ⟨0,⟨[]⟩,0,0⟩=r.step.step.tok 0 from rfl,h2.tok A,decide_eq_false]
     ·rfl
     ·intro e;have e:=congrArg (λx:Str=>x.s.length) e;simp at e;omega
    ·have y:r.step.step.name=(⟨[]⟩,r.step.step.fail):=if_neg (by rw[h2.kind (by decide)];simpa using k2);rw[y]at a;cases a
  ·have j:r.name=(⟨[]⟩,r.fail):=if_neg (by rw[h.kind (by decide)];simpa using k1);have b:r.func=(⟨[]⟩,r.fail):=by unfold Ir;rw[j];exact if_neg (by rw[XA (show r.fail.bad=true from rfl)];decide)
   rw[b]at a;cases a
 ·rw[hb]at a;cases a
section
variable {ex:PS->Tm×PS} {ex':RS->Tm×RS}
def c9r(ex:PS->Tm×PS)(ln:Int)(s:PS):Tm×PS:=if s.func.2.plain s.func.1 then(.mk (V7 1 ln s.func.1) [],s.func.2)else QD ex ln s.func.1 s.func.2
theorem a6s(a:Twin ZL An Eq ex ex')(ln:Int):Twin Vn An Eq (c9r ex ln) (callRR ex' ln):=by
 refine⟨λz tb s r h=> ?_,λo s h=> ?_,λr h=> ?_,λr h=> ?_⟩
 ·unfold c9r callRR;rcases Uc.sim z tb s r h with ⟨g,i,_⟩|⟨hb,b⟩
  ·have i:s.func.1=r.func.1:=i;rw[d1o h g.c.rbad,<- i];cases e:s.func.2.plain s.func.1 with
   | true=>exact Cm ⟨g,trivial,λ_=>rfl⟩
   | false=>exact(JM a ln _).sim z tb _ _ g
  ·have e:r.func.2.plain r.func.1=false:=by unfold Ip;rw[hb];rfl
   rw[if_neg (show ¬ r.func.2.plain r.func.1=true by rw[e];decide)];have j:(callR0 ex' ln r.func.1 r.func.2).2=r.func.2:=(JM a ln _).stay _ hb;refine Ia ⟨by rw[j];exact hb,?_⟩;rw[j];split
   ·exact b
   ·exact(JM a ln _).keep _ _ b.st
 ·unfold c9r;split
  ·exact h.func
  ·exact(JM a ln _).keep _ _ h.func.st
 ·unfold callRR;have k:r.func.2=r:=Uc.stay r h;rw[if_neg (by rw[k];unfold Ip;rw[h];simp),k];exact(JM a ln _).stay r h
 ·unfold callRR;split
  ·exact Uc.mono r h
  ·exact(JM a ln _).mono _ (Uc.mono r h)
def d9a(ex:RS->Tm×RS)(ln:Int)(q:RS):Tm×RS:=(.mk (V7 8 ln (q.need ⟨[40]⟩).func.1) (foldK ex 2 (q.need ⟨[40]⟩).func.2 []).1,(foldK ex 2 (q.need ⟨[40]⟩).func.2 []).2.need ⟨[41]⟩)
def d9q(ex:RS->Tm×RS)(ln:Int)(q:RS):Tm×RS:=(.mk (V7 9 ln (q.need ⟨[40]⟩).func.1) (foldK ex 1 (q.need ⟨[40]⟩).func.2 []).1,(foldK ex 1 (q.need ⟨[40]⟩).func.2 []).2.need ⟨[41]⟩)
theorem Pv{ex:RS->Tm×RS}{s:RS}{o:List Tm}(h:s.bad=true): ∀ k,foldK ex k s o=(o,s)
 | 0=>rfl
 | k+1=>by rw[foldK,if_pos h]
theorem b2j{ex:RS->Tm×RS}{k:Nat}{s:RS}{o:List Tm}(h:s.bad=false):foldK ex (k+1) s o=foldK ex k (ex (s.need ⟨[44]⟩)).2 (o++[(ex (s.need ⟨[44]⟩)).1]):=by rw[foldK,if_neg (by rw[h];decide)]
def i6w(ex:PS->Tm×PS)(ln:Int):PS->Tm×PS:=bP (Qk ⟨[40]⟩) λ_=>bP IA λa=>bP (Qk ⟨[44]⟩) λ_=>bP ex λb=>bP (Qk ⟨[44]⟩) λ_=>bP ex λc=>twP (λ_=>Tm.mk (V7 8 ln a) [b,c]) (Qk ⟨[41]⟩)
def g1q(ex:RS->Tm×RS)(ln:Int):RS->Tm×RS:=bR (Uv ⟨[40]⟩) λ_=>bR Ir λa=>bR (Uv ⟨[44]⟩) λ_=>bR ex λb=>bR (Uv ⟨[44]⟩) λ_=>bR ex λc=>twR (λ_=>Tm.mk (V7 8 ln a) [b,c]) (Uv ⟨[41]⟩)
def i2k(ex:PS->Tm×PS)(ln:Int):PS->Tm×PS:=bP (Qk ⟨[40]⟩) λ_=>bP IA λa=>bP (Qk ⟨[44]⟩) λ_=>bP ex λb=>twP (λ_=>Tm.mk (V7 9 ln a) [b]) (Qk ⟨[41]⟩)
def g4v(ex:RS->Tm×RS)(ln:Int):RS->Tm×RS:=bR (Uv ⟨[40]⟩) λ_=>bR Ir λa=>bR (Uv ⟨[44]⟩) λ_=>bR ex λb=>twR (λ_=>Tm.mk (V7 9 ln a) [b]) (Uv ⟨[41]⟩)
theorem Hr{r:RS}{w:Str}(h:r.bad=true):r.need w=r:=DY h
theorem f2d(e:Twin ZL An Eq ex ex')(ln:Int):Twin Vn An Eq (P9 ex ln) (d9a ex' ln):=by
 have t:Twin Vn An Eq (i6w ex ln) (g1q ex' ln):=Twin.bindE (YK (by decide)).st λ_=>Twin.bindE Uc.st λa=>Twin.bindE (YK (by decide)).st λ_=>Twin.bindT (.mk Bw []) (.mk Bw []) e λb b'=>Twin.bindE (YK (by decide)).st λ_=>Twin.bindT (.mk Bw []) (.mk Bw []) e λc c'=>(YK (by decide)).map (λ_ _ _=>trivial) λ_ _ _ h g=>by rw[h,g]
 refine t.congr (λs _=>rfl) t.keep λr=> ?_
 show(d9a ex' ln r).2=_∧_;unfold d9a g1q bR twR Uv;dsimp only;generalize (r.need ⟨[40]⟩).func=a;cases ha:a.2.bad with
 | true=>rw[Pv ha,Hr ha,Hr ha,e.stay _ ha,Hr ha,e.stay _ ha];exact⟨(Hr ha).symm,λq=>by rw[ha]at q;cases q⟩
 | false=>
  rw[b2j ha];generalize ex' (a.2.need ⟨[44]⟩)=b;cases hb:b.2.bad with
  | true=>rw[Pv hb,Hr hb,Hr hb,e.stay _ hb];exact⟨(Hr hb).symm,λq=>by rw[hb]at q;cases q⟩
  | false=>rw[b2j hb];exact⟨rfl,λ_=>rfl⟩
theorem f9h(e:Twin ZL An Eq ex ex')(ln:Int):Twin Vn An Eq (R9 ex ln) (d9q ex' ln):=by
 have t:Twin Vn An Eq (i2k ex ln) (g4v ex' ln):=Twin.bindE (YK (by decide)).st λ_=>Twin.bindE Uc.st λa=>Twin.bindE (YK (by decide)).st λ_=>Twin.bindT (.mk Bw []) (.mk Bw []) e λb b'=>(YK (by decide)).map (λ_ _ _=>trivial) λ_ _ _ g=>by rw[g]
 refine t.congr (λs _=>rfl) t.keep λr=> ?_
 show(d9q ex' ln r).2=_∧_;unfold d9q g4v bR twR Uv;dsimp only;generalize (r.need ⟨[40]⟩).func=a;cases ha:a.2.bad with
 | true=>rw[Pv ha,Hr ha,Hr ha,e.stay _ ha];exact⟨(Hr ha).symm,λq=>by rw[ha]at q;cases q⟩
 | false=>rw[b2j ha];exact⟨rfl,λ_=>rfl⟩
theorem a8y(ln:Int):Twin Vn An Eq (AB ln) (sizeR0 ln):=(Twin.bindE (f:=λ_=>bP Im λl=>twP (λ_=>Tm.mk {Tz 4 ln with sizes:=[l]} []) (Qk ⟨[93]⟩)) (g:=λ_=>bR Il λl=>twR (λ_=>Tm.mk {Tz 4 ln with sizes:=[l]} []) (Uv ⟨[93]⟩)) (YK (w:=⟨[91]⟩) (by decide)).st λ_=>Twin.bindT ⟨0,[]⟩ ⟨0,[]⟩ a1h.st λa b=>(YK (by decide)).map (λ_ _ _=>trivial) λ_ _ _ e=>by rw[e]).eq rfl rfl
theorem d7d(h:Twin ZL An Eq ex ex'):Twin Vn An Eq (λs=>((ex s).1,(ex s).2.need ⟨[41]⟩)) (λr=>((ex' r).1,(ex' r).2.need ⟨[41]⟩)):=(Twin.bindT (f:=λt=>twP (λ_=>t) (Qk ⟨[41]⟩)) (g:=λt=>twR (λ_=>t) (Uv ⟨[41]⟩)) (.mk Bw []) (.mk Bw []) h λa b=>(YK (by decide)).map (λ_ _ _=>trivial) λ_ _ _ e=>e).eq rfl rfl
theorem Pw{s:PS}{w w':Str}(h:s.next w=true)(a:w≠w'):s.next w'=false:=by
 cases e:s.next w' with
 | false=>rfl
 | true=>exact absurd ((Mw h).symm.trans (Mw e)) a
theorem i7o{s:PS}{w:Str}(h:s.next w=true):(s.peek 0).k=2∨(s.peek 0).k=4:=by unfold IL at h;simp only[Ig,Iq,decide_eq_true_eq]at h;exact h.1
theorem i8s{s:PS}{w:Str}(h:(s.peek 0).k=1∨(s.peek 0).k=3):s.next w=false:=by
 cases e:s.next w with
 | false=>rfl
 | true=>have:=i7o e;omega
theorem c4y{o:Int}{s:PS}(h:ZL o s):Wd ex s=(.mk (Tz 0 (s.peek 0).ln) [],s.fail):=by have k:s.next ⟨[116,114,117,101]⟩=false:=h.next (by decide);have l:s.next ⟨[102,97,108,115,101]⟩=false:=h.next (by decide);have g:s.next ⟨[40]⟩=false:=h.next (by decide);have e:s.next ⟨[91]⟩=false:=h.next (by decide);have b:s.next ⟨[102,111,108,100]⟩=false:=h.next (by decide);have j:s.next ⟨[115,99,97,110]⟩=false:=h.next (by decide);have a:s.next ⟨[115,105,122,101]⟩=false:=h.next (by decide);have i:s.next ⟨[35]⟩=false:=h.next (by decide);unfold Wd;dsimp only;rw[if_neg h.k3,if_neg h.k1,k,l,g,e,b,j,a,i];rfl
theorem e7o(hx:Twin ZL An Eq ex ex'){r:RS}{ln:Int}(h:r.bad=true):(loopR ex' ln r).2=r:=by unfold loopR;dsimp only;rw[if_neg (by rw[XA h];decide),Hr h,Hr h];have e:r.func.2=r:=Uc.stay r h;rw[e,Pv h];exact Hr h
theorem RI(a:Twin ZL An Eq ex ex'): ∀ (k:Nat) {r:RS} (o:List Tm),r.wide=true->(foldK ex' k r o).2.wide=true
 | 0,r,o,h=>h
 | k+1,r,o,h=>by
  rw[foldK];split
  ·exact h
  ·exact RI a k _ (a.mono _ ((YK (w:=⟨[44]⟩) (by decide)).mono r h))
theorem nm{r:RS}{w:Str}(h:r.wide=true):(r.need w).wide=true:=by unfold aH;split <;> exact h
theorem e3c(a:Twin ZL An Eq ex ex'){r:RS}{ln:Int}(h:r.wide=true):(loopR ex' ln r).2.wide=true:=by
 unfold loopR;dsimp only;split
 ·exact nm (RI a 2 _ (Uc.mono _ (nm (show r.step.wide=true from h))))
 ·exact nm (RI a 1 _ (Uc.mono _ (nm (nm h))))
theorem PX(g:Twin ZL An Eq ex ex'):Twin Vn An Eq (Wd ex) (primR ex'):=by
 refine⟨λz tb s r h=> ?_,λo s h=> ?_,λr h=> ?_,λr h=> ?_⟩
 ·have D:r.kind 3=decide ((s.peek 0).k=3):=h.kind (by decide);have H:r.kind 1=decide ((s.peek 0).k=1):=h.kind (by decide);unfold Wd primR;dsimp only;rw[h.line,D,H,h.is,h.is,h.is,h.is,h.is,h.is];by_cases k3:(s.peek 0).k=3
  ·rw[if_pos k3,if_pos (decide_eq_true k3)];exact((Qu (m:=2147483647)).sim z tb s r h).map (φ:=λn=>Tm.mk {V7 2 (s.peek 0).ln ⟨XR⟩with num:=n} []) (ψ:=λn=>Tm.mk {V7 2 (s.peek 0).ln ⟨XR⟩with num:=n} []) (λ_ _ _=>trivial) λa b e=>by rw[e]
  rw[if_neg k3,if_neg (show ¬ decide ((s.peek 0).k=3)=true by simpa using k3)];by_cases k1:(s.peek 0).k=1
  ·have u:=λw=>i8s (s:=s) (w:=w) (Cm k1)
   rw[if_pos k1,u,u,if_neg (by decide),if_neg (by decide),if_pos (decide_eq_true k1)];exact(a6s g (s.peek 0).ln).sim z tb s r h
  rw[if_neg k1,decide_eq_false k1];cases B:s.next ⟨[116,114,117,101]⟩with
  | true=>exact Cm ⟨h.step (Zt B),trivial,λ_=>rfl⟩
  | false=>
  cases I:s.next ⟨[102,97,108,115,101]⟩with
  | true=>exact Cm ⟨h.step (Zt I),trivial,λ_=>rfl⟩
  | false=>
  cases E:s.next ⟨[40]⟩with
  | true=>exact(d7d g).sim z tb _ _ (h.step (Zt E))
  | false=>
  cases A:s.next ⟨[91]⟩with
  | true=>exact((SV (w:=⟨[93]⟩) (by decide) g).sim z tb _ _ (h.step (Zt A))).map (φ:=λks=>Tm.mk (Tz 7 (s.peek 0).ln) ks) (ψ:=λks=>Tm.mk (Tz 7 (s.peek 0).ln) ks) (λ_ _ _=>trivial) λa b e=>by rw[e]
  | false=>
  cases j:s.next ⟨[102,111,108,100]⟩with
  | true=>rw[Pw (w':=⟨[35]⟩) j (by decide),Pw (w':=⟨[115,105,122,101]⟩) j (by decide)];have i:loopR ex' (s.peek 0).ln r=d9a ex' (s.peek 0).ln r.step:=if_pos (by rw[h.is];exact j);show Sb Vn z tb An Eq (P9 ex (s.peek 0).ln s.step) (loopR ex' (s.peek 0).ln r);rw[i];exact(f2d g _).sim z tb _ _ (h.step (Zt j))
  | false=>
  cases l:s.next ⟨[115,99,97,110]⟩with
  | true=>
   rw[Pw (w':=⟨[35]⟩) l (by decide),Pw (w':=⟨[115,105,122,101]⟩) l (by decide)];have i:loopR ex' (s.peek 0).ln r=d9q ex' (s.peek 0).ln r.step:=by have q:r.need ⟨[115,99,97,110]⟩=r.step:=if_pos (by rw[h.is];exact l);unfold loopR;rw[if_neg (by rw[h.is,j];decide)];dsimp only;rw[q];rfl
   show Sb Vn z tb An Eq (R9 ex (s.peek 0).ln s.step) (loopR ex' (s.peek 0).ln r);rw[i];exact(f9h g _).sim z tb _ _ (h.step (Zt l))
  | false=>
  cases y:s.next ⟨[115,105,122,101]⟩with
  | true=>rw[Pw (w':=⟨[35]⟩) y (by decide)];exact(a8y _).sim z tb _ _ (h.step (Zt y))
  | false=>
  cases C:s.next ⟨[35]⟩with
  | true=>exact(d8e _).sim z tb _ _ (h.step (Zt C))
  | false=>
   have i:(loopR ex' (s.peek 0).ln r).2=r.fail:=by have q:r.need ⟨[115,99,97,110]⟩=r.fail:=DW (by rw[h.is];exact l);have F:r.fail.func.2=r.fail:=Uc.stay _ rfl;unfold loopR;rw[if_neg (by rw[h.is,j];decide)];dsimp only;rw[q,Hr (show r.fail.bad=true from rfl),F,Pv (show r.fail.bad=true from rfl)];exact Hr rfl
   refine Ia ⟨?_,?_⟩
   ·show(loopR ex' (s.peek 0).ln r).2.bad=true;rw[i];rfl
   ·show Vn (off z (loopR ex' (s.peek 0).ln r).2) s.fail;rw[i];exact h.fail.2
 ·rw[c4y h];exact h.fail
 ·unfold primR;dsimp only;rw[YO h,YO h,XA h,XA h,XA h,XA h,XA h,XA h];exact e7o g h
 ·unfold primR;dsimp only;split
  ·exact(Qu (m:=2147483647)).mono r h
  split
  ·exact h
  split
  ·exact h
  split
  ·exact(a6s g _).mono r h
  split
  ·exact(d7d g).mono _ h
  split
  ·exact(SV (w:=⟨[93]⟩) (by decide) g).mono r.step h
  split
  ·exact(d8e _).mono r.step h
  split
  ·exact(a8y _).mono r.step h
  ·exact e3c g h
def Fst(x:Tm×Int)(y:Tm):Prop:=x.1=y
theorem h6p:(Vg ⟨[45]⟩ true).a=⟨[110,101,103]⟩:=by decide
theorem h5h:(Vg ⟨[33]⟩ true).a=⟨[110,111,116]⟩:=by decide
structure SimB (un:PS->(Tm×Int)×PS) (un':RS->Tm×RS):Prop where
 sim : ∀ z tb s r,Sim z tb s r->Sb Vn z tb An Fst (un s) (un' r)
 mono : ∀ r,r.wide=true->(un' r).2.wide=true
theorem h3k(g:Twin ZL An Eq ex ex'){un:PS->(Tm×Int)×PS}{un':RS->Tm×RS}(hu:SimB un un'):Twin Vn An Fst (Di ex un) (unaR ex' un'):=by
 refine⟨λz tb s r h=> ?_,λo s h=> ?_,λr h=> ?_,λr h=> ?_⟩
 ·unfold Di unaR;dsimp only;rw[h.line,h.is,h.is];cases i:s.next ⟨[45]⟩with
  | true=>
   have h1:=h.step (Zt i);have q:r.step.kind 3=decide ((s.peek 1).k=3):=h1.kind (by decide);rw[q,Iz,Bool.true_or];cases e3:decide ((s.peek 1).k=3)with
   | true=>exact((Qu (m:=2147483648)).sim z tb _ _ h1).map (φ:=λn=>((Tm.mk {V7 2 (s.peek 0).ln ⟨XR⟩with num:=Ic.wrap (-n)} [],(s.peek 0).ln):Tm×Int)) (ψ:=λn=>Tm.mk {V7 2 (s.peek 0).ln ⟨XR⟩with num:=Ic.wrap (-n)} []) (λ_ _ _=>trivial) λa b e=>by rw[e];rfl
   | false=>
    rw[Mw i,h6p];exact(hu.sim z tb _ _ h1).map (S':=An) (R':=Fst) (φ:=λt=>((Tm.mk (V7 6 (s.peek 0).ln ⟨[110,101,103]⟩) [t.1],(s.peek 0).ln):Tm×Int)) (ψ:=λt=>Tm.mk (V7 6 (s.peek 0).ln ⟨[110,101,103]⟩) [t]) (λ_ _ _=>trivial) λa b e=>by have e:a.1=b:=e;show Tm.mk _ [a.1]=_;rw[e]
  | false=>
   rw[I7,aD];cases j:s.next ⟨[33]⟩with
   | true=>
    rw[Mw j,h5h];exact(hu.sim z tb _ _ (h.step (Zt j))).map (S':=An) (R':=Fst) (φ:=λt=>((Tm.mk (V7 6 (s.peek 0).ln ⟨[110,111,116]⟩) [t.1],(s.peek 0).ln):Tm×Int)) (ψ:=λt=>Tm.mk (V7 6 (s.peek 0).ln ⟨[110,111,116]⟩) [t]) (λ_ _ _=>trivial) λa b e=>by have e:a.1=b:=e;show Tm.mk _ [a.1]=_;rw[e]
   | false=>exact((PX g).sim z tb s r h).map (φ:=λt=>((t,(s.peek 0).ln):Tm×Int)) (ψ:=λt=>t) (λ_ _ _=>trivial) λa b e=>e
 ·unfold Di;dsimp only;have l:s.next ⟨[45]⟩=false:=h.next (by decide);have u:s.next ⟨[33]⟩=false:=h.next (by decide);rw[l,u];exact(PX g).keep o s h
 ·unfold unaR;dsimp only;rw[XA h,XA h];exact(PX g).stay r h
 ·unfold unaR;dsimp only;split
  ·split
   ·exact(Qu (m:=2147483648)).mono r.step h
   ·exact hu.mono r.step h
  ·split
   ·exact hu.mono r.step h
   ·exact(PX g).mono r h
end
def b9i{t:Str}:(∃ r∈Jh,(r.s=t.s∧r.u=false)∧Vg t false=⟨⟨r.n⟩,r.l,true⟩)∨Vg t false=⟨⟨[]⟩,0,false⟩:=by
 unfold Vg;cases h:c1y t.s false with
 | none=>exact Ia rfl
 | some r=>have h1:=List.mem_of_find?_eq_some h;have h2:=List.find?_some h;simp only[Ig,beq_iff_eq]at h2;exact Cm ⟨r,h1,h2,rfl⟩
def h3w: ∀ r∈Jh,r.u=false->(r.l=3->r.s∈a2r)∧1<=r.l:=by decide
def j3h{t:Str}{lev:Int}(a:lev≠0):((Vg t false).c&&decide ((Vg t false).b=lev))=decide ((Vg t false).b=lev):=by
 rcases b9i (t:=t)with ⟨r,hr,h,e⟩|e
 ·rw[e];simp
 ·rw[e];show(false&&_)=decide ((0:Int)=lev);rw[decide_eq_false (λh=>a h.symm)];rfl
def h2s{t:Str}(h:(Vg t false).b=3):t.s∈a2r:=by
 rcases b9i (t:=t)with ⟨r,hr,a,e⟩|e
 ·rw[e]at h;rw[<- a.1];exact(h3w r hr a.2).1 h
 ·rw[e]at h;exact absurd h (by decide)
def h0e: ∀ w∈a2r,(Vg ⟨w⟩ false).b=3:=by decide
def Sim.oper{z:Int}{tb:Bool}{s:PS}{r:RS}(h:Sim z tb s r){lev:Int}(a:lev≠0):r.oper lev=(s.oper.1.1,decide (s.oper.1.2=lev)):=by
 unfold aM IW;rw[h.kind (by decide)];by_cases k:(s.peek 0).k=4
 ·have hi:=Y2 (s:=s) (by omega);rw[if_pos k,if_pos (decide_eq_true k),h.tok hi,j3h a]
 ·rw[if_neg k,if_neg (by simpa using k)];show(_,false)=(_,decide ((0:Int)=lev));rw[decide_eq_false (λe=>a e.symm)]
def d4l{o:Int}{s:PS}(h:j1z o s):s.oper.1.2=3:=by unfold IW;rw[if_pos h.2.2.1];exact h0e _ h.2.2.2
def c3x{o:Int}{s:PS}(h:Vn o s):s.oper.1.2=0:=by unfold IW;rw[if_neg (by rw[h.peek];decide)]
def SX{fr:RS->Tm×RS}{lev ln:Int}{n:Nat}{r:RS}{t:Tm}(h:r.bad=true):opR fr lev ln n r t=(t,r):=by
 cases n with
 | zero=>rfl
 | succ n=>rw[opR,if_neg];unfold aM;rw[if_neg (by rw[YO h];decide)];decide
def Ag{fr:RS->Tm×RS}{lev ln:Int}(hm : ∀ r,r.wide=true->(fr r).2.wide=true): ∀ (n:Nat) {r:RS} (t:Tm),r.wide=true->(opR fr lev ln n r t).2.wide=true
 | 0,r,t,h=>h
 | n+1,r,t,h=>by
  rw[opR];split
  ·refine Ag hm n _ ?_;split
   ·exact hm r.step h
   ·exact hm r.step h
  ·exact h
def SQ{fr:PS->(Tm×Int)×PS}{lev ln o:Int}{s:PS}{t:Tm}(h:ZL o s)(a:lev≠0)(h3:lev≠3∨Vn o s): ∀ n,opLoop fr lev ln n s t=((t,ln),s)
 | 0=>rfl
 | n+1=>by
  rw[opLoop];split
  ·rfl
  ·rw[if_pos];rcases h with h|h
   ·rw[c3x h];exact λe=>a e.symm
   ·rcases h3 with h3|h3
    ·rw[d4l h];exact λe=>h3 e.symm
    ·rw[c3x h3];exact λe=>a e.symm
def g0m{z:Int}{tb:Bool}{fr:PS->(Tm×Int)×PS}{a:RS->Tm×RS}{K:Int->PS->Prop}(u : ∀ o s,K o s->ZL o s){lev ln:Int}(A:lev≠0)(h3:lev=3-> ∀ o s,K o s->Vn o s)(j:Twin K An Fst fr a): ∀ (n:Nat) {s:PS} {r:RS} {t t':Tm},Sim z tb s r->Sb ZL z tb An (λx y=>t=t'->Fst x y) (opLoop fr lev ln n s t) (opR a lev ln n r t')
 | 0,s,r,t,t',h=>Cm ⟨h,trivial,λ_ e=>e⟩
 | n+1,s,r,t,t',h=>by
  rw[opLoop,opR,if_neg (by rw[h.bad];decide),h.oper A];by_cases e:s.oper.1.2=lev
  ·rw[if_neg (λk=>k e),if_pos (decide_eq_true e)];have hi:s.i<s.l.length:=Si (by rw[e];exact A);have h1:=h.step hi;by_cases e3:lev=3
   ·subst e3;rw[if_pos rfl];rcases j.sim z tb _ _ h1 with ⟨h2,_,v⟩|⟨hb,b⟩
    ·rw[h2.oper (by decide),decide_eq_true (rfl:(3:Int)=3),Bool.and_true];by_cases e4:(fr s.step).2.oper.1.2=3
     ·rw[if_pos (decide_eq_true e4),SX (show(a r.step).2.fail.bad=true from rfl)];refine Ia ⟨rfl,Ia ?_⟩;have B:((fr s.step).2.peek 0).k=4:=by
       by_cases k:((fr s.step).2.peek 0).k=4
       ·exact k
       ·unfold IW at e4;rw[if_neg k]at e4;exact absurd (show(0:Int)=3 from e4) (by decide)
      refine⟨h2.bad,?_,B,?_⟩
      ·exact(h2.c.off).symm
      ·unfold IW at e4;rw[if_pos B]at e4;exact h2s e4
     ·rw[if_neg (by rw[decide_eq_false e4];simp)];have D:opR a 3 ln n (a r.step).2 (.mk (V7 6 ln s.oper.1.1) [t',(a r.step).1])=(.mk (V7 6 ln s.oper.1.1) [t',(a r.step).1],(a r.step).2):=by
       cases n with
       | zero=>rfl
       | succ n=>rw[opR,h2.oper (by decide),if_neg (by rw[decide_eq_false e4];simp)]
      rw[D];refine Cm ⟨h2,trivial,λg q=> ?_⟩;have v:(fr s.step).1.1=(a r.step).1:=v g;show Tm.mk _ [t,(fr s.step).1.1]=Tm.mk _ [t',(a r.step).1];rw[q,v]
    ·have E:((a r.step).2.oper 3).2=false:=by unfold aM;rw[if_neg (by rw[YO hb];decide)]
     rw[E,if_neg (by decide),SX hb];exact Ia ⟨hb,u _ _ b⟩
   ·rw[if_neg e3,decide_eq_false e3,Ik,if_neg (by decide)];rcases j.sim z tb _ _ h1 with ⟨h2,_,v⟩|⟨hb,b⟩
    ·rcases g0m u A h3 j n (t:=.mk (V7 6 ln s.oper.1.1) [t,(fr s.step).1.1]) (t':=.mk (V7 6 ln s.oper.1.1) [t',(a r.step).1]) h2 with ⟨k1,_,k3⟩|k
     ·refine Cm ⟨k1,trivial,λg q=>k3 g ?_⟩
      have v:(fr s.step).1.1=(a r.step).1:=v (by
       cases C:(a r.step).2.wide with
       | false=>rfl
       | true=>rw[Ag j.mono n _ C]at g;cases g)
      rw[q,v]
     ·exact Ia k
    ·rw[SX hb,SQ (u _ _ b) A (Cm e3)];exact Ia ⟨hb,u _ _ b⟩
  ·rw[if_pos e,if_neg (by simpa using e)];exact Cm ⟨h,trivial,λ_ q=>q⟩
def KL(d:Nat):Int->PS->Prop:=if d<=2 then Vn else ZL
def e9n(d:Nat): ∀ o s,KL d o s->ZL o s:=λo s h=>by
 unfold KL at h;split at h
 ·exact h.st
 ·exact h
def i8j{d:Nat}{o:Int}{s:PS}(h:Vn o s):KL d o s:=by
 unfold KL;split
 ·exact h
 ·exact h.st
section
variable {un:PS->(Tm×Int)×PS} {un':RS->Tm×RS}
def EJ(un:PS->(Tm×Int)×PS):Prop:= ∀ s,(un s).1.2=(s.peek 0).ln
theorem b9z{fr:PS->(Tm×Int)×PS}{lev ln:Int}: ∀ (n:Nat) (s:PS) (t:Tm),(opLoop fr lev ln n s t).1.2=ln
 | 0,s,t=>rfl
 | n+1,s,t=>by
  rw[opLoop];split
  ·rfl
  ·split
   ·rfl
   ·split
    ·rfl
    ·exact b9z n _ _
theorem a6x(hu:EJ un): ∀ d,EJ (YD un d)
 | 0=>hu
 | d+1=>λs=>by rw[YD,b9z];exact a6x hu d s
theorem g1n{z:Int}{tb:Bool}{fr:PS->(Tm×Int)×PS}{a:RS->Tm×RS}{lev ln:Int}(g:lev≠0)(h3:lev≠3)(j:Twin Vn An Fst fr a): ∀ (n:Nat) {s:PS} {r:RS} {t t':Tm},Sim z tb s r->Sb Vn z tb An (λx y=>t=t'->Fst x y) (opLoop fr lev ln n s t) (opR a lev ln n r t')
 | 0,s,r,t,t',h=>Cm ⟨h,trivial,λ_ e=>e⟩
 | n+1,s,r,t,t',h=>by
  rw[opLoop,opR,if_neg (by rw[h.bad];decide),h.oper g];by_cases e:s.oper.1.2=lev
  ·rw[if_neg (λk=>k e),if_pos (decide_eq_true e)];have hi:s.i<s.l.length:=Si (by rw[e];exact g);have h1:=h.step hi;rw[if_neg h3,decide_eq_false h3,Ik,if_neg (by decide)];rcases j.sim z tb _ _ h1 with ⟨h2,_,v⟩|⟨hb,b⟩
   ·rcases g1n g h3 j n (t:=.mk (V7 6 ln s.oper.1.1) [t,(fr s.step).1.1]) (t':=.mk (V7 6 ln s.oper.1.1) [t',(a r.step).1]) h2 with ⟨k1,_,k3⟩|k
    ·refine Cm ⟨k1,trivial,λu q=>k3 u ?_⟩
     have v:(fr s.step).1.1=(a r.step).1:=v (by
      cases A:(a r.step).2.wide with
      | false=>rfl
      | true=>rw[Ag j.mono n _ A]at u;cases u)
     rw[q,v]
    ·exact Ia k
   ·rw[SX hb,SQ b.st g (Cm h3)];exact Ia ⟨hb,b⟩
  ·rw[if_pos e,if_neg (by simpa using e)];exact Cm ⟨h,trivial,λ_ q=>q⟩
theorem b8l{d:Nat}(h:d<=2):KL d=Vn:=if_pos h
theorem h7s{d:Nat}(h : ¬ d<=2):KL d=ZL:=if_neg h
theorem b9r(hu:Twin Vn An Fst un un')(a:EJ un): ∀ d,d<=5->Twin (KL d) An Fst (YD un d) (fromR un' d)∧ ∀ o s,ZL o s->Vn o (YD un d s).2
 | 0,_=>⟨hu,hu.keep⟩
 | d+1,hd=>by
  obtain⟨ht,k⟩:=b9r hu a d (by omega);have i:(5 - (d:Int))≠0:=by omega
  have q : ∀ o s,ZL o s->Vn o (YD un (d+1) s).2:=λo s h=>by rw[YD,SQ (k o s h).st i (Ia (k o s h))];exact k o s h
  refine⟨⟨λz tb s r h=> ?_,λo s h=>i8j (q o s h),λr h=> ?_,λr h=> ?_⟩,q⟩
  ·rw[YD,fromR,a6x a d s,h.line,h.c.l];rcases ht.sim z tb s r h with ⟨h1,_,v⟩|⟨hb,b⟩
   ·have fin : ∀ {K:Int->PS->Prop},Sb K z tb An (λx y=>(YD un d s).1.1=(fromR un' d r).1->Fst x y) (opLoop (YD un d) (5 - (d:Int)) (s.peek 0).ln (s.l.length+1) (YD un d s).2 (YD un d s).1.1) (opR (fromR un' d) (5 - (d:Int)) (s.peek 0).ln (s.l.length+1) (fromR un' d r).2 (fromR un' d r).1)->Sb K z tb An Fst (opLoop (YD un d) (5 - (d:Int)) (s.peek 0).ln (s.l.length+1) (YD un d s).2 (YD un d s).1.1) (opR (fromR un' d) (5 - (d:Int)) (s.peek 0).ln (s.l.length+1) (fromR un' d r).2 (fromR un' d r).1):=λhr=>by
     rcases hr with ⟨A,_,C⟩|g
     ·refine Cm ⟨A,trivial,λj=>C j (v ?_)⟩;cases B:(fromR un' d r).2.wide with
      | false=>rfl
      | true=>rw[Ag ht.mono _ _ B]at j;cases j
     ·exact Ia g
    by_cases hd2:d+1<=2
    ·rw[b8l hd2];have hb:Twin Vn An Fst (YD un d) (fromR un' d):=by rw[<- b8l (show d<=2 by omega)];exact ht
     exact fin (g1n i (by omega) hb _ h1)
    ·rw[h7s hd2];refine fin (g0m (e9n d) i (λe=> ?_) ht _ h1);have:d<=2:=by omega
     intro o s u;rw[b8l this]at u;exact u
   ·rw[SX hb,SQ (e9n d _ _ b) i]
    ·refine Ia ⟨hb,?_⟩;show KL (d+1) (off z (fromR un' d r).2) (YD un d s).2;by_cases hd2:d+1<=2
     ·rw[b8l hd2];rw[b8l (show d<=2 by omega)]at b;exact b
     ·rw[h7s hd2];exact e9n d _ _ b
    ·by_cases hd2:d=2
     ·subst hd2;exact Ia b
     ·exact Cm (by omega)
  ·rw[fromR];have e:(fromR un' d r).2=r:=ht.stay r h;rw[e,SX h]
  ·rw[fromR];exact Ag ht.mono _ _ (ht.mono r h)
end
def f0b{ex:PS->Tm×PS}{un:PS->(Tm×Int)×PS}:EJ (Di ex un):=λs=>by
 unfold Di;dsimp only;split
 ·rfl
 ·split <;> rfl
def i8x{ex:PS->Tm×PS}{ex':RS->Tm×RS}(j:Twin ZL An Eq ex ex'){un:PS->(Tm×Int)×PS}{un':RS->Tm×RS}(hu:Twin Vn An Fst un un')(g:EJ un):Twin ZL An Eq (exB ex un) (exR ex' un'):=by
 have k : ∀ ln:Int,Twin ZL An Eq (bP I6 λa=>bP (Qk ⟨[61]⟩) λ_=>bP ex λb=>bP (Qk ⟨[105,110]⟩) λ_=>twP (λc=>Tm.mk (V7 5 ln a) [b,c]) ex) (bR IV λa=>bR (Uv ⟨[61]⟩) λ_=>bR ex' λb=>bR (Uv ⟨[105,110]⟩) λ_=>twR (λc=>Tm.mk (V7 5 ln a) [b,c]) ex'):=λln=>Twin.bindE QP.st λa=>Twin.bindE (YK (by decide)).st λ_=>Twin.bindT (.mk Bw []) (.mk Bw []) j λb b'=>Twin.bindE (YK (by decide)).st λ_=>j.map (λ_ _ _=>trivial) λc c' e q=>by rw[e,q]
 have i:Twin ZL An Fst (YD un 5) (fromR un' 5):=(b9r hu g 5 (by omega)).1;refine⟨λz tb s r h=> ?_,λo s h=> ?_,λr h=> ?_,λr h=> ?_⟩
 ·unfold exB exR;dsimp only;rw[h.is,h.line];cases e:s.next ⟨[108,101,116]⟩with
  | true=>exact(k (s.peek 0).ln).sim z tb _ _ (h.step (Zt e))
  | false=>exact(i.sim z tb s r h).map (φ:=λt:Tm×Int=>t.1) (ψ:=λt=>t) (λ_ _ _=>trivial) λa b e=>e
 ·unfold exB;dsimp only;have l:s.next ⟨[108,101,116]⟩=false:=h.next (by decide);rw[l];exact i.keep o s h
 ·unfold exR;dsimp only;rw[XA h];exact i.stay r h
 ·unfold exR;dsimp only;split
  ·exact(k r.line).mono r.step h
  ·exact i.mono r h
def c4i: ∀ N,Twin ZL An Eq (Yd N) (Y9 N)∧SimB (H9 N) (QS N)
 | 0=>⟨(Twin.pure trivial rfl).eq rfl rfl,λz tb s r h=>Cm ⟨h,trivial,λ_=>rfl⟩,λr h=>h⟩
 | N+1=>by obtain⟨a,hu⟩:=c4i N;have h1:Twin Vn An Fst (H9 (N+1)) (QS (N+1)):=h3k a hu;exact⟨i8x a h1 f0b,h1.sim,h1.mono⟩
def c0p:Twin ZL An Eq PS.expr RS.expr:=(c4i 4001).1
end
def Sim.nw{z:Int}{tb:Bool}{s:PS}{r:RS}(h:Sim z tb s r)(e:r.wide=false):s.big=tb:=by rw[h.big,e];rfl
def Sim.wd{z:Int}{tb:Bool}{s:PS}{r:RS}(h:Sim z tb s r)(e:r.wide=true):s.big=true:=by rw[h.big,e];rfl
def g1c(z:Int)(s:PS)(r:RS):Prop:=s.endp.bad=decide ((r.endR z).2≠0)∧(s.endp.bad=true->s.endp.wr=(r.endR z).1∧(r.endR z).2=6)∧(s.endp.bad=false->s.endp=s)
def g8k{z:Int}{s:PS}{r:RS}(h:Sim0 z s r):g1c z s r:=by
 unfold g1c PS.endp IX;rw[h.rbad,h.l,h.i];by_cases hi:s.i<s.l.length
 ·rw[if_pos hi,if_neg (show ¬ (!false&&decide (s.i=s.l.length))=true by simp;omega),if_pos hi];refine⟨rfl,λ_=>⟨?_,rfl⟩,λq=>absurd (show true=false from q) (by decide)⟩;show(if s.bad then s.wr else(s.peek 0).o)=(r.tok 0).o;rw[h.tok hi,if_neg (by rw[h.bad];decide)]
 ·have hl:=h.hi;rw[if_neg hi,if_pos (show(!false&&decide (s.i=s.l.length))=true by simp;omega)];refine⟨by rw[h.bad];rfl,λq=>(by rw[h.bad]at q;cases q),λ_=>rfl⟩
def a7m{z:Int}{s:PS}{r:RS}(hb:r.bad=true)(h:ZL (off z r) s):g1c z s r:=by
 have e:r.endR z=(off z r,6):=by unfold IX off;rw[hb];show(if r.i<r.l.length then _ else _)=_;split <;> rfl
 unfold g1c;rw[e];have k:s.endp.bad=true∧s.endp.wr=off z r:=by
  unfold PS.endp;rcases h with h|h
  ·rw[if_neg (by rw[h.2.2];omega)];exact⟨h.1,h.2.1⟩
  ·have hi:=Y2 (s:=s) (by rw[h.2.2.1];decide);rw[if_pos hi];refine⟨rfl,?_⟩;show(if s.bad then s.wr else(s.peek 0).o)=_;rw[if_neg (by rw[h.1];decide)];exact h.2.1
 exact⟨k.1,λ_=>⟨k.2,rfl⟩,λq=>by rw[k.1]at q;cases q⟩
def a6k(s:List UInt8):Sim s.length false (Ec s) (rgS s):=⟨⟨rfl,rfl,rfl,rfl,rfl,Nat.zero_le _,(P7 ⟨s⟩).1⟩,rfl⟩
def d9p{α β:Type}{z:Int}{tb:Bool}{S R:α->β->Prop}{x:α×PS}{y:β×RS}(h:Sb ZL z tb S R x y):g1c z x.2 y.2:=by
 rcases h with ⟨h,_,_⟩|⟨h1,h2⟩
 ·exact g8k h.c
 ·exact a7m h1 h2
def f0o{α β:Type}{z:Int}{tb:Bool}{S R:α->β->Prop}{x:α×PS}{y:β×RS}(h:Sb ZL z tb S R x y)(e:x.2.endp.bad=false):Sim z tb x.2 y.2∧S x.1 y.1∧(y.2.wide=false->R x.1 y.1):=by
 rcases h with h|⟨h1,h2⟩
 ·exact h
 ·have k:=a7m h1 h2;have a:x.2.endp.bad=true:=by
   rw[k.1];refine decide_eq_true ?_;unfold IX;rw[h1];show(if y.2.i<y.2.l.length then _ else _:Int×Int).2≠0;split
   ·show(6:Int)≠0;decide
   ·show(6:Int)≠0;decide
  rw[a]at e;cases e
def e7u(s:Str):Wq s=Gy s:=by
 unfold Wq Gy;by_cases hc:(UK s).c≠0
 ·rw[if_pos hc,if_pos hc]
 ·rw[if_neg hc,if_neg hc];have h:=c0p.sim _ _ _ _ (a6k s.s);have b:=d9p h;cases e:(Ec s.s).expr.2.endp.bad with
  | true=>obtain⟨k1,a⟩:=b.2.1 e;rw[if_pos rfl,if_pos (by rw[a];decide),k1,a]
  | false=>
   have k1:=b.1;rw[e]at k1;have a:=of_decide_eq_false k1.symm;rw[if_neg (by decide),if_neg a,b.2.2 e];obtain⟨i,_,j⟩:=f0o h e;cases g:(rgS s.s).expr.2.wide with
   | true=>rw[show(Ec s.s).expr.2.big=true from i.wd g];rfl
   | false=>have k:(Ec s.s).expr.1=(rgS s.s).expr.1:=j g;rw[show(Ec s.s).expr.2.big=false from i.nw g,k]
open Enc (enc dec is)
open EncL (encL decL isL)
def h4a: ∀ (s:RS) (a:Str×Unit),(ZA s&&decide (a.1.s.length<=1048576))=true->Zk g1v 1 (Zl 1 d2h (ZB [] [] (a6o s a).1 (a6o s a).2)) c8e [] (ZT i3q (Zn a) ([]++[Zf s])):=by
 rintro s ⟨⟨w⟩,⟨⟩⟩ h;have hs:ZA s=true:=by rw[Ig]at h;exact h.1
 have hl:=ZY hs;show Zk g1v 1 (Zl 1 d2h (ZB [] [] (s.endR w.length) s)) c8e [] _;have out : ∀ (b:Bool),(!s.bad&&decide (s.i=s.l.length))=b->b=false->s.endR w.length=if s.i<s.l.length then((s.tok 0).o,6)else((w.length:Int),6):=λb hb j=>by unfold IX;rw[hb,j];rfl
 have g:s.endR w.length=(if s.i<s.l.length then((s.tok 0).o,6)else((w.length:Int),6))->if (decide ((s.i:Int)<(Ie (II (enc:Tok->PV) s.l):Int)))=true then(Tt (RS.l s) (s.i:Int) 4 λq=>ZB [] [] (s.endR w.length) s (.pv (.tup [.int .i64 (PV.asInt (List.getD (Iw 3 (PV.cells (enc q))) 0 default)),.int .i64 6]),[Zf s],[]))else ZB [] [] (s.endR w.length) s (.pv (.tup [.int .i64 (w.length:Int),.int .i64 6]),[Zf s],[]):=λe=>by
  rw[e];by_cases hi:s.i<s.l.length
  ·rw[if_pos hi,J3 (k:=0) hi];exact ZW (KS hi) ⟨YA hi rfl,Xo hi (Ze (P6 (Yn rfl) (Yn rfl)))⟩
  ·rw[if_neg hi];exact Z0 (KD hi) (Ze (P6 (Yn rfl) (Yn rfl)))
 refine j0w s w (Yk (λhb=>Z9 (λh1=> ?_) λh1=>g (out _ rfl ?_)) λhb=>g (out _ rfl ?_))
 ·have h1:s.i=s.l.length:=by rw[I5]at h1;omega
  unfold IX;rw[hb,decide_eq_true h1];exact Ze (P6 (Yn rfl) (Yn rfl))
 ·rw[decide_eq_false (λe=>h1 (by rw[I5,e])),Ik]
 ·rw[hb];rfl
def j5q{s:RS}{w:List UInt8}{K:Int×Int->RS->Prop}(hs:ZA s=true)(b:w.length<=1048576)(h:K (s.endR w.length) s):Xw Zn Z8 [] [] (λ(s:RS) (a:Str×Unit)=>ZA s&&decide (Ie (Str.s (Ij a))<=1048576)) a6o [.ptr 0 0,.pv (.str w)] [Zf s] K:=Ya Zx s (⟨w⟩,()) rfl rfl (by rw[hs];exact decide_eq_true b) h
def h4t(s:List UInt8)(hs:s.length<=1048576):Zk d6x 0 (ZP 0 b3c (λr=>r=b5q [.pv (.str s)] [])) b6l [] (ZT e8q [.pv (.str s)] []):=i9y s ⟨Zh ((⟨s⟩:Str),()) rfl (decide_eq_true hs),Zd ((⟨s⟩:Str),()) rfl rfl⟩
def g2u{args:List AV}{os:List AObj}(h:Li args os=true): ∃ s:List UInt8,args=[.pv (.str s)]∧os=[]∧s.length<=1048576:=by
 unfold Li at h;split at h
 ·exact⟨_,rfl,rfl,of_decide_eq_true h⟩
 ·cases h
def g2y{args:List AV}{os:List AObj}(h:MG args os=true): ∃ s:List UInt8,args=[.pv (.str s)]∧os=[]:=by
 unfold MG at h;split at h
 ·exact⟨_,rfl,rfl⟩
 ·cases h
def g8i: ∀ args os,MG args os=true->Zk d8q os.length (ZP os.length b2g (λr=>r=b0h args os)) b5d [] (ZT g0l args os):=λargs os h=>by obtain⟨s,rfl,rfl⟩:=g2y h;exact h4c s
def h3r: ∀ args os,Li args os=true->Zk d6x os.length (ZP os.length b3c (λr=>r=b5q args os)) b6l [] (ZT e8q args os):=λargs os h=>by obtain⟨s,rfl,rfl,hs⟩:=g2u h;exact h4t s hs
def i6b(s:List UInt8):ZA (rgS s)=true:=by have h:=b1y s;unfold Zu at h;unfold ZA;exact h
def i6r{s:RS}{K:TS->RS->Prop}(hs:ZA s=true)(h:K (Vt s.expr.1) s.expr.2):Xw Zn Z8 [] [] (λ(s:RS) (_:Unit)=>ZA s) OU [.ptr 0 0] [Zf s] K:=Ya Zx s () rfl rfl hs h
def i2l{s:List UInt8}(h:((rgS s).expr.2.endR s.length).2=0)(j:(rgS s).expr.2.wide=false):tW (rgS s).expr.1=true:=by
 have a:=c0p.sim _ _ _ _ (a6k s);have g:=d9p a;have e:(Ec s).expr.2.endp.bad=false:=by rw[g.1,h];rfl
 obtain⟨i,_,b⟩:=f0o a e;have k:(Ec s).expr.1=(rgS s).expr.1:=b j;rw[<- k];exact b4q (b1y s) (P7 ⟨s⟩).1 i.bad
def h0b: ∀ x:Str×Unit,decide (x.1.s.length<=1048576)=true->Zk f7c 0 (Za d3i (Zg (Gy x.1))) d4c [] (Ym i7r (encL x)):=by
 rintro⟨⟨s⟩,⟨⟩⟩ hs;have b:s.length<=1048576:=of_decide_eq_true hs;have hb:=i6b s;have hl:=ZY hb;have k1:=RGe.expr hb;have a:=k1.ok hb;show Zk f7c 0 (Za d3i (Zg (Gy ⟨s⟩))) d4c [] _;unfold Gy;refine j0j s ⟨hs,Oq (λh=> ?_) λh=> ?_⟩
 ·rw[if_pos h];exact a4q FX
 rw[if_neg (λk=>k h)];refine i6r hb (j5q a b (Oq (λh1=> ?_) λh1=>Z5 (λh2=> ?_) λh2=>⟨h8r (UH (rgS s).expr.1) (h9k (i2l h1 h2)),j3v (UH (rgS s).expr.1) (Yk (λh3=> ?_) λh3=> ?_)⟩))
 ·rw[if_pos h1];exact a4q FX
 ·rw[if_neg (λk=>k h1),if_pos h2];exact a4q FX
 ·rw[if_neg (λk=>k h1),if_neg (by rw[h2];decide),if_neg (by have h3:WO (rgS s).expr.1=false:=h3;rw[h3];decide)];exact a4q FX
 ·rw[if_neg (λk=>k h1),if_neg (by rw[h2];decide),if_pos h3];exact a4q (UH _)
section
mutual
def b7l: ∀ t:Tm,exM t t=true
 | .mk n ks=>by rw[exM,decide_eq_true rfl,a6p ks];rfl
def a6p: ∀ ts:List Tm,Ow ts ts=true
 | []=>rfl
 | k::ks=>by rw[Ow,b7l k,a6p ks];rfl
end
end
def d5w(r:R3 Tm Int Int):(enc r:PV)=enc (r3S r):=by obtain⟨a,b,c⟩:=r;show PV.tup [enc a,enc b,enc c]=PV.tup [enc (Vt a),enc b,enc c];rw[FB]
def c1m(s:Str):tW (Wq s).a=true:=by
 unfold Wq;split
 ·rfl
 ·split
  ·rfl
  ·split
   ·rfl
   ·split
    ·rename_i h1 h2 h3 h4;have hb:=b1y s.s;have b:Xh (Ec s.s).l=true:=(P7 ⟨s.s⟩).1;have k1:=Ge.exprA hb;have e:=Ge.endp k1.hi;exact b4q hb b (e.good (by simpa using h2))
    ·rfl
def e7q: ∀ x:Str×Unit,true=true->Zk d9b 0 (Za c0x (Zg true)) c2y [] (Ym f4t (encL x)):=by
 rintro⟨⟨s⟩,⟨⟩⟩ _;refine g5x s (Zd () rfl (Z0 (by decide) (XQ (λh=>ZG rfl) λh=>⟨Zh ((⟨s⟩:Str),()) rfl (decide_eq_true (show s.length<=1048576 by omega)),Zd ((⟨s⟩:Str),()) rfl ⟨Zh ((⟨s⟩:Str),()) rfl (decide_eq_true (show s.length<=1048576 by omega)),Zd ((⟨s⟩:Str),()) rfl ?_⟩⟩)));rw[show r3S (Gy ((⟨s⟩:Str),()).1)=r3S (Wq ⟨s⟩)from congrArg r3S (e7u ⟨s⟩).symm];show preT _ _=true∧_;have b:=UH (Wq ⟨s⟩).a;have ht:=c1m ⟨s⟩;have hd:(decL [eS (Vt (Wq ⟨s⟩).a),eS (Vt (Wq ⟨s⟩).a)]:Tm×Tm×Unit)=((Wq ⟨s⟩).a,(Wq ⟨s⟩).a,()):=by show((dec (eS (Vt (Wq ⟨s⟩).a)):Tm),(dec (eS (Vt (Wq ⟨s⟩).a)):Tm),())=_;rw[b.2]
 have hi:isL (Tm×Tm×Unit) [eS (Vt (Wq ⟨s⟩).a),eS (Vt (Wq ⟨s⟩).a)]=true:=by show(is Tm (eS (Vt (Wq ⟨s⟩).a))&&(is Tm (eS (Vt (Wq ⟨s⟩).a))&&true))=true;rw[b.1];rfl
 refine⟨b5b ((Wq ⟨s⟩).a,(Wq ⟨s⟩).a,()) hi hd ?_,GJ ((Wq ⟨s⟩).a,(Wq ⟨s⟩).a,()) hd (Z5 (λh1=>Z9 (λ_=>ZG ?_) λh2=>absurd rfl h2) λh1=> ?_)⟩
 ·show(tW (Wq ⟨s⟩).a&&tW (Wq ⟨s⟩).a)=true;rw[ht];rfl
 ·exact beq_self_eq_true _
 ·have h1:exM (Wq ⟨s⟩).a (Wq ⟨s⟩).a=false:=h1;rw[b7l]at h1;cases h1
end Go.Pl
