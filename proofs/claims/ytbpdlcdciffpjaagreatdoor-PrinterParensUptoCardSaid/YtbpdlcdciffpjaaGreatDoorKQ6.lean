/-
  Lemmas for the law PrinterParens, for every input.
-/
import Derived.Test.YtbpdlcdciffpjaaGreatDoorChecked
import Derived.Test.YtbpdlcdciffpjaaGreatDoorKQ2
import Derived.Test.YtbpdlcdciffpjaaGreatDoorKQ3
import Derived.Test.YtbpdlcdciffpjaaGreatDoorKQ4
import Derived.Test.YtbpdlcdciffpjaaGreatDoorKQ5
import Derived.KernelRfl
open Bool renaming and_eq_true->Cm,or_eq_true->Ip,and_false->IL,or_true->IV,true_and->aM,false_ne_true->bB,false_and->bX,or_false->bi,false_or->bn,or_comm->bu,true_or->bv
open Go.IntKind renaming i64->Ia,wrap->IQ
open Go.Lib renaming trimSuffix->I1,indexByte->au,countByte->ax
open Go.Pl.Ge renaming need->Iw,step->IB,item->aS,num->bU,linLoop->bV,linear->bg,name->dM,wide->dN,opLoop->dU
open Go.Pl.PS renaming linear->Iz,func->aI,numM->aJ,next->aP,oper->ah,name->bG,arB->bQ,frameN->bZ,ranksN->bf,num->bq,need->dC,item->dD,lin0->dE,pass->dH,endp->dL,sizesN->dQ
open Go.Pl.RGe renaming step->Ig,need->Iq,num->IA,exprN->aL,fromR->bY,func->dV,fail->dW
open Go.Pl.RS renaming size->IU,plain->IW,func->IZ,take->aQ,numM->aR,num->af,chk->az,name->bH,endR->bI,itemN->bL,kind->dF,need->dG,con0->dI,item->dJ,oper->dK,con->dP,frameN->dR,ranksN->dS
open Int renaming toNat->Ii,toNat_natCast->Iy,le_refl->IR,mul_zero->cB,add_zero->cK,one_mul->cz
open List renaming length->Ic,take->Il,drop->Im,all_eq_true->Ir,count_append->Iu,drop_eq_getElem_cons->IE,count_cons->IG,drop_zero->II,length_append->IJ,take_append_drop->IK,length_drop->IM,length_cons->IP,length_take->IX,mem_of_find?_eq_some->IY,mem_cons->I4,map_cons->I5,sum_cons->I6,getD->I8,takeWhile_append_dropWhile->aB,length_map->aC,length_nil->aF,takeWhile_cons->aG,dropWhile_cons->aH,drop_drop->aK,getD_eq_getElem?_getD->aN,all_cons->aO,map->aT,getElem?_eq_getElem->aU,map_map->aX,find?_some->aY,map_append->aZ,sum_append->aa,drop_eq_nil_of_le->ae,lt_irrefl->ai,mem_cons_of_mem->aj,mem_of_mem_take->ak,mem_cons_self->bA,mem_singleton->bD,count_eq_zero->bE,mem_map->bF,append_assoc->bJ,getElem_mem->bK,filter_cons->bM,take_append->bN,foldl_cons->bO,nil_append->bT,mem_append->bW,map_nil->cZ,sum_nil->cu
open Nat renaming le_refl->Ih,zero_le->Ij,zero_add->aD,le_add_right->aV,le_of_eq->aW,le_trans->bC,lt_or_ge->bz,add_zero->cO
open Or renaming inl->Ib,inr->Ie
open Prod renaming fst->Ik,snd->I7
open UInt8 renaming le_iff_toNat_le->I9,toNat->dB
set_option linter.unusedVariables false
set_option linter.unusedSimpArgs false
set_option linter.defProp false
namespace Go.Pl
open Go.RowKit
section
def a1u:List (List UInt8):=[[61,61],[33,61],[60],[60,61],[62],[62,61]]
def Vv(o:Int)(s:PS):Prop:=s.bad=true∧s.wr=o∧s.i=s.l.length
def i9o(o:Int)(s:PS):Prop:=s.bad=false∧(s.peek 0).o=o∧(s.peek 0).k=4∧(s.peek 0).t.s∈a1u
def ZF(o:Int)(s:PS):Prop:=Vv o s∨i9o o s
def i8f{α:Type}(m:PS->α×PS):Prop:= ∀ o s,ZF o s->ZF o (m s).2
section
variable {o:Int} {s:PS}
def Vv.peek(h:Vv o s):(s.peek 0).k=0:=by rw[J3 (by rw[h.2.2];exact Ih _)]
def ZF.k1(h:ZF o s):(s.peek 0).k≠1:=by rcases h with h|h;rw[h.peek];decide;rw[h.2.2.1];decide
def ZF.k3(h:ZF o s):(s.peek 0).k≠3:=by rcases h with h|h;rw[h.peek];decide;rw[h.2.2.1];decide
def ZF.next(h:ZF o s){w:Str}(a:w.s ∉ a1u):s.next w=false:=by
 unfold aP;rcases h with h|h
 ·rw[h.peek];rfl
 ·rw[fF (show ¬ (s.peek 0).t=w from λe=>a (by rw[<- e];exact h.2.2.2)),IL]
def ZF.fail(h:ZF o s):Vv o s.fail:=by
 refine⟨rfl,?_,rfl⟩;show(if s.bad then s.wr else(s.peek 0).o)=o;rcases h with h|h
 ·rw[fw h.1];exact h.2.1
 ·rw[fo (by rw[h.1];decide)];exact h.2.1
def ZF.need(h:ZF o s){w:Str}(a:w.s ∉ a1u):Vv o (s.need w):=by unfold dC;rw[fo (by rw[h.next a];decide)];exact h.fail
def ZF.name(h:ZF o s):Vv o s.name.2:=by unfold bG;rw[fo h.k1];exact h.fail
def ZF.num(h:ZF o s){m:Int}:Vv o (s.num m).2:=by unfold bq;rw[fo (λk=>h.k3 k.1)];exact h.fail
def Vv.st(h:Vv o s):ZF o s:=Ib h
def ZF.func(h:ZF o s):Vv o s.func.2:=by unfold aI;rw[fo (by rw[h.name.st.next (by decide)];decide)];exact h.name
def ZF.item(h:ZF o s):Vv o s.item.2:=by unfold dD;rw[fo h.k1,fo (λk=>h.num.st.k1 k.1)];exact h.num
def ZF.linLoop(h:Vv o s): ∀ (n:Nat) (l:Lin),(linLoop n s l).2=s
 | 0,l=>rfl
 | n+1,l=>by rw[Go.Pl.linLoop,fw h.1]
def ZF.linear(h:ZF o s):Vv o s.linear.2:=by
 have e:s.lin0.2=s.item.2:=by unfold dE;rw[fo (by rw[h.next (by decide)];decide)]
 have k:Vv o s.lin0.2:=by rw[e];exact h.item
 unfold Iz;rw[ZF.linLoop k];exact k
def ZF.more{α:Type}{one:PS->α×PS}(h:ZF o s): ∀ (n:Nat) (l:List α),moreL one n s l=(l,s)
 | 0,l=>rfl
 | n+1,l=>by
  rw[moreL];split
  ·rfl
  ·rw[fo (by rw[h.next (by decide)];decide)]
def ZF.list{α:Type}{one:PS->α×PS}(h1:i8f one)(h:ZF o s):ZF o (listL one s).2:=by unfold listL;rw[(h1 _ _ h).more];exact h1 _ _ h
def ZF.numsP(h:ZF o s): ∀ (n:Nat) (l:List Int),numsP n s l=(l,s)
 | 0,l=>rfl
 | n+1,l=>by rw[Go.Pl.numsP,fo h.k3]
def ZF.datP{o:Int}: ∀ (n:Nat) {s:PS} (l:List Int),ZF o s->ZF o (datP n s l).2
 | 0,s,l,h=>h
 | n+1,s,l,h=>by
  rw[Go.Pl.datP];split
  ·exact h
  ·rw[fo (by rw[h.next (by decide)];decide)];have e:s.sgs=s:=fo (by rw[h.next (by decide)];decide);rw[e];exact ZF.datP n _ h.num.st
end
structure Sim0 (z:Int) (s:PS) (r:RS):Prop where
 l:r.l=s.l
 i:r.i=s.i
 sz:s.sz=z
 bad:s.bad=false
 rbad:r.bad=false
 hi:s.i<=s.l.length
 lx:Xr s.l
structure Sim (z:Int) (tb:Bool) (s:PS) (r:RS):Prop where
 c:Sim0 z s r
 big:s.big=(r.wide||tb)
def off(z:Int)(r:RS):Int:=if r.i<r.l.length then(r.tok 0).o else z
section
variable {z:Int} {s:PS} {r:RS}
def Sim0.tok(h:Sim0 z s r){k:Nat}(hi:s.i+k<s.l.length):r.tok k=s.peek k:=by rw[PO hi,JP (by rw[h.l,h.i];exact hi)];simp only[h.l,h.i]
def Sim0.has(h:Sim0 z s r):(r.i<r.l.length)=(s.i<s.l.length):=by rw[h.l,h.i]
def Sim0.kind(h:Sim0 z s r){k:Int}(a:k≠0):r.kind k=decide ((s.peek 0).k=k):=by
 unfold dF;rw[h.rbad];by_cases hi:s.i<s.l.length
 ·rw[h.tok hi,eY (show r.i<r.l.length by rw[h.has];exact hi)];rfl
 ·rw[fF (show ¬ r.i<r.l.length by rw[h.has];exact hi),J3 (by omega)];simp only[bX,IL];exact(fF (λe=>a e.symm)).symm
def Sim0.is(h:Sim0 z s r)(w:Str):r.is w=s.next w:=by
 unfold RS.is aP;rw[h.rbad];by_cases hi:s.i<s.l.length
 ·rw[h.tok hi,eY (show r.i<r.l.length by rw[h.has];exact hi)];simp only[Bool.not_false,aM];exact Bool.and_comm _ _
 ·rw[fF (show ¬ r.i<r.l.length by rw[h.has];exact hi),J3 (by omega)];rfl
def Sim0.line(h:Sim0 z s r):r.line=(s.peek 0).ln:=by
 unfold RS.line;by_cases hi:s.i<s.l.length
 ·rw[fw (by rw[h.has];exact hi),h.tok hi]
 ·rw[fo (by rw[h.has];exact hi),J3 (by omega)]
def Sim0.off(h:Sim0 z s r):off z r=(s.peek 0).o:=by
 unfold Go.Pl.off;by_cases hi:s.i<s.l.length
 ·rw[fw (by rw[h.has];exact hi),h.tok hi]
 ·rw[fo (by rw[h.has];exact hi),J3 (by omega)];exact h.sz.symm
def Sim0.step(h:Sim0 z s r)(hi:s.i<s.l.length):Sim0 z s.step r.step:=⟨h.l,by show r.i+1=s.i+1;rw[h.i],h.sz,h.bad,h.rbad,hi,h.lx⟩
def Sim0.fail(h:Sim0 z s r):r.fail.bad∧Vv (Go.Pl.off z r.fail) s.fail:=⟨rfl,⟨rfl,by
 show(if s.bad then s.wr else(s.peek 0).o)=Go.Pl.off z r
 rw[fo (by rw[h.bad];decide),h.off],rfl⟩⟩
variable {tb:Bool}
def Sim.step(h:Sim z tb s r)(hi:s.i<s.l.length):Sim z tb s.step r.step:=⟨h.c.step hi,h.big⟩
def Sim.tok(h:Sim z tb s r){k:Nat}(hi:s.i+k<s.l.length):r.tok k=s.peek k:=h.c.tok hi
def Sim.kind(h:Sim z tb s r){k:Int}(a:k≠0):r.kind k=decide ((s.peek 0).k=k):=h.c.kind a
def Sim.is(h:Sim z tb s r)(w:Str):r.is w=s.next w:=h.c.is w
def Sim.line(h:Sim z tb s r):r.line=(s.peek 0).ln:=h.c.line
def Sim.fail(h:Sim z tb s r):r.fail.bad∧Vv (Go.Pl.off z r.fail) s.fail:=h.c.fail
def Sim.bad(h:Sim z tb s r):s.bad=false:=h.c.bad
def Sim.lx(h:Sim z tb s r):Xr s.l:=h.c.lx
end
def AX{α β:Type}(K:Int->PS->Prop)(z:Int)(tb:Bool)(S R:α->β->Prop)(x:α×PS)(y:β×RS):Prop:=(Sim z tb x.2 y.2∧S x.1 y.1∧(y.2.wide=false->R x.1 y.1))∨(y.2.bad∧K (off z y.2) x.2)
structure Twin {α β:Type} (K:Int->PS->Prop) (S R:α->β->Prop) (m:PS->α×PS) (n:RS->β×RS):Prop where
 sim : ∀ z tb s r,Sim z tb s r->AX K z tb S R (m s) (n r)
 keep : ∀ o s,ZF o s->K o (m s).2
 stay : ∀ r,r.bad->(n r).2=r
 mono : ∀ r,r.wide->(n r).2.wide
def bP{α β:Type}(m:PS->α×PS)(f:α->PS->β×PS):PS->β×PS:=λs=>f (m s).1 (m s).2
def bR{α β:Type}(m:RS->α×RS)(f:α->RS->β×RS):RS->β×RS:=λs=>f (m s).1 (m s).2
def twP{α β:Type}(φ:α->β)(m:PS->α×PS):PS->β×PS:=λs=>(φ (m s).1,(m s).2)
def twR{α β:Type}(φ:α->β)(m:RS->α×RS):RS->β×RS:=λs=>(φ (m s).1,(m s).2)
def puP{α:Type}(a:α):PS->α×PS:=λs=>(a,s)
def puR{α:Type}(a:α):RS->α×RS:=λs=>(a,s)
def An{α β:Type}(_:α)(_:β):Prop:=True
section
variable {α β α' β':Type} {S R:α->β->Prop} {S' R':α'->β'->Prop} {K:Int->PS->Prop} {z:Int} {tb:Bool}
def AX.imp{i:Int->PS->Prop}{e g:α->β->Prop}{x:α×PS}{y:β×RS}(h:AX K z tb S R x y)(k : ∀ o s,K o s->i o s)(l : ∀ a b,S a b->e a b)(j : ∀ a b,R a b->g a b):AX i z tb e g x y:=by
 rcases h with ⟨h1,h2,h3⟩|⟨h1,h2⟩
 ·exact Ib ⟨h1,l _ _ h2,λq=>j _ _ (h3 q)⟩
 ·exact Ie ⟨h1,k _ _ h2⟩
def AX.map{x:α×PS}{y:β×RS}{φ:α->α'}{ψ:β->β'}(h:AX K z tb S R x y)(g : ∀ a b,S a b->S' (φ a) (ψ b))(e : ∀ a b,R a b->R' (φ a) (ψ b)):AX K z tb S' R' (φ x.1,x.2) (ψ y.1,y.2):=by
 rcases h with ⟨h1,h2,h3⟩|⟨h1,h2⟩
 ·exact Ib ⟨h1,g _ _ h2,λi=>e _ _ (h3 i)⟩
 ·exact Ie ⟨h1,h2⟩
def Twin.imp{m:PS->α×PS}{n:RS->β×RS}{e g:α->β->Prop}(h:Twin K S R m n)(j : ∀ a b,S a b->e a b)(i : ∀ a b,R a b->g a b):Twin K e g m n:=⟨λz tb s r hs=>(h.sim z tb s r hs).imp (λ_ _ h=>h) j i,h.keep,h.stay,h.mono⟩
def Twin.st{m:PS->α×PS}{n:RS->β×RS}(h:Twin Vv S R m n):Twin ZF S R m n:=⟨λz tb s r hs=>(h.sim z tb s r hs).imp (λ_ _ h=>h.st) (λ_ _ h=>h) (λ_ _ h=>h),λo s hs=>(h.keep o s hs).st,h.stay,h.mono⟩
def Twin.map{m:PS->α×PS}{n:RS->β×RS}{φ:α->α'}{ψ:β->β'}(h:Twin K S R m n)(g : ∀ a b,S a b->S' (φ a) (ψ b))(e : ∀ a b,R a b->R' (φ a) (ψ b)):Twin K S' R' (twP φ m) (twR ψ n):=⟨λz tb s r hs=>(h.sim z tb s r hs).map g e,h.keep,h.stay,h.mono⟩
def AX.bind{x:α×PS}{y:β×RS}{f:α->PS->α'×PS}{g:β->RS->β'×RS}(h:AX ZF z tb S R x y)(k : ∀ a b,S a b-> ∀ z tb s r,Sim z tb s r->AX K z tb S' (λx y=>R a b->R' x y) (f a s) (g b r))(A : ∀ a o s,ZF o s->K o (f a s).2)(ks : ∀ b r,r.bad->(g b r).2=r)(C : ∀ b r,r.wide->(g b r).2.wide):AX K z tb S' R' (f x.1 x.2) (g y.1 y.2):=by
 rcases h with ⟨h1,B,u⟩|⟨hb,i⟩
 ·rcases k _ _ B z tb _ _ h1 with ⟨h2,j,l⟩|h2
  ·refine Ib ⟨h2,j,λq=>l q (u ?_)⟩;cases e:y.2.wide with
   | false=>rfl
   | true=>exact absurd (C y.1 _ e) (by rw[q];decide)
  ·exact Ie h2
 ·have e:(g y.1 y.2).2=y.2:=ks _ _ hb;refine Ie ⟨by rw[e];exact hb,by rw[e];exact A _ _ _ i⟩
def Twin.bind{m:PS->α×PS}{n:RS->β×RS}{f:α->PS->α'×PS}{g:β->RS->β'×RS}(h:Twin ZF S R m n)(k : ∀ a b,S a b->Twin K S' (λx y=>R a b->R' x y) (f a) (g b))(j : ∀ a o s,ZF o s->K o (f a s).2)(ks : ∀ b r,r.bad->(g b r).2=r)(l : ∀ b r,r.wide->(g b r).2.wide):Twin K S' R' (bP m f) (bR n g):=by refine⟨λz tb s r hs=>(h.sim z tb s r hs).bind (λa b i=>(k a b i).sim) j ks l,λo s hs=>j _ _ _ (h.keep _ _ hs),λr hr=> ?_,λr hr=>l _ _ (h.mono r hr)⟩;have e:(n r).2=r:=h.stay r hr;show(g (n r).1 (n r).2).2=r;rw[e];exact ks _ _ hr
def Twin.bindT{m:PS->α×PS}{n:RS->β×RS}{f:α->PS->α'×PS}{g:β->RS->β'×RS}(e:α)(i:β)(h:Twin ZF An R m n)(k : ∀ a b,Twin K S' (λx y=>R a b->R' x y) (f a) (g b)):Twin K S' R' (bP m f) (bR n g):=h.bind (λa b _=>k a b) (λa=>(k a i).keep) (λb=>(k e b).stay) (λb=>(k e b).mono)
def Twin.bindE{α:Type}{R:α->α->Prop}{m:PS->α×PS}{n:RS->α×RS}{f:α->PS->α'×PS}{g:α->RS->β'×RS}(h:Twin ZF Eq R m n)(k : ∀ a,Twin K S' R' (f a) (g a)):Twin K S' R' (bP m f) (bR n g):=h.bind (λa b e=>by subst e;exact(k a).imp (λ_ _ h=>h) (λ_ _ h _=>h)) (λa=>(k a).keep) (λb=>(k b).stay) (λb=>(k b).mono)
def Twin.pure{a:α}{b:β}(h:S a b)(k:R a b):Twin ZF S R (puP a) (puR b):=⟨λz tb s r hs=>Ib ⟨hs,h,λ_=>k⟩,λo s hs=>hs,λr hr=>rfl,λr hr=>hr⟩
def Twin.congr{m g:PS->α×PS}{n a:RS->β×RS}(h:Twin K S R g a)(hm : ∀ s,s.bad=false->m s=g s)(i : ∀ o s,ZF o s->K o (m s).2)(hn : ∀ r,(n r).2=(a r).2∧((n r).2.bad=false->(n r).1=(a r).1)):Twin K S R m n:=by
 refine⟨λz tb s r hs=> ?_,i,λr hr=> ?_,λr hr=> ?_⟩
 ·rw[hm s hs.c.bad];rcases h.sim z tb s r hs with ⟨h1,h2,h3⟩|⟨h1,h2⟩
  ·have e:=(hn r).1;have b:=(hn r).2 (by rw[e];exact h1.c.rbad);exact Ib ⟨by rw[e];exact h1,by rw[b];exact h2,λj=>by rw[b];exact h3 (by rw[<- e];exact j)⟩
  ·have e:=(hn r).1;exact Ie ⟨by rw[e];exact h1,by rw[e];exact h2⟩
 ·rw[(hn r).1];exact h.stay r hr
 ·rw[(hn r).1];exact h.mono r hr
def Twin.eq{m a:PS->α×PS}{n b:RS->β×RS}(h:Twin K S R a b)(hm:m=a)(hn:n=b):Twin K S R m n:=by rw[hm,hn];exact h
end
def Qe(w:Str):PS->Unit×PS:=λs=>((),s.need w)
def UB(w:Str):RS->Unit×RS:=λs=>((),s.need w)
def a2y(w:Str):PS->Bool×PS:=λs=>s.pass w
def Oa(w:Str):RS->Bool×RS:=λs=>s.take w
def g6b(k:Int):PS->Bool×PS:=λs=>(decide ((s.peek 0).k=k),s)
def g5k(k:Int):RS->Bool×RS:=λs=>(s.kind k,s)
def h4q(m:Int):PS->Int×PS:=λs=>s.num m
def e6i(m:Int):RS->Int×RS:=λs=>s.num m
def DU{r:RS}{w:Str}(h:r.bad):r.need w=r:=by rw[Dz (Xy h),NL h]
def YJ{w:Str}(a:w.s ∉ a1u):Twin Vv Eq Eq (Qe w) (UB w):=by
 refine⟨λz tb s r h=> ?_,λo s h=>h.need a,λr h=>DU h,λr h=> ?_⟩
 ·unfold Qe UB dC dG AX;dsimp only;rw[h.is];cases e:s.next w with
  | true=>exact Ib ⟨h.step (Zq e),rfl,λ_=>rfl⟩
  | false=>exact Ie h.fail
 ·show(r.need w).wide;unfold dG;split <;> exact h
def Pz{w:Str}(a:w.s ∉ a1u):Twin ZF Eq Eq (a2y w) (Oa w):=by
 refine⟨λz tb s r h=> ?_,λo s h=> ?_,λr h=> ?_,λr h=> ?_⟩
 ·unfold a2y Oa dH aQ AX;rw[h.is];cases e:s.next w with
  | true=>exact Ib ⟨h.step (Zq e),rfl,λ_=>rfl⟩
  | false=>exact Ib ⟨h,rfl,λ_=>rfl⟩
 ·unfold a2y dH;rw[fo (by rw[h.next a];decide)];exact h
 ·unfold Oa aQ;rw[fo (by rw[Xy h];decide)]
 ·unfold Oa aQ;split <;> exact h
def f9c{k:Int}(a:k≠0):Twin ZF Eq Eq (g6b k) (g5k k):=⟨λz tb s r h=>Ib ⟨h,(h.kind a).symm,λ_=>(h.kind a).symm⟩,λo s h=>h,λr h=>rfl,λr h=>h⟩
def QL:Twin Vv Eq Eq bG bH:=by
 refine⟨λz tb s r h=> ?_,λo s h=>h.name,λr h=> ?_,λr h=> ?_⟩
 ·unfold bG bH AX;rw[h.kind (by decide)];by_cases e:(s.peek 0).k=1
  ·have hi:=Xe (s:=s) (by omega);rw[fw e,fw (eY e)];have a:(s.peek 0).t=(r.tok 0).t:=by rw[h.tok hi]
   exact Ib ⟨h.step hi,a,λ_=>a⟩
  ·rw[fo e,fo (by simpa using e)];exact Ie h.fail
 ·unfold bH;rw[fo (by rw[YN h];decide)];exact NL h
 ·unfold bH;split <;> exact h
def d5j{s:PS}(h:Xr s.l)(a:(s.peek 0).k=3):(Vp (s.peek 0).t).2:=by
 have hi:=Xe (s:=s) (by omega);have h3:=Ir.1 h _ (bK (l:=s.l) (n:=s.i+0) hi);rw[<- PO (k:=0) hi]at h3;unfold c0m at h3;simp only[Cm,Ip,fu]at h3;rcases h3.2.1 with h|h
 ·exact absurd a h
 ·exact h
def a3y{s:PS}(h:Xr s.l)(a:(s.peek 0).k=1):nameI (s.peek 0).t.s:=by
 have hi:=Xe (s:=s) (by omega);have h3:=Ir.1 h _ (bK (l:=s.l) (n:=s.i+0) hi);rw[<- PO (k:=0) hi]at h3;unfold c0m at h3;simp only[Cm,Ip,fu]at h3;rcases h3.1 with h|h
 ·exact absurd a h
 ·exact h
def QR{m:Int}:Twin Vv Eq Eq (h4q m) (e6i m):=by
 refine⟨λz tb s r h=> ?_,λo s h=>h.num,λr h=> ?_,λr h=> ?_⟩
 ·unfold h4q e6i bq af AX;rw[h.kind (by decide)];by_cases e:(s.peek 0).k=3
  ·have hi:=Xe (s:=s) (by omega);rw[fw (eY e)];have a:(r.tok 0).t=(s.peek 0).t:=by rw[h.tok hi]
   rw[a];by_cases q:(Vp (s.peek 0).t).1<=m
   ·rw[fw ⟨e,d5j h.lx e,q⟩,fw q];exact Ib ⟨h.step hi,rfl,λ_=>rfl⟩
   ·rw[fo (λk=>q k.2.2),fo q];exact Ie h.fail
  ·rw[fo (λk=>e k.1),fo (by simpa using e)];exact Ie h.fail
 ·unfold e6i af;rw[fo (by rw[YN h];decide)];exact NL h
 ·unfold e6i af;split
  ·split <;> exact h
  ·exact h
section
variable {α:Type}
def PX{w:Str}(f:Bool->PS->α×PS)(s:PS):bP (a2y w) f s=if s.next w then f true s.step else f false s:=by unfold bP a2y dH;split <;> rfl
def Np{w:Str}(f:Bool->RS->α×RS)(s:RS):bR (Oa w) f s=if s.is w then f true s.step else f false s:=by unfold bR Oa aQ;split <;> rfl
def h3f{k:Int}(f:Bool->PS->α×PS)(s:PS):bP (g6b k) f s=if (s.peek 0).k=k then f true s else f false s:=by
 unfold bP g6b;by_cases h:(s.peek 0).k=k
 ·rw[fw h];simp[h]
 ·rw[fo h];simp[h]
def g8u{k:Int}(f:Bool->RS->α×RS)(s:RS):bR (g5k k) f s=if s.kind k then f true s else f false s:=by unfold bR g5k;cases s.kind k <;> rfl
end
end
open Enc (enc dec is)
open EncL (encL decL isL)
section
def b6b(e:List UInt8)(ln:Int)(d:List Int)(r:List Int×RS):Tm×RS:=(.mk {Ps 3 ln with elem:=⟨e⟩,dims:=d,data:=r.1} [],r.2.need ⟨[93]⟩)
def i9m(e:List UInt8)(ln:Int)(W:Nat)(r:List Int×RS):Tm×RS:=b6b e ln r.1 (datR (W+1) (r.2.need ⟨[58]⟩) [])
def TY{e:List UInt8}{ln:Int}{d x:List Int}{p q:PV}(h:Ze d p)(k:Ze x q):Ze (KD (.mk {Ps 3 ln with elem:=⟨e⟩,dims:=d,data:=x} [])) (.agg [.int .i64 3,.int .i64 ln,.str [],.int .i64 0,.str e,p,q,.sl 0 true [],.sl 0 true [],.sl 0 true []]):=FZ (XK rfl) (XK rfl) (WM rfl) (XK rfl) (WM rfl) h k ZN ZN ZN
def JI{s:RS}{q:List Int}(h:(s.kind 3||s.is ⟨[45]⟩)=false): ∀ n,datR n s q=(q,s)
 | 0=>rfl
 | n+1=>by rw[datR,fo (by rw[h];decide)]
def KI{n:Nat}{s:RS}{q:List Int}(h:s.is ⟨[45]⟩):datR (n+1) s q=datR n (s.step.num 2147483648).2 (q++[Ia.wrap (-(s.step.num 2147483648).1)]):=by rw[datR,fw (by rw[h];simp),fw h]
def NN{n:Nat}{s:RS}{q:List Int}(h:s.is ⟨[45]⟩=false)(k:s.kind 3):datR (n+1) s q=datR n (s.num 2147483648).2 (q++[(s.num 2147483648).1]):=by rw[datR,fw (by rw[k];rfl),fo (by rw[h];decide)]
def RX{s:RS}{q:List Int}(h:s.kind 3=false): ∀ n,numsR n s q=(q,s)
 | 0=>rfl
 | n+1=>by rw[numsR,fo (by rw[h];decide)]
def c4w{n:Nat}{s:RS}{q:List Int}(h:s.kind 3):numsR (n+1) s q=numsR n (s.num 2147483648).2 (q++[(s.num 2147483648).1]):=by rw[numsR,fw h]
def Pg{s:RS}{m:Int}(h:s.kind 3):(s.num m).2.bad∨(s.num m).2.i=s.i+1:=by
 unfold af;rw[fw h];split
 ·exact Ie rfl
 ·exact Ib rfl
def H9{s:RS}{m:Int}:(s.num m).2.bad∨(s.num m).2.i=s.i+1:=by
 cases h:s.kind 3 with
 | true=>exact Pg h
 | false=>unfold af;rw[h];exact Ib rfl
def g4w{s:RS}(h:s.bad):(s.kind 3||s.is ⟨[45]⟩)=false:=by rw[YN h,Xy h];rfl
def d1f(e:List UInt8)(ln:Int)(o:List Int)(L:Nat)(k:L=o.length)(R:List Int×RS): ∀ (n:Nat) (s:RS) (q:List Int) (M:Nat),Zo s->M=q.length->(s.bad∨(s.l.length<s.i+n∧M<=s.i))->R=datR n s q ->
  At WB 1 (ZA 1 Xp (ZW [] [] (KD (b6b e ln o R).1) (b6b e ln o R).2)) Xq 1 82 [(0,.ptr 0 0),(4,.ptr 1 0),(5,.ptr 2 0)] [.obj (Zz s),.obj (.box [.pv (.int .i64 0),.pv (.int .i64 0),.pv (.str []),.pv (.int .i64 0),.pv (.str []),.pv (.sl 0 true []),.pv (.sl 0 true []),.pv (.sl 0 true []),.pv (.sl 0 true []),.pv (.sl 0 true [])]),.obj (.box [.pv (.int .i64 3),.pv (.int .i64 ln),.pv (.str []),.pv (.int .i64 0),.pv (.str e),.row 3 L 0 L,.row 4 M 0 M,.pv (.sl 0 true []),.pv (.sl 0 true []),.pv (.sl 0 true [])]),.obj (.row false 3 1 (o.map enc)),.obj (.row false 3 1 (q.map enc))]:=by
 intro n
 induction n with
 | zero=>
  intro s q M hs a hb h;have r:=ZO hs;have hb:s.bad:=by
   rcases hb with hb|hb
   ·exact hb
   ·omega
  have y:=g4w hb;rw[JI y]at h;subst h;have k1:s.kind 3=false:=YN hb;have b:s.is ⟨[45]⟩=false:=Xy hb;refine d6s s ln e o L q M (VZ hs (Z5 (by rw[k1];decide) (EP hs (Z5 (by rw[b];decide) (YM hs ⟨by simp[k],by simp[a],?_⟩)))));rw[NS o k,NS q a];exact Zx (TY (Bn o rfl) (Bn q rfl))
 | succ n ih=>
  intro s q M hs a hb h;have r:=ZO hs;refine d6s s ln e o L q M (VZ hs (YC (λh1=>YV hs (λh2=>ZZ rfl (V7 ((Ig (ZX h2)).ok hs) ?_)) λh2=>Z5 (by simp) (V7 hs ?_)) λh1=>EP hs (YC (λh3=>YV hs (λh2=>ZZ rfl (V7 ((Ig (ZX h2)).ok hs) ?_)) λh2=> ?_) λh3=>YM hs ⟨by simp[k],by simp[a],?_⟩)))
  ·rcases hb with hb|hb
   ·rw[Xy hb]at h2;cases h2
   have k1:=Ig (ZX h2);have j:=k1.ok hs;have u:s.step.i=s.i+1:=rfl;have b:=IA (m:=2147483648) k1.hi;refine⟨by simp[a];omega,?_⟩;rw[show aT (enc:Int->PV) q++Im 0 (Il 1 [PV.int .i64 (Ia.wrap (-(s.step.num 2147483648).1))])=(q++[Ia.wrap (-(s.step.num 2147483648).1)]).map enc from TB q (Ia.wrap (-(s.step.num 2147483648).1))];refine ih _ _ _ (b.ok j) (by rw[a];simp) ?_ (by rw[h,KI h2]);rcases H9 (s:=s.step) (m:=2147483648)with g|g
   ·exact Ib g
   ·refine Ie ⟨?_,by simp;omega⟩;rw[b.l,k1.l];omega
  ·rcases hb with hb|hb
   ·rw[YN hb]at h1;cases h1
   have b:=IA (m:=2147483648) r.2;refine⟨by simp[a];omega,?_⟩;rw[TB q (s.num 2147483648).1];refine ih _ _ _ (b.ok hs) (by rw[a];simp) ?_ (by rw[h,NN h2 h1]);rcases Pg (m:=2147483648) h1 with g|g
   ·exact Ib g
   ·refine Ie ⟨?_,by simp;omega⟩;rw[b.l];omega
  ·rcases hb with hb|hb
   ·rw[Xy hb]at h2;cases h2
   have k1:=Ig (ZX h2);have j:=k1.ok hs;have u:s.step.i=s.i+1:=rfl;have b:=IA (m:=2147483648) k1.hi;refine⟨by simp[a];omega,?_⟩;rw[show aT (enc:Int->PV) q++Im 0 (Il 1 [PV.int .i64 (Ia.wrap (-(s.step.num 2147483648).1))])=(q++[Ia.wrap (-(s.step.num 2147483648).1)]).map enc from TB q (Ia.wrap (-(s.step.num 2147483648).1))];refine ih _ _ _ (b.ok j) (by rw[a];simp) ?_ (by rw[h,KI h2]);rcases H9 (s:=s.step) (m:=2147483648)with g|g
   ·exact Ib g
   ·refine Ie ⟨?_,by simp;omega⟩;rw[b.l,k1.l];omega
  ·rw[h3]at h2;cases h2
  ·rw[JI (by rw[h1,h3];rfl)]at h;subst h;rw[NS o k,NS q a];exact Zx (TY (Bn o rfl) (Bn q rfl))
def f8q(e:List UInt8)(ln:Int)(o:List Int)(L:Nat)(h:L=o.length)(R:List Int×RS)(s:RS)(hs:Zo s)(j:R=datR (s.l.length+1) s []):
  At WB 1 (ZA 1 Xp (ZW [] [] (KD (b6b e ln o R).1) (b6b e ln o R).2)) Xq 1 82 [(0,.ptr 0 0),(4,.ptr 1 0),(5,.ptr 2 0)] [.obj (Zz s),.obj (.box [.pv (.int .i64 0),.pv (.int .i64 0),.pv (.str []),.pv (.int .i64 0),.pv (.str []),.pv (.sl 0 true []),.pv (.sl 0 true []),.pv (.sl 0 true []),.pv (.sl 0 true []),.pv (.sl 0 true [])]),.obj (.box [.pv (.int .i64 3),.pv (.int .i64 ln),.pv (.str []),.pv (.int .i64 0),.pv (.str e),.row 3 L 0 L,.pv (.sl 0 true []),.pv (.sl 0 true []),.pv (.sl 0 true []),.pv (.sl 0 true [])]),.obj (.row false 3 1 (o.map enc))]:=by
 have k:=ZO hs;refine g9c s ln e o L (VZ hs (YC (λh1=>YV hs (λh2=>ZZ rfl (V7 ((Ig (ZX h2)).ok hs) ?_)) λh2=>Z5 (by simp) (V7 hs ?_)) λh1=>EP hs (YC (λh3=>YV hs (λh2=>ZZ rfl (V7 ((Ig (ZX h2)).ok hs) ?_)) λh2=> ?_) λh3=>YM hs ⟨by simp[h],?_⟩)))
 ·have k1:=Ig (ZX h2);have b:=k1.ok hs;have q:s.step.i=s.i+1:=rfl;have a:=IA (m:=2147483648) k1.hi;refine d1f e ln o L h R s.l.length _ [Ia.wrap (-(s.step.num 2147483648).1)] 1 (a.ok b) rfl ?_ (by rw[j,KI h2];rfl);rcases H9 (s:=s.step) (m:=2147483648)with g|g
  ·exact Ib g
  ·refine Ie ⟨?_,by omega⟩;rw[a.l,k1.l];omega
 ·have a:=IA (m:=2147483648) k.2;refine d1f e ln o L h R s.l.length _ [(s.num 2147483648).1] 1 (a.ok hs) rfl ?_ (by rw[j,NN h2 h1];rfl);rcases Pg (m:=2147483648) h1 with g|g
  ·exact Ib g
  ·refine Ie ⟨?_,by omega⟩;rw[a.l];omega
 ·have k1:=Ig (ZX h2);have b:=k1.ok hs;have q:s.step.i=s.i+1:=rfl;have a:=IA (m:=2147483648) k1.hi;refine d1f e ln o L h R s.l.length _ [Ia.wrap (-(s.step.num 2147483648).1)] 1 (a.ok b) rfl ?_ (by rw[j,KI h2];rfl);rcases H9 (s:=s.step) (m:=2147483648)with g|g
  ·exact Ib g
  ·refine Ie ⟨?_,by omega⟩;rw[a.l,k1.l];omega
 ·rw[h3]at h2;cases h2
 ·rw[JI (by rw[h1,h3];rfl)]at j;subst j;rw[NS o h];exact Zx (TY (Bn o rfl) ZN)
def d2p(e:List UInt8)(ln:Int)(R:List Int×RS): ∀ (n:Nat) (s:RS) (q:List Int) (M:Nat),Zo s->M=q.length->(s.bad∨(s.l.length<s.i+n∧M<=s.i))->R=datR n s q ->
  At WB 1 (ZA 1 Xp (ZW [] [] (KD (b6b e ln [] R).1) (b6b e ln [] R).2)) Xq 1 82 [(0,.ptr 0 0),(4,.ptr 1 0),(5,.ptr 2 0)] [.obj (Zz s),.obj (.box [.pv (.int .i64 0),.pv (.int .i64 0),.pv (.str []),.pv (.int .i64 0),.pv (.str []),.pv (.sl 0 true []),.pv (.sl 0 true []),.pv (.sl 0 true []),.pv (.sl 0 true []),.pv (.sl 0 true [])]),.obj (.box [.pv (.int .i64 3),.pv (.int .i64 ln),.pv (.str []),.pv (.int .i64 0),.pv (.str e),.pv (.sl 0 true []),.row 3 M 0 M,.pv (.sl 0 true []),.pv (.sl 0 true []),.pv (.sl 0 true [])]),.obj (.row false 3 1 (q.map enc))]:=by
 intro n
 induction n with
 | zero=>
  intro s q M hs a hb h;have k:=ZO hs;have hb:s.bad:=by
   rcases hb with hb|hb
   ·exact hb
   ·omega
  have u:=g4w hb;rw[JI u]at h;subst h;have k1:s.kind 3=false:=YN hb;have b:s.is ⟨[45]⟩=false:=Xy hb;refine d6q s ln e q M (VZ hs (Z5 (by rw[k1];decide) (EP hs (Z5 (by rw[b];decide) (YM hs ⟨by simp[a],?_⟩)))));rw[NS q a];exact Zx (TY ZN (Bn q rfl))
 | succ n ih=>
  intro s q M hs a hb h;have k:=ZO hs;refine d6q s ln e q M (VZ hs (YC (λh1=>YV hs (λh2=>ZZ rfl (V7 ((Ig (ZX h2)).ok hs) ?_)) λh2=>Z5 (by simp) (V7 hs ?_)) λh1=>EP hs (YC (λh3=>YV hs (λh2=>ZZ rfl (V7 ((Ig (ZX h2)).ok hs) ?_)) λh2=> ?_) λh3=>YM hs ⟨by simp[a],?_⟩)))
  ·rcases hb with hb|hb
   ·rw[Xy hb]at h2;cases h2
   have k1:=Ig (ZX h2);have j:=k1.ok hs;have r:s.step.i=s.i+1:=rfl;have b:=IA (m:=2147483648) k1.hi;refine⟨by simp[a];omega,?_⟩;rw[show aT (enc:Int->PV) q++Im 0 (Il 1 [PV.int .i64 (Ia.wrap (-(s.step.num 2147483648).1))])=(q++[Ia.wrap (-(s.step.num 2147483648).1)]).map enc from TB q (Ia.wrap (-(s.step.num 2147483648).1))];refine ih _ _ _ (b.ok j) (by rw[a];simp) ?_ (by rw[h,KI h2]);rcases H9 (s:=s.step) (m:=2147483648)with g|g
   ·exact Ib g
   ·refine Ie ⟨?_,by simp;omega⟩;rw[b.l,k1.l];omega
  ·rcases hb with hb|hb
   ·rw[YN hb]at h1;cases h1
   have b:=IA (m:=2147483648) k.2;refine⟨by simp[a];omega,?_⟩;rw[TB q (s.num 2147483648).1];refine ih _ _ _ (b.ok hs) (by rw[a];simp) ?_ (by rw[h,NN h2 h1]);rcases Pg (m:=2147483648) h1 with g|g
   ·exact Ib g
   ·refine Ie ⟨?_,by simp;omega⟩;rw[b.l];omega
  ·rcases hb with hb|hb
   ·rw[Xy hb]at h2;cases h2
   have k1:=Ig (ZX h2);have j:=k1.ok hs;have r:s.step.i=s.i+1:=rfl;have b:=IA (m:=2147483648) k1.hi;refine⟨by simp[a];omega,?_⟩;rw[show aT (enc:Int->PV) q++Im 0 (Il 1 [PV.int .i64 (Ia.wrap (-(s.step.num 2147483648).1))])=(q++[Ia.wrap (-(s.step.num 2147483648).1)]).map enc from TB q (Ia.wrap (-(s.step.num 2147483648).1))];refine ih _ _ _ (b.ok j) (by rw[a];simp) ?_ (by rw[h,KI h2]);rcases H9 (s:=s.step) (m:=2147483648)with g|g
   ·exact Ib g
   ·refine Ie ⟨?_,by simp;omega⟩;rw[b.l,k1.l];omega
  ·rw[h3]at h2;cases h2
  ·rw[JI (by rw[h1,h3];rfl)]at h;subst h;rw[NS q a];exact Zx (TY ZN (Bn q rfl))
def i4f(e:List UInt8)(ln:Int)(R:List Int×RS)(s:RS)(hs:Zo s)(h:R=datR (s.l.length+1) s []):
  At WB 1 (ZA 1 Xp (ZW [] [] (KD (b6b e ln [] R).1) (b6b e ln [] R).2)) Xq 1 82 [(0,.ptr 0 0),(4,.ptr 1 0),(5,.ptr 2 0)] [.obj (Zz s),.obj (.box [.pv (.int .i64 0),.pv (.int .i64 0),.pv (.str []),.pv (.int .i64 0),.pv (.str []),.pv (.sl 0 true []),.pv (.sl 0 true []),.pv (.sl 0 true []),.pv (.sl 0 true []),.pv (.sl 0 true [])]),.obj (.box [.pv (.int .i64 3),.pv (.int .i64 ln),.pv (.str []),.pv (.int .i64 0),.pv (.str e),.pv (.sl 0 true []),.pv (.sl 0 true []),.pv (.sl 0 true []),.pv (.sl 0 true []),.pv (.sl 0 true [])])]:=by
 have j:=ZO hs;refine h0i s ln e (VZ hs (YC (λh1=>YV hs (λh2=>ZZ rfl (V7 ((Ig (ZX h2)).ok hs) ?_)) λh2=>Z5 (by simp) (V7 hs ?_)) λh1=>EP hs (YC (λh3=>YV hs (λh2=>ZZ rfl (V7 ((Ig (ZX h2)).ok hs) ?_)) λh2=> ?_) λh3=>YM hs ?_)))
 ·have k1:=Ig (ZX h2);have b:=k1.ok hs;have k:s.step.i=s.i+1:=rfl;have a:=IA (m:=2147483648) k1.hi;refine d2p e ln R s.l.length _ [Ia.wrap (-(s.step.num 2147483648).1)] 1 (a.ok b) rfl ?_ (by rw[h,KI h2];rfl);rcases H9 (s:=s.step) (m:=2147483648)with g|g
  ·exact Ib g
  ·refine Ie ⟨?_,by omega⟩;rw[a.l,k1.l];omega
 ·have a:=IA (m:=2147483648) j.2;refine d2p e ln R s.l.length _ [(s.num 2147483648).1] 1 (a.ok hs) rfl ?_ (by rw[h,NN h2 h1];rfl);rcases Pg (m:=2147483648) h1 with g|g
  ·exact Ib g
  ·refine Ie ⟨?_,by omega⟩;rw[a.l];omega
 ·have k1:=Ig (ZX h2);have b:=k1.ok hs;have k:s.step.i=s.i+1:=rfl;have a:=IA (m:=2147483648) k1.hi;refine d2p e ln R s.l.length _ [Ia.wrap (-(s.step.num 2147483648).1)] 1 (a.ok b) rfl ?_ (by rw[h,KI h2];rfl);rcases H9 (s:=s.step) (m:=2147483648)with g|g
  ·exact Ib g
  ·refine Ie ⟨?_,by omega⟩;rw[a.l,k1.l];omega
 ·rw[h3]at h2;cases h2
 ·rw[JI (by rw[h1,h3];rfl)]at h;subst h;exact Zx (TY ZN ZN)
def i0m(e:List UInt8)(ln:Int)(W:Nat)(R:Tm×RS): ∀ (n:Nat) (s:RS) (o:List Int) (L:Nat),Zo s->L=o.length->s.l.length=W->(s.bad∨(s.l.length<s.i+n∧L<=s.i))->R=i9m e ln W (numsR n s o) ->
  At WB 1 (ZA 1 Xp (ZW [] [] (KD R.1) R.2)) Xq 0 82 [(0,.ptr 0 0),(4,.ptr 1 0),(5,.ptr 2 0)] [.obj (Zz s),.obj (.box [.pv (.int .i64 0),.pv (.int .i64 0),.pv (.str []),.pv (.int .i64 0),.pv (.str []),.pv (.sl 0 true []),.pv (.sl 0 true []),.pv (.sl 0 true []),.pv (.sl 0 true []),.pv (.sl 0 true [])]),.obj (.box [.pv (.int .i64 3),.pv (.int .i64 ln),.pv (.str []),.pv (.int .i64 0),.pv (.str e),.row 3 L 0 L,.pv (.sl 0 true []),.pv (.sl 0 true []),.pv (.sl 0 true []),.pv (.sl 0 true [])]),.obj (.row false 3 1 (o.map enc))]:=by
 intro n
 induction n with
 | zero=>
  intro s o L hs b j hb a;have h:=ZO hs;have hb:s.bad:=by
   rcases hb with hb|hb
   ·exact hb
   ·omega
  have k1:s.kind 3=false:=YN hb;have k3:=Iq (w:=⟨[58]⟩) h.2;rw[RX k1]at a;subst a;refine d6j s ln e o L (VZ hs (Z5 (by rw[k1];decide) (YM hs ?_)));exact f8q e ln o L b _ _ (k3.ok hs) (by rw[k3.l,j])
 | succ n ih=>
  intro s o L hs b j hb a;have h:=ZO hs;refine d6j s ln e o L (VZ hs (YC (λh1=>V7 hs ⟨by simp[b];rcases hb with hb|hb;rw[YN hb]at h1;cases h1;omega,?_⟩) λh1=>YM hs ?_))
  ·rcases hb with hb|hb
   ·rw[YN hb]at h1;cases h1
   have k:=IA (m:=2147483648) h.2;rw[TB o (s.num 2147483648).1];refine ih _ _ _ (k.ok hs) (by rw[b];simp) (by rw[k.l,j]) ?_ (by rw[a,c4w h1]);rcases Pg (m:=2147483648) h1 with g|g
   ·exact Ib g
   ·refine Ie ⟨?_,by simp;omega⟩;rw[k.l];omega
  ·rw[RX h1]at a;have k3:=Iq (w:=⟨[58]⟩) h.2;subst a;exact f8q e ln o L b _ _ (k3.ok hs) (by rw[k3.l,j])
def i5d(e:List UInt8)(ln:Int)(s:RS)(R:Tm×RS)(hs:Zo s)(a:R=i9m e ln s.l.length (numsR (s.l.length+1) s [])):
  At WB 1 (ZA 1 Xp (ZW [] [] (KD R.1) R.2)) Xq 0 82 [(0,.ptr 0 0),(4,.ptr 1 0),(5,.ptr 2 0)] [.obj (Zz s),.obj (.box [.pv (.int .i64 0),.pv (.int .i64 0),.pv (.str []),.pv (.int .i64 0),.pv (.str []),.pv (.sl 0 true []),.pv (.sl 0 true []),.pv (.sl 0 true []),.pv (.sl 0 true []),.pv (.sl 0 true [])]),.obj (.box [.pv (.int .i64 3),.pv (.int .i64 ln),.pv (.str []),.pv (.int .i64 0),.pv (.str e),.pv (.sl 0 true []),.pv (.sl 0 true []),.pv (.sl 0 true []),.pv (.sl 0 true []),.pv (.sl 0 true [])])]:=by
 have h:=ZO hs;refine h5p s ln e (VZ hs (YC (λh1=>V7 hs ?_) λh1=>YM hs ?_))
 ·have b:=IA (m:=2147483648) h.2;refine i0m e ln s.l.length R s.l.length _ [(s.num 2147483648).1] 1 (b.ok hs) rfl (by rw[b.l]) ?_ (by rw[a,c4w h1];rfl);rcases Pg (m:=2147483648) h1 with g|g
  ·exact Ib g
  ·refine Ie ⟨?_,by omega⟩;rw[b.l];omega
 ·have k3:=Iq (w:=⟨[58]⟩) h.2;rw[RX h1]at a;subst a;exact i4f e ln _ _ (k3.ok hs) (by rw[k3.l])
def g9h{s:RS}{w:List UInt8}{xs:List AV}{K:Unit->RS->Prop}(a:xs=(encL s).map AV.pv)(hs:Zo s)(h:K () (s.need ⟨w⟩)):Ki ZG Xv [] [] (λ(s:RS) (_:Str×Unit)=>Zo s) Rw [.ptr 0 0,.pv (.str w)] [.box xs] K:=by subst a;exact YM hs h
def h0n: ∀ (s:RS) (a:Int×Unit),Zo s->Zh WB 1 (ZA 1 Xp (ZW [] [] (a9n s a).1 (a9n s a).2)) Xq [] (Yr i9e (ZG a) ([]++[Zz s])):=by
 rintro s ⟨ln,⟨⟩⟩ hs;have g:=ZO hs;show Zh WB 1 (ZA 1 Xp (ZW [] [] (KD (s.con ln).1) (s.con ln).2)) Xq [] _;have b : ∀ (e:List UInt8) (t:RS),Zo t->t.l=s.l->s.con0=t.need ⟨[91]⟩->(s.kind 1&&decide ((s.tok 0).t≠⟨[98]⟩))=false->(if s.kind 1 then YK else Xi)=e->At WB 1 (ZA 1 Xp (ZW [] [] (KD (s.con ln).1) (s.con ln).2)) Xq 0 82 [(0,.ptr 0 0),(4,.ptr 1 0),(5,.ptr 2 0)] [.obj (Zz (t.need ⟨[91]⟩)),.obj (.box [.pv (.int .i64 0),.pv (.int .i64 0),.pv (.str []),.pv (.int .i64 0),.pv (.str []),.pv (.sl 0 true []),.pv (.sl 0 true []),.pv (.sl 0 true []),.pv (.sl 0 true []),.pv (.sl 0 true [])]),.obj (.box [.pv (.int .i64 3),.pv (.int .i64 ln),.pv (.str []),.pv (.int .i64 0),.pv (.str e),.pv (.sl 0 true []),.pv (.sl 0 true []),.pv (.sl 0 true []),.pv (.sl 0 true []),.pv (.sl 0 true [])])]:=λe t ht g hc hn h=>by have k1:=Iq (w:=⟨[91]⟩) (ZO ht).2;refine i5d e ln _ (s.con ln) (k1.ok ht) ?_;unfold dP;rw[fo (by rw[hn];decide),h];unfold RS.con2 RS.con1;rw[hc,k1.l,g];rfl
 refine j3s s ln (VZ hs (YC (λh1=> ?_) λh1=>YM hs ?_))
 ·have hi:=Um h1;have k1:=Ig hi;refine⟨ZT hi rfl,Ym hi (Xj (λh2=> ?_) λh2=> ?_)⟩
  ·have h2:(s.l[s.i].t.s==[98])=false:=h2;have h3:s.con ln=(.mk {Ps 3 ln with elem:=⟨Xi⟩} [],s.fail):=by
    unfold dP;rw[h1,JP (k:=0) hi,fw];rw[aM];refine eY λe=> ?_
    rw[show s.l[s.i].t=⟨[98]⟩from e]at h2;exact absurd h2 (by decide)
   rw[h3];exact a9h (TY ZN ZN) rfl
  ·have h2:(s.l[s.i].t.s==[98]):=h2;refine g9h (DJ hi g.1) (k1.ok hs) (b YK s.step (k1.ok hs) rfl ?_ ?_ (by rw[h1];rfl))
   ·unfold dI;rw[h1];rfl
   ·rw[h1,JP (k:=0) hi,aM];refine fF λk=>k ?_
    exact congrArg Str.mk (by simpa using h2)
 ·refine b Xi s hs rfl ?_ (by rw[h1];rfl) (by rw[h1];rfl);unfold dI;rw[h1];rfl
def j1n{s:RS}{ln:Int}{K:TS->RS->Prop}(hs:Zo s)(h:K (KD (s.con ln).1) (s.con ln).2):Ki ZG Xv [] [] (λ(s:RS) (_:Int×Unit)=>Zo s) a9n [.ptr 0 0,.pv (.int .i64 ln)] [Zz s] K:=XW ZQ s (ln,()) rfl rfl hs h
def Gd{N:Nat}{s:RS}(hs:Zo s)(a:Wq N s):(Zo s&&decide (Ic (RS.l s) - RS.i s<N)):=by have a:Ic (RS.l s) - RS.i s<N:=a;rw[hs,eY a];rfl
def Ca{N:Nat}{s:RS}(h:(Zo s&&decide (Ic (RS.l s) - RS.i s<N))):Zo s∧Wq N s:=by simp only[Cm,fu]at h;exact h
def c6d{N:Nat}{s:RS}{K:TS->RS->Prop}(hs:Zo s)(a:Wq N s)(h:K (KD (Y9 N s).1) (Y9 N s).2):Ki ZG Xv [] [] (λ(s:RS) (_:Unit)=>Zo s&&decide (Ic (RS.l s) - RS.i s<N)) (Qp N) [.ptr 0 0] [Zz s] K:=XW ZQ s () rfl rfl (Gd hs a) h
def i7z{N:Nat}{s:RS}{K:TS->RS->Prop}(hs:Zo s)(a:Wq N s)(h:K (KD (QX N s).1) (QX N s).2):Ki ZG Xv [] [] (λ(s:RS) (_:Unit)=>Zo s&&decide (Ic (RS.l s) - RS.i s<N)) (OW N) [.ptr 0 0] [Zz s] K:=XW ZQ s () rfl rfl (Gd hs a) h
def i0f{N:Nat}{s:RS}{K:TS->RS->Prop}(hs:Zo s)(a:Wq (N+1) s)(h:K (KD (primR (Y9 N) s).1) (primR (Y9 N) s).2):Ki ZG Xv [] [] (λ(s:RS) (_:Unit)=>Zo s&&decide (Ic (RS.l s) - RS.i s<N+1)) (Pi N) [.ptr 0 0] [Zz s] K:=XW ZQ s () rfl rfl (Gd hs a) h
def c9x{N:Nat}{s:RS}{w:List UInt8}{K:List Tm->RS->Prop}(hs:Zo s)(a:Wq N s)(h:K (listR (Y9 N) ⟨w⟩ s).1 (listR (Y9 N) ⟨w⟩ s).2):Ki ZG Xv [] [] (λ(s:RS) (_:Str×Unit)=>Zo s&&decide (Ic (RS.l s) - RS.i s<N)) (Cj N) [.ptr 0 0,.pv (.str w)] [Zz s] K:=XW ZQ s (⟨w⟩,()) rfl rfl (Gd hs a) h
def i7e{N:Nat}{s:RS}{ln:Int}{K:TS->RS->Prop}(hs:Zo s)(a:Wq (N+1) s)(b:s.kind 1)(h:K (KD (callRR (Y9 N) ln s).1) (callRR (Y9 N) ln s).2):Ki ZG Xv [] [] (λ(s:RS) (_:Int×Unit)=>Zo s&&decide (Ic (RS.l s) - RS.i s<N+1)&&dF s 1) (Rc N) [.ptr 0 0,.pv (.int .i64 ln)] [Zz s] K:=XW ZQ s (ln,()) rfl rfl (by rw[Gd hs a,b];rfl) h
def i5s{N:Nat}{s:RS}{ln:Int}{K:TS->RS->Prop}(hs:Zo s)(a:Wq (N+1) s)(h:K (KD (loopR (Y9 N) ln s).1) (loopR (Y9 N) ln s).2):Ki ZG Xv [] [] (λ(s:RS) (_:Int×Unit)=>Zo s&&decide (Ic (RS.l s) - RS.i s<N+1)) (Pe N) [.ptr 0 0,.pv (.int .i64 ln)] [Zz s] K:=XW ZQ s (ln,()) rfl rfl (Gd hs a) h
def h8n(o:List Tm)(t:Tm):aT (enc:Tm->PV) o++Im 0 (Il 1 [enc (KD t)])=(o++[t]).map enc:=by rw[b1y];exact TB o t
def f8k(N:Nat)(w:List UInt8)(R:List Tm×RS): ∀ (n:Nat) (s:RS) (o:List Tm) (L:Nat),Zo s->Wq N s->s.l.length<s.i+n->L=o.length->L<=s.i+1->R=moreR (Y9 N) n s o ->
  At (a6c N) 1 (ZA 1 FX (ZW [] [] R.1 (R.2.need ⟨w⟩))) FH 0 20 [(0,.ptr 0 0),(1,.pv (.str w)),(5,.row 1 L 0 L)] [.obj (Zz s),.obj (.row false 28 10 (o.map enc))]:=by
 intro n
 induction n with
 | zero=>intro s o L hs _ hi;have:=ZO hs;omega
 | succ n ih=>
  intro s o L hs k hi g hb b;have hl:=ZO hs;rw[moreR]at b;refine i2u N s w o L (YV hs (λh=>ZZ rfl ?_) λh=>Z5 (by simp) (YM hs ⟨by simp[g],?_⟩))
  ·rw[fw h]at b;have k1:=Ig (ZX h);have e:=k1.ok hs;have a:=k.ge k1;have j:=aL a k1.hi;have e1:=j.le;have e3:s.step.i=s.i+1:=rfl;refine c6d e a ⟨by simp[g];omega,?_⟩;rw[h8n o (Y9 N s.step).1];refine ih _ (o++[(Y9 N s.step).1]) _ (j.ok e) (a.ge j) ?_ (by rw[g];simp) (by simp;omega) b;rw[j.l,k1.l];omega
  ·rw[fo (by rw[h];simp)]at b;rw[b,NS o g];exact Zx (Zt (x:=o) rfl)
def h4s(N:Nat): ∀ (s:RS) (a:Str×Unit),(Zo s&&decide (Ic (RS.l s) - RS.i s<N))->Zh (a6c N) 1 (ZA 1 FX (ZW [] [] (Cj N s a).1 (Cj N s a).2)) FH [] (Yr i7n (ZG a) ([]++[Zz s])):=by rintro s ⟨⟨w⟩,⟨⟩⟩ h;obtain⟨hs,b⟩:=Ca h;have e:=ZO hs;have k1:=aL b e.2;refine i9i N s w (c6d hs b ?_);rw[show([eS (KD (Y9 N s).1)]:List PV)=[(Y9 N s).1].map enc from congrArg (λx=>[x]) (b1y _)];refine f8k N w (XF (Y9 N) s) (s.l.length+1) _ [(Y9 N s).1] 1 (k1.ok hs) (b.ge k1) ?_ rfl (by omega) rfl;rw[k1.l];omega
def b8i{ex:RS->Tm×RS}{s:RS}(h:(s.need ⟨[40]⟩).is ⟨[41]⟩):kidsR ex s=([],(s.need ⟨[40]⟩).step):=fw h
def c2b{ex:RS->Tm×RS}{s:RS}(h:(s.need ⟨[40]⟩).is ⟨[41]⟩=false):kidsR ex s=listR ex ⟨[41]⟩ (s.need ⟨[40]⟩):=fo (by rw[h];decide)
def e5m{N:Nat}{s:RS}{ln num:Int}{n:List UInt8}{sizes:List Lin}{ranks:List Int}{sz e:PV}(hs:Zo s)(i:Wq N s)(h1:Ze sizes sz)(h2:Ze ranks e):DW (ZW [] [] (KD (Tm.mk (b2s ln num ⟨n⟩ sizes ranks) (kidsR (Y9 N) s).1)) (kidsR (Y9 N) s).2) s N ln n num sz e:=by
 have g:=ZO hs;have k1:=Iq (w:=⟨[40]⟩) g.2;have a:=k1.ok hs;have b:=i.ge k1;refine YM hs (YV a (λh=>Z5 (by simp) ?_) λh=>ZZ rfl ?_)
 ·rw[b8i h];exact Zx (Ew h1 h2 ZN)
 ·rw[c2b h];exact c9x a b (Zx (Ew h1 h2 (Zt rfl)))
def Pt{s:RS}(h:s.is ⟨[91]⟩):s.sizesN=((XF IU s.step).1,(XF IU s.step).2.need ⟨[93]⟩):=fw h
def Nb{s:RS}(h:s.is ⟨[91]⟩=false):s.sizesN=([],s):=fo (by rw[h];decide)
def N9{s:RS}(h:s.is ⟨[123]⟩):s.frameN=((s.step.num 2147483648).1,(s.step.num 2147483648).2.need ⟨[125]⟩):=fw h
def NA{s:RS}(h:s.is ⟨[123]⟩=false):s.frameN=(0,s):=fo (by rw[h];decide)
def f9w{s:RS}(h:s.is ⟨[64]⟩):s.ranksN=((XF aR (s.step.need ⟨[40]⟩)).1,(XF aR (s.step.need ⟨[40]⟩)).2.need ⟨[41]⟩):=fw h
def P8{s:RS}(h:s.is ⟨[64]⟩=false):s.ranksN=([],s):=fo (by rw[h];decide)
def a2a(ex:RS->Tm×RS)(ln:Int)(n:Str)(num:Int)(sizes:List Lin)(r:List Int×RS):Tm×RS:=(.mk (b2s ln num n sizes r.1) (kidsR ex r.2).1,(kidsR ex r.2).2)
def c1t{ex:RS->Tm×RS}{ln:Int}{n:Str}{s:RS}:callR0 ex ln n s=a2a ex ln n s.sizesN.2.frameN.1 s.sizesN.1 s.sizesN.2.frameN.2.ranksN:=rfl
def c9e{ex:RS->Tm×RS}{ln num:Int}{n:Str}{g h e a:RS}{z:List Lin}{r:List Int}(i:g.sizesN=(z,h))(b:h.frameN=(num,e))(hr:e.ranksN=(r,a)):callR0 ex ln n g=(.mk (b2s ln num n z r) (kidsR ex a).1,(kidsR ex a).2):=by rw[c1t];unfold a2a;rw[i];dsimp only;rw[b];dsimp only;rw[hr]
def Gh{N:Nat}{ln num:Int}{n:List UInt8}{b h i a:RS}{z:List Lin}{r:List Int}{sz g:PV}(j:b.sizesN=(z,h))(e:h.frameN=(num,i))(hr:i.ranksN=(r,a))(hs:Zo a)(k:Wq N a)(h1:Ze z sz)(h2:Ze r g):DW (ZW [] [] (KD (callR0 (Y9 N) ln ⟨n⟩ b).1) (callR0 (Y9 N) ln ⟨n⟩ b).2) a N ln n num sz g:=by rw[c9e j e hr];exact e5m hs k h1 h2
def f8w(N:Nat)(ln num:Int)(w:List UInt8)(k:Nat)(j:Bool)(xs:List PV)(R:Tm×RS)(z:List Lin)(r:Ze z (.sl k j xs))(W:Nat): ∀ (n:Nat) (s:RS) (o:List Int) (L:Nat),Zo s->Wq N s->s.l.length<s.i+n->L=o.length->L<=s.i+1 ->
  R=a2a (Y9 N) ln ⟨w⟩ num z ((moreR aR n s o).1,(moreR aR n s o).2.need ⟨[41]⟩) ->
  At (BN N) 1 (ZA 1 Hl (ZW [] [] (KD R.1) R.2)) JR 0 98 [(0,.ptr 0 0),(4,.ptr 1 0),(5,.ptr 2 0)] [.obj (Zz s),.obj (.box [.pv (.int .i64 0),.pv (.int .i64 0),.pv (.str []),.pv (.int .i64 0),.pv (.str []),.pv (.sl 0 true []),.pv (.sl 0 true []),.pv (.sl 0 true []),.pv (.sl 0 true []),.pv (.sl 0 true [])]),.obj (.box [.pv (.int .i64 6),.pv (.int .i64 ln),.pv (.str w),.pv (.int .i64 num),.pv (.str []),.pv (.sl 0 true []),.pv (.sl 0 true []),.pv (.sl k j xs),.row 3 L 0 L,.pv (.sl 0 true [])]),.obj (.row false 3 1 (o.map enc))]:=by
 intro n
 induction n with
 | zero=>intro s o L hs _ hi;have:=ZO hs;omega
 | succ n ih=>
  intro s o L hs u hi e hb g;have y:=ZO hs;rw[moreR]at g;refine i1s N s ln w num k j xs o L (YV hs (λh=>ZZ rfl ?_) λh=>Z5 (by simp) (YM hs ?_))
  ·rw[fw h]at g;have k1:=Ig (ZX h);have a:=k1.ok hs;have b:RGe s.step s.step.numM.2:=IA k1.hi;have e1:=b.le;have e3:s.step.i=s.i+1:=rfl;have e4:s.step.numM.2.i=(s.step.num 2147483648).2.i:=rfl;refine V7 a ⟨by simp[e];omega,?_⟩;rw[TB o (s.step.num 2147483648).1];refine ih _ (o++[s.step.numM.1]) _ (b.ok a) (u.ge (k1.trans b)) ?_ (by rw[e];simp) (by simp;omega) g;rw[show(s.step.num 2147483648).2.l=s.step.l from b.l,k1.l];show s.l.length<s.step.numM.2.i+n;omega
  ·rw[fo (by rw[h];simp)]at g;subst g;have k1:=Iq (w:=⟨[41]⟩) y.2;have a:=k1.ok hs;have q:=u.ge k1;have b:=Iq (w:=⟨[40]⟩) k1.hi;refine YM a (YV (b.ok a) (λh=>Z5 (by simp) ⟨by simp[e],?_⟩) λh=>ZZ rfl (c9x (b.ok a) (q.ge b) ⟨by simp[e],?_⟩))
   ·rw[NS o e];unfold a2a;dsimp only;rw[b8i h];exact Zx (Ew r (Bn o rfl) ZN)
   ·rw[NS o e];unfold a2a;dsimp only;rw[c2b h];exact Zx (Ew r (Bn o rfl) (Zt rfl))
def Sb{N:Nat}{ln num:Int}{w:List UInt8}{k:Nat}{e:Bool}{xs:List PV}{z:List Lin}{b g a:RS}(r:Ze z (.sl k e xs))(hs:Zo a)(u:Wq N a)(q:b.sizesN=(z,g))(j:g.frameN=(num,a))(h:a.is ⟨[64]⟩):
  At (BN N) 1 (ZA 1 Hl (ZW [] [] (KD (callR0 (Y9 N) ln ⟨w⟩ b).1) (callR0 (Y9 N) ln ⟨w⟩ b).2)) JR 0 98 [(0,.ptr 0 0),(4,.ptr 1 0),(5,.ptr 2 0)] [.obj (Zz ((a.step.need ⟨[40]⟩).num 2147483648).2),.obj (.box [.pv (.int .i64 0),.pv (.int .i64 0),.pv (.str []),.pv (.int .i64 0),.pv (.str []),.pv (.sl 0 true []),.pv (.sl 0 true []),.pv (.sl 0 true []),.pv (.sl 0 true []),.pv (.sl 0 true [])]),.obj (.box [.pv (.int .i64 6),.pv (.int .i64 ln),.pv (.str w),.pv (.int .i64 num),.pv (.str []),.pv (.sl 0 true []),.pv (.sl 0 true []),.pv (.sl k e xs),.row 3 1 0 1,.pv (.sl 0 true [])]),.obj (.row false 3 1 [enc ((a.step.need ⟨[40]⟩).num 2147483648).1])]:=by
 have k1:=Ig (ZX h);have i:=Iq (w:=⟨[40]⟩) k1.hi;have k3:=IA (m:=2147483648) i.hi;have K:=k1.trans (i.trans k3);refine f8w N ln num w k e xs _ z r 0 ((a.step.need ⟨[40]⟩).l.length+1) _ [((a.step.need ⟨[40]⟩).num 2147483648).1] 1 (K.ok hs) (u.ge K) ?_ rfl (by omega) ?_
 ·rw[k3.l];omega
 ·rw[c1t,q];dsimp only;rw[j];dsimp only;rw[f9w h];rfl
def i7a{N:Nat}{s:RS}{ln:Int}{n:List UInt8}(hs:Zo s)(k:Wq N s):Oi (ZW [] [] (KD (callR0 (Y9 N) ln ⟨n⟩ s).1) (callR0 (Y9 N) ln ⟨n⟩ s).2) s N ln n:=by
 have hl:=ZO hs;refine YV hs (λh=>ZZ rfl ?_) λh=>Z5 (by simp) ?_
 ·have k1:=Ig (ZX h);have y:=k1.ok hs;have B:=RGe.sizes k1.hi;have u:=B.ok y;have k3:=Iq (w:=⟨[93]⟩) B.hi;have e:=k3.ok u;have C:=k1.trans (B.trans k3);refine h0e y (YM u (YV e (λh2=>ZZ rfl ?_) λh2=>Z5 (by simp) ?_))
  ·have l:=Ig (ZX h2);have g:=l.ok e;have q:=IA (m:=2147483648) l.hi;have i:=q.ok g;have z:=Iq (w:=⟨[125]⟩) q.hi;have b:=z.ok i;have A:=C.trans (l.trans (q.trans z));refine V7 g (YM i (YV b (λh3=>ZZ rfl ?_) λh3=>Z5 (by simp) ?_))
   ·have j:=Ig (ZX h3);have a:=j.ok b;have r:=Iq (w:=⟨[40]⟩) j.hi;exact YM a (V7 (r.ok a) (Sb (Zt rfl) b (k.ge A) (Pt h) (N9 h2) h3))
   ·exact Gh (Pt h) (N9 h2) (P8 h3) b (k.ge A) (Zt rfl) ZN
  ·refine YV e (λh3=>ZZ rfl ?_) λh3=>Z5 (by simp) ?_
   ·have j:=Ig (ZX h3);have a:=j.ok e;have r:=Iq (w:=⟨[40]⟩) j.hi;exact YM a (V7 (r.ok a) (Sb (Zt rfl) e (k.ge C) (Pt h) (NA h2) h3))
   ·exact Gh (Pt h) (NA h2) (P8 h3) e (k.ge C) (Zt rfl) ZN
 ·refine YV hs (λh2=>ZZ rfl ?_) λh2=>Z5 (by simp) ?_
  ·have l:=Ig (ZX h2);have g:=l.ok hs;have q:=IA (m:=2147483648) l.hi;have i:=q.ok g;have z:=Iq (w:=⟨[125]⟩) q.hi;have b:=z.ok i;have A:=l.trans (q.trans z);refine V7 g (YM i (YV b (λh3=>ZZ rfl ?_) λh3=>Z5 (by simp) ?_))
   ·have j:=Ig (ZX h3);have a:=j.ok b;have r:=Iq (w:=⟨[40]⟩) j.hi;exact YM a (V7 (r.ok a) (Sb ZN b (k.ge A) (Nb h) (N9 h2) h3))
   ·exact Gh (Nb h) (N9 h2) (P8 h3) b (k.ge A) ZN ZN
  ·refine YV hs (λh3=>ZZ rfl ?_) λh3=>Z5 (by simp) ?_
   ·have j:=Ig (ZX h3);have a:=j.ok hs;have r:=Iq (w:=⟨[40]⟩) j.hi;exact YM a (V7 (r.ok a) (Sb ZN hs k (Nb h) (NA h2) h3))
   ·exact Gh (Nb h) (NA h2) (P8 h3) hs k ZN ZN
def g0k{ex:RS->Tm×RS}{ln:Int}{s:RS}(h:s.func.2.plain s.func.1=false):callRR ex ln s=callR0 ex ln s.func.1 s.func.2:=fo (by rw[h];decide)
def e3u{ex:RS->Tm×RS}{ln:Int}{s:RS}(h:s.func.2.plain s.func.1):callRR ex ln s=(.mk (Vk 1 ln s.func.1) [],s.func.2):=fw h
def g8f(N:Nat): ∀ (s:RS) (a:Int×Unit),(Zo s&&decide (Ic (RS.l s) - RS.i s<N+1)&&dF s 1)->Zh (BN N) 1 (ZA 1 Hl (ZW [] [] (Rc N s a).1 (Rc N s a).2)) JR [] (Yr i9c (ZG a) ([]++[Zz s])):=by
 rintro s ⟨ln,⟨⟩⟩ h;obtain⟨h,z⟩:=(Cm _ _▸h:_∧_)
 obtain⟨hs,B⟩:=Ca h;have hl:=ZO hs;have hi:=Um z;have C:=Ig hi;have h1:=RGe.func1 z;have k1:=C.trans h1;have b:=k1.ok hs;have hl1:=ZO b;have k:Wq N s.func.2:=(B.step hi).ge h1;have hp:1<=s.func.2.i:=by have:=h1.le;have e3:s.step.i=s.i+1:=rfl;omega
 show Zh (BN N) 1 (ZA 1 Hl (ZW [] [] (KD (callRR (Y9 N) ln s).1) (callRR (Y9 N) ln s).2)) JR [] _;have go:s.func.2.plain s.func.1=false->Oi (ZW [] [] (KD (callRR (Y9 N) ln s).1) (callRR (Y9 N) ln s).2) s.func.2 N ln s.func.1.s:=λe=>by rw[g0k e];exact i7a b k
 refine j4d N s ln (d0a hs (Xj (λhb=> ?_) λhb=>go (by unfold IW;rw[hb];rfl)));have D:Ia.wrap ((s.func.2.i:Int) - 1)=((s.func.2.i - 1:Nat):Int):=by rw[Xf (by omega) (by omega)];omega
 have u:s.func.2.i - 1<s.func.2.l.length:=by omega
 have A:s.func.2.l.getD (s.func.2.i - 1) ⟨0,⟨[]⟩,0,0⟩=s.func.2.l[s.func.2.i - 1]:=by rw[aN,aU u];rfl
 rw[D];refine⟨ZT u rfl,Ym u (ZP (λg=>EP b (Xj (λr=>EP b (Xj (λy=>EP b (Xj (λj=>EP b (Xj (λq=> ?_) λq=>go ?_)) λj=>go ?_)) λy=>go ?_)) λr=>go ?_)) λg=>go ?_)⟩
 ·have g:s.func.2.l[s.func.2.i - 1].t.s=s.func.1.s:=g;rw[e3u (by unfold IW;rw[hb,A,eY (show s.func.2.l[s.func.2.i - 1].t=s.func.1 from congrArg Str.mk g),r,y,j,q];rfl)];exact Zx (FZ (XK rfl) (XK rfl) (WM rfl) (XK rfl) (WM rfl) ZN ZN ZN ZN ZN)
 ·unfold IW;rw[q];simp
 ·unfold IW;rw[j];simp
 ·unfold IW;rw[y];simp
 ·unfold IW;rw[r];simp
 ·have g:s.func.2.l[s.func.2.i - 1].t.s≠s.func.1.s:=g;unfold IW;rw[A,fF (show ¬ s.func.2.l[s.func.2.i - 1].t=s.func.1 from λe=>g (congrArg Str.s e))];simp
def e1b{c ln:Int}{w:List UInt8}{ts:List Tm}{p:PV}(h:Ze ts p):Ze (KD (.mk (Vk c ln ⟨w⟩) ts)) (.agg [.int .i64 c,.int .i64 ln,.str w,.int .i64 0,.str [],.sl 0 true [],.sl 0 true [],.sl 0 true [],.sl 0 true [],p]):=FZ (XK rfl) (XK rfl) (WM rfl) (XK rfl) (WM rfl) ZN ZN ZN ZN h
def Lm{ex:RS->Tm×RS}{s:RS}{o:List Tm}(h:s.bad): ∀ k,foldK ex k s o=(o,s)
 | 0=>rfl
 | k+1=>by rw[foldK,fw h]
def b9y{ex:RS->Tm×RS}{k:Nat}{s:RS}{o:List Tm}(h:s.bad=false):foldK ex (k+1) s o=foldK ex k (ex (s.need ⟨[44]⟩)).2 (o++[(ex (s.need ⟨[44]⟩)).1]):=by rw[foldK,fo (by rw[h];decide)]
def d8r(c ln:Int)(w:Str)(b:List Tm×RS):Tm×RS:=(.mk (Vk c ln w) b.1,b.2.need ⟨[41]⟩)
def i8y(N:Nat)(ln c K:Int)(w:List UInt8)(R:Tm×RS): ∀ (n:Nat) (s:RS) (o:List Tm) (L:Nat) (i:Int),Zo s->Wq N s->L=o.length->L<=10->0<=i->i+n=K->K<=10->L+n<=10->R=d8r c ln ⟨w⟩ (foldK (Y9 N) n s o) ->
  At (BX N) 1 (ZA 1 Hr (ZW [] [] (KD R.1) R.2)) JN 0 45 [(0,.ptr 0 0),(4,.ptr 1 0),(5,.ptr 2 0),(6,.pv (.int .i64 K)),(7,.pv (.int .i64 i))] [.obj (Zz s),.obj (.box [.pv (.int .i64 0),.pv (.int .i64 0),.pv (.str []),.pv (.int .i64 0),.pv (.str []),.pv (.sl 0 true []),.pv (.sl 0 true []),.pv (.sl 0 true []),.pv (.sl 0 true []),.pv (.sl 0 true [])]),.obj (.box [.pv (.int .i64 c),.pv (.int .i64 ln),.pv (.str w),.pv (.int .i64 0),.pv (.str []),.pv (.sl 0 true []),.pv (.sl 0 true []),.pv (.sl 0 true []),.pv (.sl 0 true []),.row 3 L 0 L]),.obj (.row false 28 10 (o.map enc))]:=by
 intro n
 induction n with
 | zero=>intro s o L i hs l a j hi k h hn e;subst e;refine d9w N s ln w c K i o L (Z5 (by simp;omega) (YM hs ⟨by simp[a],?_⟩));rw[NS o a];exact Zx (e1b (Bn o rfl))
 | succ n ih=>
  intro s o L i hs l a j hi k h hn e;have r:=ZO hs;refine d9w N s ln w c K i o L (ZZ (by simp;omega) (Xj (λhb=>YM hs ?_) λhb=>YM hs ⟨by simp[a],?_⟩))
  ·rw[b9y hb]at e;have k1:=Iq (w:=⟨[44]⟩) r.2;have g:=k1.ok hs;have b:=l.ge k1;have q:=aL b k1.hi;refine c6d g b ⟨by simp[a];omega,?_⟩;rw[h8n o (Y9 N (s.need ⟨[44]⟩)).1,show Ia.wrap (i+1)=i+1 from Xf (by omega) (by omega)];exact ih _ _ _ _ (q.ok g) (b.ge q) (by rw[a];simp) (by simp;omega) (by omega) (by push_cast at k;omega) h (by simp;omega) e
  ·rw[Lm hb]at e;subst e;rw[NS o a];exact Zx (e1b (Bn o rfl))
def g0b(N:Nat)(ln c K:Int)(w:List UInt8)(R:Tm×RS)(n:Nat)(s:RS)(hs:Zo s)(j:Wq N s)(hK:(n:Int)+1=K)(hK2:K<=9)(g:R=d8r c ln ⟨w⟩ (foldK (Y9 N) (n+1) s [])):
  At (BX N) 1 (ZA 1 Hr (ZW [] [] (KD R.1) R.2)) JN 0 45 [(0,.ptr 0 0),(4,.ptr 1 0),(5,.ptr 2 0),(6,.pv (.int .i64 K)),(7,.pv (.int .i64 0))] [.obj (Zz s),.obj (.box [.pv (.int .i64 0),.pv (.int .i64 0),.pv (.str []),.pv (.int .i64 0),.pv (.str []),.pv (.sl 0 true []),.pv (.sl 0 true []),.pv (.sl 0 true []),.pv (.sl 0 true []),.pv (.sl 0 true [])]),.obj (.box [.pv (.int .i64 c),.pv (.int .i64 ln),.pv (.str w),.pv (.int .i64 0),.pv (.str []),.pv (.sl 0 true []),.pv (.sl 0 true []),.pv (.sl 0 true []),.pv (.sl 0 true []),.pv (.sl 0 true [])])]:=by
 have i:=ZO hs;refine d9d N s ln w c K 0 (ZZ (by simp;omega) (Xj (λhb=>YM hs ?_) λhb=>YM hs ?_))
 ·rw[b9y hb]at g;have k1:=Iq (w:=⟨[44]⟩) i.2;have b:=k1.ok hs;have a:=j.ge k1;have h:=aL a k1.hi;refine c6d b a ?_;have e:([eS (KD (Y9 N (s.need ⟨[44]⟩)).1)]:List PV)=[(Y9 N (s.need ⟨[44]⟩)).1].map enc:=congrArg (λx=>[x]) (b1y _);rw[e];exact i8y N ln c K w R n _ [(Y9 N (s.need ⟨[44]⟩)).1] 1 1 (h.ok b) (a.ge h) rfl (by omega) (by omega) (by omega) (by omega) (by omega) g
 ·rw[Lm hb]at g;subst g;exact Zx (e1b ZN)
def h3r{ex:RS->Tm×RS}{ln:Int}{s:RS}(h:s.is ⟨[102,111,108,100]⟩):loopR ex ln s=d8r 8 ln (s.step.need ⟨[40]⟩).func.1 (foldK ex 2 (s.step.need ⟨[40]⟩).func.2 []):=fw h
def h3s{ex:RS->Tm×RS}{ln:Int}{s:RS}(h:s.is ⟨[102,111,108,100]⟩=false):loopR ex ln s=d8r 9 ln ((s.need ⟨[115,99,97,110]⟩).need ⟨[40]⟩).func.1 (foldK ex 1 ((s.need ⟨[115,99,97,110]⟩).need ⟨[40]⟩).func.2 []):=fo (by rw[h];decide)
def g6w(N:Nat): ∀ (s:RS) (a:Int×Unit),(Zo s&&decide (Ic (RS.l s) - RS.i s<N+1))->Zh (BX N) 1 (ZA 1 Hr (ZW [] [] (Pe N s a).1 (Pe N s a).2)) JN [] (Yr i3j (ZG a) ([]++[Zz s])):=by
 rintro s ⟨ln,⟨⟩⟩ h;obtain⟨hs,z⟩:=Ca h;have A:=ZO hs;show Zh (BX N) 1 (ZA 1 Hr (ZW [] [] (KD (loopR (Y9 N) ln s).1) (loopR (Y9 N) ln s).2)) JN [] _;refine j0s N s ln (YV hs (λh=>Z5 (by simp) ?_) λh=>ZZ rfl ?_)
 ·have k1:=Ig (ZX h);have b:=k1.ok hs;have e:=Iq (w:=⟨[40]⟩) k1.hi;have k3:=dV e.hi;rw[h3r h];exact YM b (d0a (e.ok b) (g0b N ln 8 2 _ _ 1 _ (k3.ok (e.ok b)) ((z.step (ZX h)).ge (e.trans k3)) (by omega) (by omega) rfl))
 ·rw[h3s h];have k1:=Iq (w:=⟨[115,99,97,110]⟩) A.2;have b:=k1.ok hs;have e:=Iq (w:=⟨[40]⟩) k1.hi;have j:=e.ok b;have k3:=dV e.hi;have g:=k3.ok j;refine YM hs (YM b (d0a j ?_));cases q:s.is ⟨[115,99,97,110]⟩with
  | true=>
   have k:Wq N (s.need ⟨[115,99,97,110]⟩):=by rw[show s.need ⟨[115,99,97,110]⟩=s.step from fw q];exact z.step (ZX q)
   exact g0b N ln 9 1 _ _ 0 _ g (k.ge (e.trans k3)) (by omega) (by omega) rfl
  | false=>
   have u:s.need ⟨[115,99,97,110]⟩=s.fail:=Dz q;have r:s.fail.need ⟨[40]⟩=s.fail:=DU rfl;have B:s.fail.name=(⟨[]⟩,s.fail):=fo (by rw[YN (show s.fail.bad from rfl)];decide);have y:s.fail.func=(⟨[]⟩,s.fail):=by unfold IZ;rw[B];exact fo (by rw[Xy (show s.fail.bad from rfl)];decide)
   rw[u,r,y]at g;rw[u,r,y];dsimp only;rw[Lm (show s.fail.bad from rfl)];refine d9d N s.fail ln [] 9 1 0 (ZZ (by decide) (Z5 (by simp[RS.fail]) (YM g ?_)));exact Zx (e1b ZN)
def h0m{ex:RS->Tm×RS}{s:RS}(h:s.kind 3):primR ex s=(.mk {Vk 2 s.line ⟨Xi⟩with num:=(s.num 2147483647).1} [],(s.num 2147483647).2):=fw h
section
variable {ex:RS->Tm×RS} {s:RS} (h1:s.kind 3=false)
include h1
theorem f5v(h:s.is ⟨[116,114,117,101]⟩):primR ex s=(.mk {Vk 2 s.line ⟨YK⟩with num:=1} [],s.step):=(fo (by rw[h1];decide)).trans (fw h)
variable (h2:s.is ⟨[116,114,117,101]⟩=false)
include h2
theorem e3q(h:s.is ⟨[102,97,108,115,101]⟩):primR ex s=(.mk (Vk 2 s.line ⟨YK⟩) [],s.step):=(fo (by rw[h1];decide)).trans ((fo (by rw[h2];decide)).trans (fw h))
variable (h3:s.is ⟨[102,97,108,115,101]⟩=false)
include h3
theorem e9s(h:s.kind 1):primR ex s=callRR ex s.line s:=(fo (by rw[h1];decide)).trans ((fo (by rw[h2];decide)).trans ((fo (by rw[h3];decide)).trans (fw h)))
variable (h4:s.kind 1=false)
include h4
theorem h7n(h:s.is ⟨[40]⟩):primR ex s=((ex s.step).1,(ex s.step).2.need ⟨[41]⟩):=(fo (by rw[h1];decide)).trans ((fo (by rw[h2];decide)).trans ((fo (by rw[h3];decide)).trans ((fo (by rw[h4];decide)).trans (fw h))))
variable (h5:s.is ⟨[40]⟩=false)
include h5
theorem h5r(h:s.is ⟨[91]⟩):primR ex s=(.mk (Ps 7 s.line) (listR ex ⟨[93]⟩ s.step).1,(listR ex ⟨[93]⟩ s.step).2):=(fo (by rw[h1];decide)).trans ((fo (by rw[h2];decide)).trans ((fo (by rw[h3];decide)).trans ((fo (by rw[h4];decide)).trans ((fo (by rw[h5];decide)).trans (fw h)))))
variable (h6:s.is ⟨[91]⟩=false)
include h6
theorem g6s(h:s.is ⟨[35]⟩):primR ex s=s.step.con s.line:=(fo (by rw[h1];decide)).trans ((fo (by rw[h2];decide)).trans ((fo (by rw[h3];decide)).trans ((fo (by rw[h4];decide)).trans ((fo (by rw[h5];decide)).trans ((fo (by rw[h6];decide)).trans (fw h))))))
variable (h7:s.is ⟨[35]⟩=false)
include h7
theorem f5h(h:s.is ⟨[115,105,122,101]⟩):primR ex s=sizeR0 s.line s.step:=(fo (by rw[h1];decide)).trans ((fo (by rw[h2];decide)).trans ((fo (by rw[h3];decide)).trans ((fo (by rw[h4];decide)).trans ((fo (by rw[h5];decide)).trans ((fo (by rw[h6];decide)).trans ((fo (by rw[h7];decide)).trans (fw h)))))))
variable (h8:s.is ⟨[115,105,122,101]⟩=false)
include h8
theorem f8z:primR ex s=loopR ex s.line s:=(fo (by rw[h1];decide)).trans ((fo (by rw[h2];decide)).trans ((fo (by rw[h3];decide)).trans ((fo (by rw[h4];decide)).trans ((fo (by rw[h5];decide)).trans ((fo (by rw[h6];decide)).trans ((fo (by rw[h7];decide)).trans (fo (by rw[h8];decide))))))))
end
set_option maxHeartbeats 2000000 in
def h1p(N:Nat): ∀ (s:RS) (a:Unit),(Zo s&&decide (Ic (RS.l s) - RS.i s<N+1))->Zh (g2r N) 1 (ZA 1 d3t (ZW [] [] (Pi N s a).1 (Pi N s a).2)) d1l [] (Yr i7q (ZG a) ([]++[Zz s])):=by
 rintro s ⟨⟩ h;obtain⟨hs,A⟩:=Ca h;have hl:=ZO hs;show Zh (g2r N) 1 (ZA 1 d3t (ZW [] [] (KD (primR (Y9 N) s).1) (primR (Y9 N) s).2)) d1l [] _;refine j3q N s (b1a hs (VZ hs (YC (λb=>V7 hs ?_) λb=>YV hs (λe=>ZZ rfl ?_) λe=>Z5 (by simp) (YV hs (λj=>ZZ rfl ?_) λj=>Z5 (by simp) (VZ hs (YC (λg=>i7e hs A g ?_) λg=>YV hs (λk=>ZZ rfl ?_) λk=>Z5 (by simp) (YV hs (λq=>ZZ rfl ?_) λq=>Z5 (by simp) (YV hs (λy=>ZZ rfl ?_) λy=>Z5 (by simp) (YV hs (λz=>ZZ rfl ?_) λz=>Z5 (by simp) (i5s hs A ?_))))))))))
 ·rw[h0m b];exact Zx (b8f ZN)
 ·rw[f5v b e];exact Zx (b8f ZN)
 ·rw[e3q b e j];exact Zx (b8f ZN)
 ·rw[e9s b e j g];exact Zx (b4h _)
 ·have hi:=ZX k;have k1:=Ig hi;have C:=A.step hi;have B:=aL C k1.hi;rw[h7n b e j g k];exact c6d (k1.ok hs) C (YM (B.ok (k1.ok hs)) (Zx (b4h _)))
 ·have hi:=ZX q;have k1:=Ig hi;have C:=A.step hi;rw[h5r b e j g k q];exact c9x (k1.ok hs) C (Zx (FZ (XK rfl) (XK rfl) (WM rfl) (XK rfl) (WM rfl) ZN ZN ZN ZN (Zt rfl)))
 ·have k1:=Ig (ZX y);rw[g6s b e j g k q y];exact j1n (k1.ok hs) (Zx (b4h _))
 ·have k1:=Ig (ZX z);have u:=k1.ok hs;have B:=Iq (w:=⟨[91]⟩) k1.hi;have r:=B.ok u;have k3:=RGe.size B.hi;have D:=k3.ok r;rw[f5h b e j g k q y z];exact YM u (d2r r (YM D (Zx (FZ (XK rfl) (XK rfl) (WM rfl) (XK rfl) (WM rfl) ZN ZN (Zt (x:=[(s.step.need ⟨[91]⟩).size.1]) rfl) ZN ZN))))
 ·rw[f8z b e j g k q y z];exact Zx (b4h _)
def g8t(N:Nat): ∀ (s:RS) (a:Unit),(Zo s&&decide (Ic (RS.l s) - RS.i s<N+1))->Zh (f7h N) 1 (ZA 1 d1q (ZW [] [] (OW (N+1) s a).1 (OW (N+1) s a).2)) d2l [] (Yr i1l (ZG a) ([]++[Zz s])):=by
 rintro s ⟨⟩ h;obtain⟨hs,j⟩:=Ca h;have hl:=ZO hs;show Zh (f7h N) 1 (ZA 1 d1q (ZW [] [] (KD (QX (N+1) s).1) (QX (N+1) s).2)) d2l [] _;rw[b8t];refine j1k N s (b1a hs (YV hs (λb=>ZZ rfl (VZ ((Ig (ZX b)).ok hs) (YC (λg=>V7 ((Ig (ZX b)).ok hs) ?_) λg=>i7z ((Ig (ZX b)).ok hs) (j.step (ZX b)) ?_))) λb=>Z5 (by simp) (YV hs (λe=>ZZ rfl (i7z ((Ig (ZX e)).ok hs) (j.step (ZX e)) ?_)) λe=>Z5 (by simp) (i0f hs j ?_))))
 ·rw[show unaR (Y9 N) (QX N) s=(.mk {Vk 2 s.line ⟨Xi⟩with num:=Ia.wrap (-(s.step.num 2147483648).1)} [],(s.step.num 2147483648).2)from(fw b).trans (fw g)];exact Zx (b8f ZN)
 ·rw[show unaR (Y9 N) (QX N) s=(.mk (Vk 6 s.line ⟨[110,101,103]⟩) [(QX N s.step).1],(QX N s.step).2)from(fw b).trans (fo (by rw[g];decide))];exact Zx (b8f (b8c (Aa _)))
 ·rw[show unaR (Y9 N) (QX N) s=(.mk (Vk 6 s.line ⟨[110,111,116]⟩) [(QX N s.step).1],(QX N s.step).2)from(fo (by rw[b];decide)).trans (fw e)];exact Zx (b8f (b8c (Aa _)))
 ·rw[show unaR (Y9 N) (QX N) s=primR (Y9 N) s from(fo (by rw[b];decide)).trans (fo (by rw[e];decide))];exact Zx (b4h _)
def j0v{N:Nat}{s:RS}{v:Int}{K:TS->RS->Prop}(hs:Zo s)(e:Wq (N+1) s)(b:1<=v∧v<=6)(h:K (QB (N+1) s (v,())).1 (QB (N+1) s (v,())).2):Ki ZG Xv [] [] (λ(s:RS) (a:Int×Unit)=>Zo s&&decide (Ic (RS.l s) - RS.i s<N+1)&&(decide (1<=Ik a)&&decide (Ik a<=6))) (QB (N+1)) [.ptr 0 0,.pv (.int .i64 v)] [Zz s] K:=XW ZQ s (v,()) rfl rfl (by rw[Gd hs e,eY b.1,eY b.2];rfl) h
def i7h{N:Nat}{V:Int}{s:RS}{v:Int}{K:TS->RS->Prop}(hs:Zo s)(e:Wq (N+1) s)(b:1<=v∧v<=6)(g:V<v)(h:K (QB (N+1) s (v,())).1 (QB (N+1) s (v,())).2):Ki ZG Xv [] [] (λ(s:RS) (a:Int×Unit)=>Zo s&&decide (Ic (RS.l s) - RS.i s<N+1)&&(decide (1<=Ik a)&&(decide (V<Ik a)&&decide (Ik a<=6)))) (QB (N+1)) [.ptr 0 0,.pv (.int .i64 v)] [Zz s] K:=XW ZQ s (v,()) rfl rfl (by rw[Gd hs e,eY b.1,eY g,eY b.2];rfl) h
def c7n{N:Nat}{V:Int}{s:RS}{v w:Int}{xs:List AV}{K:TS->RS->Prop}(k:xs=(encL s).map AV.pv)(j:w=v)(hs:Zo s)(e:Wq (N+1) s)(b:1<=v∧v<=6)(g:V<v)(h:K (QB (N+1) s (v,())).1 (QB (N+1) s (v,())).2):Ki ZG Xv [] [] (λ(s:RS) (a:Int×Unit)=>Zo s&&decide (Ic (RS.l s) - RS.i s<N+1)&&(decide (1<=Ik a)&&(decide (V<Ik a)&&decide (Ik a<=6)))) (QB (N+1)) [.ptr 0 0,.pv (.int .i64 w)] [.box xs] K:=by subst k;subst j;exact i7h hs e b g h
def DL{N d:Nat}{s:RS}{v:Int}(h:v=6 - (d:Int)):QB N s (v,())=tsR (fromR (QX N) d s):=by subst h;show tsR (fromR (QX N) (6 - (6 - (d:Int))).toNat s)=_;rw[show(6 - (6 - (d:Int))).toNat=d by omega]
def f7z{fr:RS->Tm×RS}{lev ln:Int}{n:Nat}{s:RS}{l:Tm}(h:(s.oper lev).2=false):opR fr lev ln (n+1) s l=(l,s):=fo (by rw[h];decide)
def Fe{fr:RS->Tm×RS}{lev ln:Int}{n:Nat}{s t:RS}{l:Tm}(h:(s.oper lev).2)(ht:(if ((fr s.step).2.oper lev).2&&decide (lev=3)then(fr s.step).2.fail else(fr s.step).2)=t):opR fr lev ln (n+1) s l=opR fr lev ln n t (.mk (Vk 6 ln (s.oper lev).1) [l,(fr s.step).1]):=by rw[<- ht];exact fw h
def d2i(N d:Nat)(V v c:Int)(hVv:V<=v)(hd:d<=4)(hv:v=5 - (d:Int))(R:Tm×RS): ∀ (n:Nat) (s:RS) (w:List UInt8) (p q:PV) (l:Tm),Zo s->Wq (N+1) s->s.l.length<s.i+n->Ze (KD l) (.agg [.int .i64 6,.int .i64 c,.str w,.int .i64 0,.str [],.sl 0 true [],.sl 0 true [],.sl 0 true [],.sl 0 true [],.sl 10 false [p,q]])->R=opR (fromR (QX (N+1)) d) v c n s l ->
  At (Du N V) 1 (ZA 1 Kl (ZW [] [] (tsR R).1 (tsR R).2)) Q6 0 60 [(0,.ptr 0 0),(1,.pv (.int .i64 v)),(4,.ptr 1 0),(5,.pv (.int .i64 c)),(6,.ptr 2 0)] [.obj (Zz s),.obj (.box [.pv (.int .i64 0),.pv (.int .i64 0),.pv (.str []),.pv (.int .i64 0),.pv (.str []),.pv (.sl 0 true []),.pv (.sl 0 true []),.pv (.sl 0 true []),.pv (.sl 0 true []),.pv (.sl 0 true [])]),.obj (.box [.pv (.int .i64 6),.pv (.int .i64 c),.pv (.str w),.pv (.int .i64 0),.pv (.str []),.pv (.sl 0 true []),.pv (.sl 0 true []),.pv (.sl 0 true []),.pv (.sl 0 true []),.row 3 2 0 2]),.obj (.row false 28 10 [p,q])]:=by
 intro n
 induction n with
 | zero=>intro s w p q l hs _ hi;have:=ZO hs;omega
 | succ n ih=>
  intro s w p q l hs u hi k g;have r:=ZO hs;refine h7j N s V v w [p,q] c (b6d hs (Xj (λh=>⟨rfl,?_⟩) λh=> ?_))
  ·rw[f7z h]at g;subst g;exact⟨_,rfl,k,rfl⟩
  ·have h:(s.oper v).2:=h;have j:=a3o h;have k1:=Ig j;have b:=k1.ok hs;have e:=u.ge k1;have hu:DN (N+1) (fromR (QX (N+1)) d):=bY (Nz (N+1)).2 d;have a:=hu _ e k1.hi;have e1:=a.le;have e3:s.step.i=s.i+1:=rfl;refine c7n (v:=6 - (d:Int)) (DJ j r.1) (by rw[Xf (by omega) (by omega)];omega) b e (by omega) (by omega) ?_;rw[DL (d:=d) rfl];refine⟨rfl,b6d (a.ok b) (YC (λh2=>ZP (λh3=> ?_) λh3=> ?_) λh2=> ?_)⟩
   ·have h2:((fromR (QX (N+1)) d s.step).2.oper v).2:=h2;have k3:=dW a.hi;rw[Fe h (t:=(fromR (QX (N+1)) d s.step).2.fail) (by rw[h2,h3];rfl)]at g;refine ih (fromR (QX (N+1)) d s.step).2.fail _ _ _ _ (k3.ok (a.ok b)) (e.ge (a.trans k3)) ?_ (b0e (b7s k) (Aa _)) g;rw[k3.l,a.l,k1.l];show s.l.length<(fromR (QX (N+1)) d s.step).2.i+n;omega
   ·rw[Fe h (t:=(fromR (QX (N+1)) d s.step).2) (by rw[fo];simp;intro _;exact h3)]at g;refine ih _ _ _ _ _ (a.ok b) (e.ge a) ?_ (b0e (b7s k) (Aa _)) g;show(fromR (QX (N+1)) d s.step).2.l.length<(fromR (QX (N+1)) d s.step).2.i+n;rw[a.l,k1.l];omega
   ·have h2:((fromR (QX (N+1)) d s.step).2.oper v).2=false:=h2;rw[Fe h (t:=(fromR (QX (N+1)) d s.step).2) (by rw[h2];rfl)]at g;refine ih _ _ _ _ _ (a.ok b) (e.ge a) ?_ (b0e (b7s k) (Aa _)) g;show(fromR (QX (N+1)) d s.step).2.l.length<(fromR (QX (N+1)) d s.step).2.i+n;rw[a.l,k1.l];omega
def i5g(N d:Nat)(V v c:Int)(j:V<=v)(hd:d<=4)(q:v=5 - (d:Int))(R:Tm×RS)(n:Nat)(s:RS)(l:Tm)(hs:Zo s)(u:Wq (N+1) s)(hi:s.l.length<s.i+n)(g:R=opR (fromR (QX (N+1)) d) v c n s l):
  At (Du N V) 1 (ZA 1 Kl (ZW [] [] (tsR R).1 (tsR R).2)) Q6 0 60 [(0,.ptr 0 0),(1,.pv (.int .i64 v)),(4,.ptr 1 0),(5,.pv (.int .i64 c)),(6,.ptr 2 0)] [.obj (Zz s),.obj (.box [.pv (.int .i64 0),.pv (.int .i64 0),.pv (.str []),.pv (.int .i64 0),.pv (.str []),.pv (.sl 0 true []),.pv (.sl 0 true []),.pv (.sl 0 true []),.pv (.sl 0 true []),.pv (.sl 0 true [])]),.obj (.box (bS (KD l)))]:=by
 have r:=ZO hs;obtain⟨n,rfl⟩ : ∃ m,n=m+1:=⟨n - 1,by omega⟩
 refine g9r N s V v (KD l) c (b6d hs (Xj (λh=> ?_) λh=> ?_))
 ·rw[f7z h]at g;subst g;exact⟨_,rfl,b4h _,rfl⟩
 ·have h:(s.oper v).2:=h;have k:=a3o h;have k1:=Ig k;have b:=k1.ok hs;have e:=u.ge k1;have hu:DN (N+1) (fromR (QX (N+1)) d):=bY (Nz (N+1)).2 d;have a:=hu _ e k1.hi;have e1:=a.le;have e3:s.step.i=s.i+1:=rfl;refine c7n (v:=6 - (d:Int)) (DJ k r.1) (by rw[Xf (by omega) (by omega)];omega) b e (by omega) (by omega) ?_;rw[DL (d:=d) rfl];refine b6d (a.ok b) (YC (λh2=>ZP (λh3=> ?_) λh3=> ?_) λh2=> ?_)
  ·have h2:((fromR (QX (N+1)) d s.step).2.oper v).2:=h2;have k3:=dW a.hi;rw[Fe h (t:=(fromR (QX (N+1)) d s.step).2.fail) (by rw[h2,h3];rfl)]at g;refine d2i N d V v c j hd q R n (fromR (QX (N+1)) d s.step).2.fail _ _ _ _ (k3.ok (a.ok b)) (e.ge (a.trans k3)) ?_ (b0e (Aa _) (Aa _)) g;rw[k3.l,a.l,k1.l];show s.l.length<(fromR (QX (N+1)) d s.step).2.i+n;omega
  ·rw[Fe h (t:=(fromR (QX (N+1)) d s.step).2) (by rw[fo];simp;intro _;exact h3)]at g;refine d2i N d V v c j hd q R n _ _ _ _ _ (a.ok b) (e.ge a) ?_ (b0e (Aa _) (Aa _)) g;show(fromR (QX (N+1)) d s.step).2.l.length<(fromR (QX (N+1)) d s.step).2.i+n;rw[a.l,k1.l];omega
  ·have h2:((fromR (QX (N+1)) d s.step).2.oper v).2=false:=h2;rw[Fe h (t:=(fromR (QX (N+1)) d s.step).2) (by rw[h2];rfl)]at g;refine d2i N d V v c j hd q R n _ _ _ _ _ (a.ok b) (e.ge a) ?_ (b0e (Aa _) (Aa _)) g;show(fromR (QX (N+1)) d s.step).2.l.length<(fromR (QX (N+1)) d s.step).2.i+n;rw[a.l,k1.l];omega
def g7u(N:Nat)(V:Int): ∀ (s:RS) (a:Int×Unit),(Zo s&&decide (Ic (RS.l s) - RS.i s<N+1)&&(decide (1<=Ik a)&&(decide (V - 1<Ik a)&&decide (Ik a<=6))))->Zh (Du N V) 1 (ZA 1 Kl (ZW [] [] (QB (N+1) s a).1 (QB (N+1) s a).2)) Q6 [] (Yr i7i (ZG a) ([]++[Zz s])):=by
 rintro s ⟨v,⟨⟩⟩ h;obtain⟨h,hv⟩:(Zo s&&decide (Ic (RS.l s) - RS.i s<N+1))∧(1<=v∧V - 1<v∧v<=6):=by rw[Cm]at h;refine⟨h.1,?_⟩;simpa using h.2
 obtain⟨hs,b⟩:=Ca h;have e:=ZO hs;refine j4v N s V v (YH (λh6=> ?_) λh6=>b1a hs ?_)
 ·rw[DL (d:=0) (by omega)];exact i7z hs b ⟨_,rfl,b4h _,rfl⟩
 ·obtain⟨d,hd⟩ : ∃ d:Nat,v=5 - (d:Int):=⟨(5 - v).toNat,by omega⟩
  rw[DL (d:=d+1) (by omega)];have hu:DN (N+1) (fromR (QX (N+1)) d):=bY (Nz (N+1)).2 d;have k1:=hu _ b e.2;refine c7n (v:=6 - (d:Int)) rfl (by rw[Xf (by omega) (by omega)];omega) hs b (by omega) (by omega) ?_;rw[DL (d:=d) rfl];refine i5g N d V v _ (by omega) (by omega) hd (fromR (QX (N+1)) (d+1) s) (s.l.length+1) _ (fromR (QX (N+1)) d s).1 (k1.ok hs) (b.ge k1) ?_ (by rw[hd];rfl);show(fromR (QX (N+1)) d s).2.l.length<(fromR (QX (N+1)) d s).2.i+(s.l.length+1);rw[k1.l];omega
def g6p(N:Nat): ∀ (s:RS) (a:Unit),(Zo s&&decide (Ic (RS.l s) - RS.i s<N+1))->Zh (f0d N) 1 (ZA 1 c6m (ZW [] [] (Qp (N+1) s a).1 (Qp (N+1) s a).2)) c5q [] (Yr i8k (ZG a) ([]++[Zz s])):=by
 rintro s ⟨⟩ h;obtain⟨hs,A⟩:=Ca h;have hl:=ZO hs;show Zh (f0d N) 1 (ZA 1 c6m (ZW [] [] (KD (Y9 (N+1) s).1) (Y9 (N+1) s).2)) c5q [] _;rw[a7b];refine j1z N s (b1a hs (YV hs (λq=>Z5 (by simp) ?_) λq=>ZZ rfl (j0v hs A (by omega) ?_)))
 ·have hi:=ZX q;have k1:=Ig hi;have j:=k1.ok hs;have B:=A.step hi;have y:=RGe.name k1.hi;have g:=y.ok j;have k3:=Iq (w:=⟨[61]⟩) y.hi;have e:=k3.ok g;have r:=B.ge (y.trans k3);have k:=aL r k3.hi;have b:=k.ok e;have z:=Iq (w:=⟨[105,110]⟩) k.hi;have u:=z.ok b;have C:=r.ge (k.trans z);rw[show exR (Y9 N) (QX (N+1)) s=(.mk (Vk 5 s.line s.step.name.1) [(Y9 N (s.step.name.2.need ⟨[61]⟩)).1,(Y9 N ((Y9 N (s.step.name.2.need ⟨[61]⟩)).2.need ⟨[105,110]⟩)).1],(Y9 N ((Y9 N (s.step.name.2.need ⟨[61]⟩)).2.need ⟨[105,110]⟩)).2)from fw q];exact a5a j (YM g (c6d e r (YM b (c6d u C (Zx (b8f (c4t (Aa _) (Aa _))))))))
 ·rw[show exR (Y9 N) (QX (N+1)) s=fromR (QX (N+1)) 5 s from fo (by rw[q];decide),DL (d:=5) (by omega)];exact Zx (b4h _)
end
def e8t{α:Type}[Enc α]{x:α}{a b:Int}{p:PV}(h:Ze x p):Ze (⟨x,a,b⟩:R3 α Int Int) (.tup [p,.int .i64 a,.int .i64 b]):=by
 refine⟨?_,?_⟩
 ·show(is α p&&true&&true);rw[h.1];rfl
 ·show(⟨dec p,a,b⟩:R3 α Int Int)=⟨x,a,b⟩;rw[h.2]
def e2i:Ze (Tm.mk Hw []) (.agg [.int .i64 0,.int .i64 0,.str [],.int .i64 0,.str [],.sl 0 true [],.sl 0 true [],.sl 0 true [],.sl 0 true [],.sl 0 true []]):=b7s (FZ (XK rfl) (XK rfl) (WM rfl) (XK rfl) (WM rfl) ZN ZN ZN ZN ZN)
def i9k{f:Tm->Bool}{t:Tm}{p:PV}(h:Ze t p)(k:f t):preT (λx:Tm×Unit=>f x.1) [p]:=d5v (t,()) (by show(is Tm p&&true);rw[h.1];rfl) (by show((dec p:Tm),())=_;rw[h.2]) k
def j6d{β:Type}[Enc β]{f:Tm->β}{t:Tm}{p:PV}{P:β->Prop}(h:Ze t p)(k:P (f t)): ∃ y,AV.pv (Zp (λx:Tm×Unit=>f x.1) [p])=AV.pv (enc y)∧P y:=BZ (t,()) (by show((dec p:Tm),())=_;rw[h.2]) k
def PM{x:Lin}(h:Zf x):Zi ⟨0,[]⟩ x 1=(x,0):=by
 have a:Zf (⟨0,[]⟩:Lin):=by decide
 rw[VN 1 a h];have e:Yf ⟨0,[]⟩ x 1=x:=by
  have g:(Yf ⟨0,[]⟩ x 1).t=x.t:=FV (c4l 1 x.t _ (show KJ ([]:List Coef)from Qh a)) (c2x (a2e a)) (Qh h) (a2e h) λs=>by rw[c9m a h (by decide) (by decide)];show YG [] s+1*YG x.t s=YG x.t s;rw[JG];omega
  have b:(Yf ⟨0,[]⟩ x 1).k=x.k:=by rw[b9b a h (by decide) (by decide)];show 0+1*x.k=x.k;omega
  cases x;generalize Yf ⟨0,[]⟩ _ 1=z at g b;cases z;simp only at g b;rw[g,b]
 unfold HY;rw[e,h];rfl
def h3n{c:UInt8}(h:lowB c):c≠95:=by intro e;subst e;exact absurd h (by decide)
def h5g{n:Str}(h:nameI n.s):nameB n:=by
 obtain⟨n⟩:=n;cases n with
 | nil=>cases h
 | cons c r=>unfold nameI at h;simp only[Cm,fu]at h;obtain⟨⟨⟨h1,h2⟩,h3⟩,h4⟩:=h;show(if c=95 then _ else(lowB c&&r.all (λc=>lowB c||digB c)&&decide (r.length<=29)))=true;rw[fo (h3n h1),h1,eY h3];rw[show(λc=>lowB c||digB c)=Ml from funext λc=>bu _ _,h2];rfl
def e7y{n:Str}(h:nameI n.s):Zf (Jr n):=by unfold Zf Jr;simp only[aO,List.all_nil,h5g h];rfl
def e2w{x:Lin}(h:Zf x):X0 x 1=(x,0):=PM h
def FY{x:Lin}{k:Int}(h:(X0 x k).2=0):Zf (X0 x k).1:=(CE h).2.2
def a1m{a b:Lin}{k:Int}(h:Zf a=false∨Zf b=false):(Zi a b k).2≠0:=by
 intro e;have h1:=CE e;rcases h with h|h
 ·rw[h]at h1;cases h1.1
 ·rw[h]at h1;cases h1.2.1
def a3c{r:RS}{x:Lin×Int}(h:r.bad=false)(h1:x.2=0)(h2:Zf x.1):r.chk x=(x.1,r):=by unfold az;rw[h,h2,fF (λk=>k h1)];rfl
def d3z{r:RS}{x:Lin×Int}(h:r.bad=false)(h1:x.2≠0∨Zf x.1=false):r.chk x=(⟨0,[]⟩,r.wid):=by
 unfold az;rw[h,fw];rcases h1 with h1|h1
 ·rw[eY h1];rfl
 ·rw[h1];simp
def Nh{r:RS}{x:Lin×Int}(h:r.bad):(r.chk x).2=r:=by unfold az;rw[h];rfl
def BP{r:RS}{x:Lin×Int}(h:r.wide):(r.chk x).2.wide:=by
 unfold az;split
 ·rfl
 ·exact h
def Sim0.wid{z:Int}{s:PS}{r:RS}(h:Sim0 z s r):Sim0 z s r.wid:=⟨h.l,h.i,h.sz,h.bad,h.rbad,h.hi,h.lx⟩
def Sim0.wide{z:Int}{s:PS}{r:RS}(h:Sim0 z s r){b:Bool}:Sim0 z (s.wide b) r:=⟨h.l,h.i,h.sz,h.bad,h.rbad,h.hi,h.lx⟩
def Vv.wide{o:Int}{s:PS}(h:Vv o s){b:Bool}:Vv o (s.wide b):=h
structure LinS (z:Int) (tb:Bool) (s:PS) (l:Lin) (r:RS) (l':Lin):Prop where
 c:Sim0 z s r
 nw:r.wide=false->s.big=tb∧l=l'∧Zf l
 wd:r.wide->(s.big || !Zf l)
def c1b{z:Int}{s:PS}{r:RS}(h:Sim0 z s r):
  (Sim0 z s.item.2 r.item.2∧(r.item.2.wide=false->s.item.2.big=s.big∧r.wide=false∧s.item.1=r.item.1∧Zf s.item.1)∧(r.item.2.wide->r.wide∨(s.item.2.big || !Zf s.item.1))∧(s.big->s.item.2.big))∨(r.item.2.bad∧Vv (off z r.item.2) s.item.2):=by
 unfold dD dJ;by_cases k1:(s.peek 0).k=1
 ·have hi:=Xe (s:=s) (by omega);rw[fw k1,fo (by rw[h.kind (by decide)];simp;omega)];have e:s.name=((s.peek 0).t,s.step):=fw k1;have b:r.name=((s.peek 0).t,r.step):=by rw[<- h.tok hi];exact fw (by rw[h.kind (by decide)];simpa using k1)
  have i:=e7y (a3y h.lx k1);unfold bL;rw[e,b];dsimp only;rw[e2w i,a3c (r:=r.step) (x:=(Jr (s.peek 0).t,0)) h.rbad rfl i];exact Ib ⟨h.step hi,λq=>⟨rfl,q,rfl,i⟩,λq=>Ib q,λq=>q⟩
 rw[fo k1];by_cases k3:(s.peek 0).k=3
 ·have hi:=Xe (s:=s) (by omega);rw[fw (show r.kind 3=true by rw[h.kind (by decide)];simpa using k3)];have u:r.tok 0=s.peek 0:=h.tok hi;by_cases q:(Vp (s.peek 0).t).1<=2147483648
  ·have e:s.num 2147483648=((Vp (s.peek 0).t).1,s.step):=fw ⟨k3,d5j h.lx k3,q⟩;have b:r.num 2147483648=((Vp (s.peek 0).t).1,r.step):=by unfold af;rw[fw (show r.kind 3=true by rw[h.kind (by decide)];simpa using k3),u,fw q]
   rw[e,b];dsimp only;have h1:=h.step hi;generalize hc:(Vp (s.peek 0).t).1=c;by_cases j:(s.step.peek 0).k=1
   ·have l:=Xe (s:=s.step) (by omega);rw[fw ⟨j,h1.bad⟩,fw (show r.step.kind 1=true by rw[h1.kind (by decide)];simpa using j)];have y:s.step.name=((s.step.peek 0).t,s.step.step):=fw j;have A:r.step.name=((s.step.peek 0).t,r.step.step):=by rw[<- h1.tok l];exact fw (by rw[h1.kind (by decide)];simpa using j)
    unfold bL;rw[y,A];dsimp only;have h2:=h1.step l;by_cases g:(X0 (Jr (s.step.peek 0).t) c).2=0
    ·rw[a3c h2.rbad g (FY g)];refine Ib ⟨h2.wide,λq=>⟨?_,q,rfl,FY g⟩,λq=>Ib q,λq=> ?_⟩
     ·show(s.big||decide ((X0 (Jr (s.step.peek 0).t) c).2≠0))=s.big;rw[fF (λk=>k g),bi]
     ·show(s.big||_);rw[q];rfl
    ·rw[d3z h2.rbad (Ib g)];have hb:(s.step.step.note (X0 (Jr (s.step.peek 0).t) c)).2.big:=by show(s.big||decide ((X0 (Jr (s.step.peek 0).t) c).2≠0))=true;rw[eY g,IV]
     exact Ib ⟨h2.wide.wid,λq=>absurd (show true=false from q) (by decide),λ_=>Ie (by rw[hb];rfl),λ_=>hb⟩
   ·rw[fo (λk=>j k.1),fo (by rw[h1.kind (by decide)];simpa using j)];cases i:Zf ⟨c,[]⟩with
    | true=>rw[a3c (x:=((⟨c,[]⟩:Lin),0)) h1.rbad rfl i];exact Ib ⟨h1,λq=>⟨rfl,q,rfl,rfl⟩,λq=>Ib q,λq=>q⟩
    | false=>rw[d3z (x:=((⟨c,[]⟩:Lin),0)) h1.rbad (Ie i)];exact Ib ⟨h1.wid,λq=>absurd (show true=false from q) (by decide),λ_=>Ie (by simp),λq=>q⟩
  ·have e:s.num 2147483648=(0,s.fail):=fo (λk=>q k.2.2);have b:r.num 2147483648=(0,r.fail):=by unfold af;rw[fw (show r.kind 3=true by rw[h.kind (by decide)];simpa using k3),u,fo q]
   rw[e,b];dsimp only;have a:=h.fail;rw[fo (λk=>a.2.st.k1 k.1),fo (by rw[YN a.1];decide),Nh a.1];exact Ie a
 ·rw[fo (show ¬ r.kind 3=true by rw[h.kind (by decide)];simpa using k3)];have e:s.num 2147483648=(0,s.fail):=fo (λk=>k3 k.1);have b:r.name=(⟨[]⟩,r.fail):=fo (by rw[h.kind (by decide)];simpa using k1);unfold bL;rw[e,b];dsimp only;have a:=h.fail;rw[fo (λk=>a.2.st.k1 k.1),Nh a.1];exact Ie a
def i7u(n:Nat)(r:RS)(l:Lin):Lin×RS:=if r.is ⟨[43]⟩then sizL n r.step l false else if r.is ⟨[45]⟩then sizL n r.step l true else(l,r)
def a2u{n:Nat}{r:RS}{l:Lin}{m:Bool}(h:r.item.2.bad):sizL (n+1) r l m=(⟨0,[]⟩,r.item.2):=by rw[sizL,fw h]
def d6n{n:Nat}{r:RS}{l:Lin}{m:Bool}(h:r.item.2.bad=false):sizL (n+1) r l m=i7u n (r.item.2.chk (Zi l r.item.1 (sgM m))).2 (r.item.2.chk (Zi l r.item.1 (sgM m))).1:=by rw[sizL,fo (by rw[h];decide)];rfl
def e0j{z:Int}{tb:Bool}{s:PS}{l:Lin}{r:RS}{l':Lin}(k:Int)(h:LinS z tb s l r l'):
  LinS z tb (s.item.2.note (Zi l s.item.1 k)).2 (Zi l s.item.1 k).1 (r.item.2.chk (Zi l' r.item.1 k)).2 (r.item.2.chk (Zi l' r.item.1 k)).1∨(r.item.2.bad∧Vv (off z r.item.2) s.item.2):=by
 rcases c1b h.c with ⟨h1,h2,h3,u⟩|h1
 ·refine Ib ?_;have big:(s.item.2.note (Zi l s.item.1 k)).2.big=(s.item.2.big||decide ((Zi l s.item.1 k).2≠0)):=rfl;cases b:r.item.2.wide with
  | true=>
   have hc:(r.item.2.chk (Zi l' r.item.1 k)).2.wide:=BP b;have hb:(s.item.2.note (Zi l s.item.1 k)).2.big:=by
    rw[big];rcases h3 b with h5|h5
    ·have a:=h.wd h5;rw[Ip]at a;rcases a with a|a
     ·rw[u a];rfl
     ·rw[eY (a1m (Ib (by simpa using a))),IV]
    ·rw[Ip]at h5;rcases h5 with h5|h5
     ·rw[h5];rfl
     ·rw[eY (a1m (Ie (by simpa using h5))),IV]
   refine⟨?_,λq=>(by rw[hc]at q;cases q),λ_=>by rw[hb];rfl⟩;unfold az;split
   ·exact h1.wide.wid
   ·exact h1.wide
  | false=>
   obtain⟨A,e,y,i4⟩:=h2 b;obtain⟨i,j,j3⟩:=h.nw e;rw[<- y,<- j];by_cases g:(Zi l s.item.1 k).2=0
   ·rw[a3c h1.rbad g (CE g).2.2];refine⟨h1.wide,λ_=>⟨?_,rfl,(CE g).2.2⟩,λq=>(by rw[b]at q;cases q)⟩;rw[big,fF (λk=>k g),bi,A,i]
   ·rw[d3z h1.rbad (Ib g)];exact⟨h1.wide.wid,λq=>absurd (show true=false from q) (by decide),λ_=>by rw[big,eY g,IV];rfl⟩
 ·exact Ie h1
def F6{o:Int}{s:PS}(h:Vv o s)(n:Nat)(l:Lin):(linLoop n s l).2=s:=ZF.linLoop h n l
def a6j{r:RS}(h:r.wide):r.item.2.wide:=by
 have hn:(r.num 2147483648).2.wide:=(QR (m:=2147483648)).mono r h;have hm : ∀ (t:RS) c,t.wide->(t.itemN c).2.wide:=λt c ht=>BP (QL.mono t ht)
 unfold dJ;split
 ·split
  ·exact hm _ _ hn
  ·exact BP hn
 ·exact hm _ _ h
def LP: ∀ (n:Nat) {r:RS} {l:Lin} {m:Bool},r.wide->(sizL n r l m).2.wide
 | 0,r,l,m,h=>h
 | n+1,r,l,m,h=>by
  rw[sizL];have hc:=BP (x:=Zi l r.item.1 (sgM m)) (a6j h);split
  ·exact a6j h
  ·dsimp only;split
   ·exact LP n hc
   ·split
    ·exact LP n hc
    ·exact hc
def a6q{r:RS}(h:r.bad):r.item.2=r:=by unfold dJ bL;rw[fo (by rw[YN h];decide)];have e:r.name.2=r:=QL.stay r h;rw[e];exact Nh h
def e0p{z:Int}{tb:Bool}: ∀ (n a:Nat) {s:PS} {r:RS} {l l':Lin},LinS z tb s l r l'->s.l.length<s.i+n->s.l.length<=s.i+a->AX Vv z tb An (λx y=>x=y∧Zf x) (linLoop n s l) (i7u a r l')
 | 0,a,s,r,l,l',h,hn,_=>absurd h.c.hi (by omega)
 | n+1,a,s,r,l,l',h,hn,hn'=>by
  rw[linLoop,fo (by rw[h.c.bad];decide)];unfold i7u;rw[h.c.is,h.c.is];have go : ∀ (k:Int) (m:Bool),sgM m=k->s.i<s.l.length->AX Vv z tb An (λx y=>x=y∧Zf x) (linLoop n (s.step.item.2.note (Zi l s.step.item.1 k)).2 (Zi l s.step.item.1 k).1) (sizL a r.step l' m):=λk m j hi=>by
   obtain⟨a,rfl⟩ : ∃ q,a=q+1:=⟨a - 1,by omega⟩
   have h1:LinS z tb s.step l r.step l':=⟨h.c.step hi,h.nw,h.wd⟩
   rcases e0j k h1 with h2|h2
   ·have hb:r.step.item.2.bad=false:=by
     cases e:r.step.item.2.bad with
     | false=>rfl
     | true=>have:=h2.c.rbad;rw[Nh e,e]at this;cases this
    rw[d6n hb,j];have g:=aS (s:=s.step) h1.c.hi;refine e0p n a h2 ?_ ?_
    ·show s.step.item.2.l.length<s.step.item.2.i+n;have D:=g.le;have E:s.step.i=s.i+1:=rfl;rw[g.l];show s.l.length<_;omega
    ·show s.step.item.2.l.length<=s.step.item.2.i+a;have D:=g.le;have E:s.step.i=s.i+1:=rfl;rw[g.l];show s.l.length<=_;omega
   ·rw[a2u h2.1];refine Ie ⟨h2.1,?_⟩;show Vv (off z r.step.item.2) _;have hb:Vv (off z r.step.item.2) (s.step.item.2.note (Zi l s.step.item.1 k)).2:=h2.2.wide;rw[F6 hb];exact hb
  cases C:s.next ⟨[43]⟩with
  | true=>exact go 1 false rfl (Zq C)
  | false=>
   rw[fo (show ¬ false=true by decide),fo (show ¬ false=true by decide)];cases u:s.next ⟨[45]⟩with
   | true=>exact go (-1) true rfl (Zq u)
   | false=>
    rw[fo (show ¬ false=true by decide),fo (show ¬ false=true by decide)];refine Ib ⟨⟨h.c.wide,?_⟩,trivial,λb=>(h.nw b).2⟩;show(s.big || !Zf l)=(r.wide||tb);cases b:r.wide with
    | true=>rw[h.wd b];rfl
    | false=>obtain⟨A,j2,B⟩:=h.nw b;rw[A,B];simp
def b9x:Twin Vv An (λx y=>x=y∧Zf x) Iz IU:=by
 refine⟨λz tb s r h=> ?_,λo s h=>h.linear,λr h=> ?_,λr h=> ?_⟩
 ·unfold Iz IU dE aQ;rw[h.is];have k:r.l.length=s.l.length:=by rw[h.c.l]
  rw[k];have F : ∀ t:PS,t.big=s.big-> ∀ q:RS,q.wide=r.wide->Sim0 z t q->LinS z tb t ⟨0,[]⟩ q ⟨0,[]⟩:=λt ht q g hc=>⟨hc,λa=>⟨by rw[ht,h.big,<- g,a];rfl,rfl,rfl⟩,λa=>by rw[ht,h.big,<- g,a];rfl⟩
  have fin : ∀ (t:PS) (q:RS) (m:Bool) (y:Lin×PS),Sim0 z t q->t.l.length=s.l.length->t.i<=s.l.length->Ge t y.2->(LinS z tb y.2 y.1 (q.item.2.chk (Zi ⟨0,[]⟩ q.item.1 (sgM m))).2 (q.item.2.chk (Zi ⟨0,[]⟩ q.item.1 (sgM m))).1∧q.item.2.bad=false∨(q.item.2.bad∧Vv (off z q.item.2) y.2))->AX Vv z tb An (λx y=>x=y∧Zf x) (linLoop (s.l.length+1) y.2 y.1) (sizL (s.l.length+1) q ⟨0,[]⟩ m):=λt q m y hc j hi B u=>by
   rcases u with ⟨h1,h2⟩|⟨h1,h2⟩
   ·rw[d6n h2];have e:y.2.l.length=s.l.length:=by rw[B.l,j]
    exact e0p _ _ h1 (by rw[e];omega) (by rw[e];omega)
   ·rw[a2u h1];refine Ie ⟨h1,?_⟩;rw[F6 h2];exact h2
  cases e:s.next ⟨[45]⟩with
  | true=>
   have hi:=Zq e;have h1:=h.c.step hi;refine fin s.step r.step true (s.step.item.2.note (X0 s.step.item.1 (-1))) h1 rfl hi ((aS h1.hi).trans (Ge.note (aS h1.hi).hi)) ?_;rcases e0j (-1) (F s.step rfl r.step rfl h1)with h2|h2
   ·refine Ib ⟨h2,?_⟩;cases e:r.step.item.2.bad with
    | false=>rfl
    | true=>have:=h2.c.rbad;rw[Nh e,e]at this;cases this
   ·exact Ie ⟨h2.1,h2.2.wide⟩
  | false=>
   refine fin s r false s.item h.c rfl h.c.hi (aS h.c.hi) ?_;rcases c1b h.c with ⟨h1,h2,h3,C⟩|h1
   ·refine Ib ⟨?_,h1.rbad⟩
    ·cases a:r.item.2.wide with
     | true=>
      have hc:=BP (x:=Zi ⟨0,[]⟩ r.item.1 1) a;refine⟨?_,λq=>(by rw[show sgM false=1 from rfl,hc]at q;cases q),λ_=> ?_⟩
      ·unfold az;split
       ·exact h1.wid
       ·exact h1
      ·rcases h3 a with h5|h5
       ·rw[C (by rw[h.big,h5];rfl)];rfl
       ·exact h5
     | false=>obtain⟨E,A,D,b⟩:=h2 a;rw[<- D,show sgM false=1 from rfl,PM b,a3c (x:=(s.item.1,0)) h1.rbad rfl b];refine⟨h1,λ_=>⟨?_,rfl,b⟩,λq=>by rw[a]at q;cases q⟩;rw[E,h.big,A];rfl
   ·exact Ie h1
 ·unfold IU aQ;rw[Xy h,fo (by decide)];show(sizL (r.l.length+1) r ⟨0,[]⟩ false).2=r;rw[a2u (by rw[a6q h];exact h)];exact a6q h
 ·unfold IU;refine LP _ ?_;unfold aQ;split <;> exact h
def a1v:Twin Vv An Eq Iz IU:=b9x.imp (λ_ _ h=>h) λ_ _ h=>h.1
section
def FK{s:PS}{w:Str}(h:s.next w):(s.peek 0).t=w:=by unfold aP at h;simp only[Cm,fu]at h;exact h.2
section
variable {α:Type} {one one':PS->α×PS} {two:RS->α×RS} {K:Int->PS->Prop}
def LD{α:Type}{two:RS->α×RS}{r:RS}(h:r.bad): ∀ (n:Nat) (o:List α),moreR two n r o=(o,r)
 | 0,o=>rfl
 | n+1,o=>by rw[moreR,fo (by rw[Xy h];decide)]
def SA{α:Type}{two:RS->α×RS}(h1 : ∀ r,r.wide->(two r).2.wide): ∀ (n:Nat) {r:RS} (o:List α),r.wide->(moreR two n r o).2.wide
 | 0,r,o,h=>h
 | n+1,r,o,h=>by
  rw[moreR];split
  ·exact SA h1 n _ (h1 _ h)
  ·exact h
def b8r{α:Type}{one:PS->α×PS}{two:RS->α×RS}{z:Int}{tb:Bool}{S:α->α->Prop}{g:List α->List α->Prop}(h1:Twin ZF S Eq one two)(q : ∀ o o' a b,g o o'->S a b->g (o++[a]) (o'++[b])): ∀ (n:Nat) {s:PS} {r:RS} {o o':List α},Sim z tb s r->g o o'->AX ZF z tb g (λx y=>o=o'->x=y) (moreL one n s o) (moreR two n r o')
 | 0,s,r,o,o',h,ho=>Ib ⟨h,ho,λ_ e=>e⟩
 | n+1,s,r,o,o',h,ho=>by
  rw[moreL,moreR,fo (by rw[h.bad];decide),h.is];cases e:s.next ⟨[44]⟩with
  | false=>exact Ib ⟨h,ho,λ_ e=>e⟩
  | true=>
   show AX ZF z tb g _ (moreL one n (one s.step).2 (o++[(one s.step).1])) (moreR two n (two r.step).2 (o'++[(two r.step).1]));rcases h1.sim z tb _ _ (h.step (Zq e))with ⟨j,i,u⟩|⟨j,i⟩
   ·rcases b8r h1 q n j (q _ _ _ _ ho i)with ⟨k1,A,k3⟩|k
    ·refine Ib ⟨k1,A,λl ho=>k3 l ?_⟩;rw[ho,u];cases B:(two r.step).2.wide with
     | false=>rfl
     | true=>rw[SA h1.mono n _ B]at l;cases l
    ·exact Ie k
   ·rw[LD j,i.more];exact Ie ⟨j,i⟩
def c4c{S:α->α->Prop}{i:List α->List α->Prop}(h1:Twin ZF S Eq one two)(y : ∀ a b,S a b->i [a] [b])(q : ∀ o o' a b,i o o'->S a b->i (o++[a]) (o'++[b])):Twin ZF i Eq (listL one) (XF two):=by
 refine⟨λz tb s r h=> ?_,λo s h=>h.list h1.keep,λr h=> ?_,λr h=>SA h1.mono _ _ (h1.mono r h)⟩
 ·unfold listL XF;rw[h.c.l];rcases h1.sim z tb s r h with ⟨g,e,A⟩|⟨g,e⟩
  ·rcases b8r h1 q (s.l.length+1) g (y _ _ e)with ⟨k1,u,k3⟩|k
   ·refine Ib ⟨k1,u,λj=>k3 j ?_⟩;rw[A];cases B:(two r).2.wide with
    | false=>rfl
    | true=>rw[SA h1.mono _ _ B]at j;cases j
   ·exact Ie k
  ·rw[LD g,e.more];exact Ie ⟨g,e⟩
 ·unfold XF;rw[h1.stay r h,LD h]
def e3k(h1:Twin ZF An Eq one two):Twin ZF An Eq (listL one) (XF two):=c4c h1 (λ_ _ _=>trivial) (λ_ _ _ _ _ _=>trivial)
def e3e(h1:Twin ZF Eq Eq one two):Twin ZF Eq Eq (listL one) (XF two):=c4c h1 (λa b h=>by rw[h]) (λo o' a b h k=>by rw[h,k])
def a3n{w:Str}(h:w.s ∉ a1u)(h1:Twin ZF An Eq one two):Twin Vv An Eq (λs=>((listL one s).1,(listL one s).2.need w)) (λr=>((XF two r).1,(XF two r).2.need w)):=(Twin.bindT (f:=λks=>twP (λ_=>ks) (Qe w)) (g:=λks=>twR (λ_=>ks) (UB w)) ([]:List α) ([]:List α) (e3k h1) λa b=>(YJ h).map (λ_ _ _=>trivial) λ_ _ _ e=>e).eq rfl rfl
def c7c{w:Str}(b:w.s ∉ a1u)(h1:Twin ZF Eq Eq one two):Twin Vv Eq Eq (λs=>((listL one s).1,(listL one s).2.need w)) (λr=>((XF two r).1,(XF two r).2.need w)):=(Twin.bindE (f:=λks=>twP (λ_=>ks) (Qe w)) (g:=λks=>twR (λ_=>ks) (UB w)) (e3e h1) λa=>(YJ b).map (λ_ _ _=>rfl) λ_ _ _=>rfl).eq rfl rfl
end
def e9d:Twin Vv Eq Eq aJ aR:=QR
def Ui:Twin Vv Eq Eq aI IZ:=by
 refine⟨λz tb s r h=> ?_,λo s h=>h.func,λr h=> ?_,λr h=> ?_⟩
 ·unfold aI IZ;rcases QL.sim z tb s r h with ⟨h1,e,_⟩|⟨hb,a⟩
  ·rw[h1.is,<- e];cases q:s.name.2.next ⟨[46]⟩with
   | false=>exact Ib ⟨h1,rfl,λ_=>rfl⟩
   | true=>
    show AX Vv z tb Eq Eq ((⟨s.name.1.s++([46]++s.name.2.step.name.1.s)⟩:Str),s.name.2.step.name.2) ((⟨s.name.1.s++([46]++r.name.2.step.name.1.s)⟩:Str),r.name.2.step.name.2);rcases QL.sim z tb _ _ (h1.step (Zq q))with ⟨h2,g,_⟩|h2
    ·have b:(⟨s.name.1.s++([46]++s.name.2.step.name.1.s)⟩:Str)=⟨s.name.1.s++([46]++r.name.2.step.name.1.s)⟩:=by rw[g]
     exact Ib ⟨h2,b,λ_=>b⟩
    ·exact Ie h2
  ·rw[fo (by rw[a.st.next (by decide)];decide),fo (by rw[Xy hb];decide)];exact Ie ⟨hb,a⟩
 ·unfold IZ;have e:r.name.2=r:=QL.stay r h;rw[e,fo (by rw[Xy h];decide)]
 ·unfold IZ;split
  ·exact QL.mono _ (QL.mono r h)
  ·exact QL.mono r h
def d2k:Twin Vv An Eq (λs=>((listL Iz s).1,(listL Iz s).2.need ⟨[93]⟩)) (λr=>((XF IU r).1,(XF IU r).2.need ⟨[93]⟩)):=a3n (by decide) a1v.st
def c3r: ∀ (n:Nat) (o:List Int),Twin ZF Eq Eq (λs=>numsP n s o) (λr=>numsR n r o)
 | 0,o=>(Twin.pure (a:=o) (b:=o) rfl rfl).eq rfl rfl
 | n+1,o=>by
  refine(Twin.bindE (f9c (k:=3) (by decide)) (f:=λb=>if b then bP (h4q 2147483648) λx s=>numsP n s (o++[x])else puP o) (g:=λb=>if b then bR (e6i 2147483648) λx s=>numsR n s (o++[x])else puR o) λb=> ?_).eq (funext λs=> ?_) (funext λr=> ?_)
  ·cases b with
   | true=>exact Twin.bindE QR.st λx=>c3r n (o++[x])
   | false=>exact Twin.pure rfl rfl
  ·rw[h3f,numsP];rfl
  ·rw[g8u,numsR];rfl
def d6e: ∀ (d:List UInt8) (n:Int),0<=n->d.all digB->0<=d.foldl (λn c=>10*n+((c.toNat:Int) - 48)) n
 | [],n,h,_=>h
 | c::d,n,h,hd=>by rw[aO,Cm]at hd;rw[bO];refine d6e d _ ?_ hd.2;have h1:=hd.1;unfold digB at h1;simp only[Cm,fu]at h1;have h2:48<=c.toNat:=h1.1;omega
def h4l{s:PS}{m:Int}(hm:0<=m):0<=(s.num m).1∧(s.num m).1<=m:=by
 unfold bq;split
 ·rename_i h;refine⟨?_,h.2.2⟩;show 0<=(Vp (s.peek 0).t).1;unfold Vp;split
  ·rename_i a;unfold AO at a;simp only[Cm]at a;exact d6e _ 0 (IR 0) a.1.1.2
  ·exact IR 0
 ·exact⟨IR 0,hm⟩
def b8z(n:Nat)(s:PS)(o:List Int):List Int×PS:=((datP n s o).1,(datP n s o).2.need ⟨[93]⟩)
def b5p(n:Nat)(s:RS)(o:List Int):List Int×RS:=((datR n s o).1,(datR n s o).2.need ⟨[93]⟩)
def b8q{s:RS}{o:List Int}(h:s.bad): ∀ n,datR n s o=(o,s)
 | 0=>rfl
 | n+1=>by rw[datR,fo (by rw[YN h,Xy h];decide)]
def MZ: ∀ (n:Nat) {s:RS} (o:List Int),s.wide->(datR n s o).2.wide
 | 0,s,o,h=>h
 | n+1,s,o,h=>by
  rw[datR];split
  ·split
   ·exact MZ n _ ((QR (m:=2147483648)).mono _ h)
   ·exact MZ n _ ((QR (m:=2147483648)).mono _ h)
  ·exact h
def e0v{z:Int}{tb:Bool}: ∀ (n:Nat) {s:PS} {r:RS} (o:List Int),Sim z tb s r->AX Vv z tb Eq Eq (b8z n s o) (b5p n r o)
 | 0,s,r,o,h=>((YJ (w:=⟨[93]⟩) (by decide)).sim z tb s r h).map (φ:=λ_=>o) (ψ:=λ_=>o) (λ_ _ _=>rfl) λ_ _ _=>rfl
 | n+1,s,r,o,h=>by
  have nd:=((YJ (w:=⟨[93]⟩) (by decide)).sim z tb s r h).map (S':=Eq) (R':=Eq) (φ:=λ_=>o) (ψ:=λ_=>o) (λ_ _ _=>rfl) λ_ _ _=>rfl
  have go : ∀ {l:PS} {i:RS} (f:Int->Int) (g:Int->Int),(∀ x,0<=x->x<=2147483648->f x=g x)->Sim z tb l i->AX Vv z tb Eq Eq (b8z n (l.num 2147483648).2 (o++[f (l.num 2147483648).1])) (b5p n (i.num 2147483648).2 (o++[g (i.num 2147483648).1])):=λ{l i} f g hf h'=>by
   rcases (QR (m:=2147483648)).sim z tb l i h' with ⟨h1,e,_⟩|⟨hb,y⟩
   ·have e:(l.num 2147483648).1=(i.num 2147483648).1:=e;have q:=h4l (s:=l) (m:=2147483648) (by decide);rw[hf _ q.1 q.2,e];exact e0v n _ h1
   ·have hb:(i.num 2147483648).2.bad:=hb;have u:(b5p n (i.num 2147483648).2 (o++[g (i.num 2147483648).1])).2=(i.num 2147483648).2:=by unfold b5p;rw[b8q hb];exact DU hb
    refine Ie ⟨by rw[u];exact hb,?_⟩;rw[u];exact(ZF.datP n _ y.st).need (by decide)
  have j:(s.peek 0).k=3-> ∀ w,s.next w=false:=λh3 w=>by unfold aP;rw[h3];rfl
  unfold b8z b5p;rw[datP,datR,fo (by rw[h.bad];decide),h.is,h.kind (by decide)];by_cases k3:(s.peek 0).k=3
  ·rw[eY k3,j k3,j k3];have u:s.sgs=s:=fo (by rw[j k3];decide);have b:s.sgn=1:=fo (by rw[j k3];decide);rw[u,b];refine go (λx=>Ia.wrap (1*x)) (λx=>x) (λx h1 h2=> ?_) h;show Ia.wrap (1*x)=x;rw[cz];exact Xf (by omega) (by omega)
  ·rw[fF k3,bn];cases e:s.next ⟨[93]⟩with
   | true=>
    have b:s.next ⟨[45]⟩=false:=by
     cases b:s.next ⟨[45]⟩with
     | false=>rfl
     | true=>have a:=FK e;rw[FK b]at a;exact absurd a (by decide)
    rw[b];exact nd
   | false=>
    cases b:s.next ⟨[45]⟩with
    | true=>have B:s.sgs=s.step:=fw b;have A:s.sgn = -1:=fw b;rw[B,A];refine go (λx=>Ia.wrap (-1*x)) (λx=>Ia.wrap (-x)) (λx h1 h2=> ?_) (h.step (Zq b));show Ia.wrap (-1*x)=Ia.wrap (-x);rw[show -1*x = -x by omega]
    | false=>have B:s.sgs=s:=fo (by rw[b];decide);have A:s.num 2147483648=(0,s.fail):=fo (λk=>k3 k.1);have C:r.need ⟨[93]⟩=r.fail:=Dz (by rw[h.is];exact e);rw[B,A];show AX Vv z tb Eq Eq (b8z n s.fail (o++[Ia.wrap (s.sgn*0)])) (o,r.need ⟨[93]⟩);rw[C];exact Ie ⟨rfl,(ZF.datP n _ h.fail.2.st).need (by decide)⟩
def h2o(n:Nat)(o:List Int):Twin Vv Eq Eq (λs=>b8z n s o) (λr=>b5p n r o):=by
 refine⟨λz tb s r h=>e0v n o h,λq s h=>(ZF.datP n _ h).need (by decide),λr h=> ?_,λr h=> ?_⟩
 ·unfold b5p;rw[b8q h];exact DU h
 ·exact(YJ (w:=⟨[93]⟩) (by decide)).mono _ (MZ n o h)
def c1o(n:Nat):PS->(List Int×List Int)×PS:=bP (Qe ⟨[91]⟩) λ_=>bP (λs=>numsP n s []) λd=>bP (Qe ⟨[58]⟩) λ_=>twP (λx=>(d,x)) λs=>b8z n s []
def c4u(n:Nat):RS->(List Int×List Int)×RS:=bR (UB ⟨[91]⟩) λ_=>bR (λs=>numsR n s []) λd=>bR (UB ⟨[58]⟩) λ_=>twR (λx=>(d,x)) λs=>b5p n s []
def Mc(n:Nat):Twin Vv Eq Eq (c1o n) (c4u n):=Twin.bindE (YJ (by decide)).st λ_=>Twin.bindE (c3r n []) λd=>Twin.bindE (YJ (by decide)).st λ_=>(h2o n []).map (λa b e=>by rw[e]) λa b e=>by rw[e]
def g3e(s:PS)(ln:Int):Tm×PS:=(.mk {Ps 3 ln with elem:=s.arr.1.e,dims:=s.arr.1.d,data:=s.arr.1.x} [],s.arr.2)
def d5w(s:PS)(ln:Int):g3e s ln=(.mk {Ps 3 ln with elem:=⟨if s.arB then YK else Xi⟩,dims:=(c1o (s.l.length+1) (if s.arB then s.step else s)).1.1,data:=(c1o (s.l.length+1) (if s.arB then s.step else s)).1.2} [],(c1o (s.l.length+1) (if s.arB then s.step else s)).2):=by simp only[g3e,PS.arr,PS.ar3,PS.ar2,PS.ar1,c1o,bP,twP,Qe,b8z]
def b4p{r:RS}{ln:Int}(h:(r.kind 1&&decide ((r.tok 0).t≠⟨[98]⟩))=false):r.con ln=(.mk {Ps 3 ln with elem:=⟨if r.kind 1 then YK else Xi⟩,dims:=(c4u (r.l.length+1) (if r.kind 1 then r.step else r)).1.1,data:=(c4u (r.l.length+1) (if r.kind 1 then r.step else r)).1.2} [],(c4u (r.l.length+1) (if r.kind 1 then r.step else r)).2):=by unfold dP;rw[fo (by rw[h];decide)];simp only[RS.con2,RS.con1,dI,c4u,bR,twR,UB,b5p]
def e0f(ln:Int):Twin Vv An Eq (λs=>g3e s ln) (λr=>r.con ln):=by
 refine⟨λz tb s r h=> ?_,λo s h=> ?_,λr h=> ?_,λr h=> ?_⟩
 ·show AX Vv z tb An Eq (g3e s ln) (r.con ln);have go : ∀ {j:PS} {q:RS} (e:List UInt8),Sim z tb j q->AX Vv z tb An Eq (Tm.mk {Ps 3 ln with elem:=⟨e⟩,dims:=(c1o (s.l.length+1) j).1.1,data:=(c1o (s.l.length+1) j).1.2} [],(c1o (s.l.length+1) j).2) (Tm.mk {Ps 3 ln with elem:=⟨e⟩,dims:=(c4u (s.l.length+1) q).1.1,data:=(c4u (s.l.length+1) q).1.2} [],(c4u (s.l.length+1) q).2):=λ{j q} e h'=>((Mc (s.l.length+1)).sim z tb j q h').map (φ:=λx=>Tm.mk {Ps 3 ln with elem:=⟨e⟩,dims:=x.1,data:=x.2} []) (ψ:=λx=>Tm.mk {Ps 3 ln with elem:=⟨e⟩,dims:=x.1,data:=x.2} []) (λ_ _ _=>trivial) λa b e=>by rw[e]
  rw[d5w];by_cases k1:(s.peek 0).k=1
  ·have hi:=Xe (s:=s) (by omega);have g:r.kind 1:=by rw[h.kind (by decide)];exact eY k1
   by_cases kb:(s.peek 0).t=⟨[98]⟩
   ·have i:s.arB:=by unfold bQ;rw[eY k1,eY kb];rfl
    rw[b4p (by rw[h.tok hi,kb];simp),i,g,h.c.l];exact go YK (h.step hi)
   ·have i:s.arB=false:=by unfold bQ;rw[fF kb,IL]
    have y:r.con ln=(.mk {Ps 3 ln with elem:=⟨Xi⟩} [],r.fail):=fw (by rw[g,h.tok hi,eY kb];rfl);rw[i,y];refine Ie ⟨rfl,?_⟩
    have A:s.need ⟨[91]⟩=s.fail:=fo (by
     unfold aP;rw[k1]
     simp)
    have u:=h.fail.2;show Vv (off z r.fail) (b8z (s.l.length+1) ((numsP (s.l.length+1) (s.need ⟨[91]⟩) []).2.need ⟨[58]⟩) []).2;rw[A,u.st.numsP];exact(ZF.datP _ _ (u.st.need (w:=⟨[58]⟩) (by decide)).st).need (by decide)
  ·have g:r.kind 1=false:=by rw[h.kind (by decide)];exact fF k1
   have i:s.arB=false:=by unfold bQ;rw[fF k1];rfl
   rw[b4p (by rw[g];rfl),i,g,h.c.l];exact go Xi h
 ·show Vv o (g3e s ln).2;rw[d5w];have i:s.arB=false:=by unfold bQ;rw[fF h.k1];rfl
  rw[i];exact(Mc _).keep o s h
 ·have g:r.kind 1=false:=YN h;show(r.con ln).2=r;rw[b4p (by rw[g];rfl),g];exact(Mc _).stay r h
 ·show(r.con ln).2.wide;cases e:(r.kind 1&&decide ((r.tok 0).t≠⟨[98]⟩))with
  | true=>rw[show r.con ln=(.mk {Ps 3 ln with elem:=⟨Xi⟩} [],r.fail)from fw e];exact h
  | false=>rw[b4p e];refine(Mc _).mono _ ?_;split <;> exact h
end
section
def c9p:Twin ZF An Eq dQ RS.sizesN:=by
 refine(Twin.bindE (Pz (w:=⟨[91]⟩) (by decide)) (f:=λb=>if b then(λs=>((listL Iz s).1,(listL Iz s).2.need ⟨[93]⟩))else puP []) (g:=λb=>if b then(λr=>((XF IU r).1,(XF IU r).2.need ⟨[93]⟩))else puR []) λb=> ?_).eq (funext λs=> ?_) (funext λr=> ?_)
 ·cases b with
  | true=>exact d2k.st
  | false=>exact Twin.pure trivial rfl
 ·rw[PX];rfl
 ·rw[Np];rfl
def c8u:Twin ZF Eq Eq bZ dR:=by
 refine(Twin.bindE (Pz (w:=⟨[123]⟩) (by decide)) (f:=λb=>if b then(bP (h4q 2147483648) λx=>twP (λ_=>x) (Qe ⟨[125]⟩))else puP 0) (g:=λb=>if b then(bR (e6i 2147483648) λx=>twR (λ_=>x) (UB ⟨[125]⟩))else puR 0) λb=> ?_).eq (funext λs=> ?_) (funext λr=> ?_)
 ·cases b with
  | true=>exact Twin.bindE (QR (m:=2147483648)).st λx=>((YJ (w:=⟨[125]⟩) (by decide)).map (S':=Eq) (R':=Eq) (φ:=λ_=>x) (ψ:=λ_=>x) (λ_ _ _=>rfl) λ_ _ _=>rfl).st
  | false=>exact Twin.pure rfl rfl
 ·rw[PX];rfl
 ·rw[Np];rfl
def c7s:Twin ZF Eq Eq bf dS:=by
 refine(Twin.bindE (Pz (w:=⟨[64]⟩) (by decide)) (f:=λb=>if b then(bP (Qe ⟨[40]⟩) λ_=>(λs=>((listL aJ s).1,(listL aJ s).2.need ⟨[41]⟩)))else puP []) (g:=λb=>if b then(bR (UB ⟨[40]⟩) λ_=>(λr=>((XF aR r).1,(XF aR r).2.need ⟨[41]⟩)))else puR []) λb=> ?_).eq (funext λs=> ?_) (funext λr=> ?_)
 ·cases b with
  | true=>exact Twin.bindE (YJ (by decide)).st λ_=>(c7c (by decide) e9d.st).st
  | false=>exact Twin.pure rfl rfl
 ·rw[PX];rfl
 ·rw[Np];rfl
section
variable {ex:PS->Tm×PS} {ex':RS->Tm×RS}
def Ta{w:Str}(b:w.s ∉ a1u)(a:Twin ZF An Eq ex ex'):Twin Vv An Eq (λs=>((listL ex s).1,(listL ex s).2.need w)) (listR ex' w):=a3n b a
def f8n{s:PS}(h:s.bad=false):(if s.bad then(([]:List Tm),s.need ⟨[41]⟩)else if s.next ⟨[41]⟩then([],s.need ⟨[41]⟩)else((listL ex s).1,(listL ex s).2.need ⟨[41]⟩))=bP (a2y ⟨[41]⟩) (λb=>if b then puP []else λs=>((listL ex s).1,(listL ex s).2.need ⟨[41]⟩)) s:=by
 rw[fo (by rw[h];decide),PX];cases e:s.next ⟨[41]⟩with
 | true=>rw[fw rfl,fw rfl,show s.need ⟨[41]⟩=s.step from fw e];rfl
 | false=>rfl
def f2h(k:Twin ZF An Eq ex ex'):Twin Vv An Eq (V8 ex) (kidsR ex'):=by
 have j:Twin ZF An Eq (bP (a2y ⟨[41]⟩) (λb=>if b then puP []else λs=>((listL ex s).1,(listL ex s).2.need ⟨[41]⟩))) (bR (Oa ⟨[41]⟩) (λb=>if b then puR []else listR ex' ⟨[41]⟩)):=Twin.bindE (Pz (by decide)) λb=>by
  cases b with
  | true=>exact Twin.pure trivial rfl
  | false=>exact(Ta (by decide) k).st
 have g : ∀ r:RS,kidsR ex' r=bR (Oa ⟨[41]⟩) (λb=>if b then puR []else listR ex' ⟨[41]⟩) (r.need ⟨[40]⟩):=λr=>by rw[Np];rfl
 refine⟨λz tb s r h=> ?_,λo s h=> ?_,λr h=> ?_,λr h=> ?_⟩
 ·rcases (YJ (w:=⟨[40]⟩) (by decide)).sim z tb s r h with ⟨h1,_,_⟩|⟨hb,a⟩
  ·have h1:Sim z tb (s.need ⟨[40]⟩) (r.need ⟨[40]⟩):=h1;rw[g];unfold V8;rw[f8n h1.bad,PX,Np,h1.is];cases e:(s.need ⟨[40]⟩).next ⟨[41]⟩with
   | true=>exact Ib ⟨h1.step (Zq e),trivial,λ_=>rfl⟩
   | false=>exact(Ta (by decide) k).sim z tb _ _ h1
  ·have hb:(r.need ⟨[40]⟩).bad:=hb;have a:Vv (off z (r.need ⟨[40]⟩)) (s.need ⟨[40]⟩):=a;have i:(kidsR ex' r).2=r.need ⟨[40]⟩:=by rw[g];exact j.stay _ hb
   refine Ie ⟨by rw[i];exact hb,?_⟩;rw[i];unfold V8;rw[fw a.1];exact a.st.need (by decide)
 ·have h1:=h.need (w:=⟨[40]⟩) (by decide);unfold V8;rw[fw h1.1];exact h1.st.need (by decide)
 ·have i:r.need ⟨[40]⟩=r:=DU h;rw[g,i];exact j.stay r h
 ·rw[g];exact j.mono _ ((YJ (w:=⟨[40]⟩) (by decide)).mono r h)
def JF(h:Twin ZF An Eq ex ex')(ln:Int)(n:Str):Twin Vv An Eq (UH ex ln n) (callR0 ex' ln n):=(Twin.bindT (f:=λz=>bP bZ λf=>bP bf λk=>twP (λks=>Tm.mk {Hw with kind:=6,line:=ln,name:=n,num:=f,sizes:=z,ranks:=k} ks) (V8 ex)) (g:=λz=>bR dR λf=>bR dS λk=>twR (λks=>Tm.mk {Hw with kind:=6,line:=ln,name:=n,num:=f,sizes:=z,ranks:=k} ks) (kidsR ex')) ([]:List Lin) ([]:List Lin) c9p λa b=>Twin.bindE c8u λf=>Twin.bindE c7s λk=>(f2h h).map (λ_ _ _=>trivial) λx y e q=>by rw[e,q]).eq rfl rfl
end
def g1i{n:List UInt8}(h : ∀ c∈n,c≠46)(r:List UInt8):(n++46::r).takeWhile (λc=>c != 46)=n∧(n++46::r).dropWhile (λc=>c != 46)=46::r:=by
 induction n with
 | nil=>exact⟨by rw[bT,aG];rfl,by rw[bT,aH];rfl⟩
 | cons c n ih=>
  have h1:(c != 46):=by simpa using h c (bA ..)
  have h2:=ih λx a=>h x (aj _ a)
  rw[List.cons_append,aG,aH,h1];exact⟨by rw[fw rfl,h2.1],by rw[fw rfl];exact h2.2⟩
def e4q{n:List UInt8}(h : ∀ c∈n,c≠46):n.dropWhile (λc=>c != 46)=[]:=by
 induction n with
 | nil=>rfl
 | cons c n ih=>
  have h1:(c != 46):=by simpa using h c (bA ..)
  rw[aH,h1,fw rfl];exact ih λx a=>h x (aj _ a)
def a9u{n:List UInt8}(h:nameI n): ∀ c∈n,c≠46:=by
 cases n with
 | nil=>cases h
 | cons c r=>
  unfold nameI at h;simp only[Cm,Ir]at h;intro x a e;subst e;rcases I4.1 a with a|a
  ·rw[<- a]at h;exact absurd h.1.1.1 (by decide)
  ·exact absurd (h.1.1.2 _ a) (by decide)
def g7f{n:List UInt8}(h:nameI n):fullI n=false:=by unfold fullI;rw[e4q (a9u h)]
def e9o{n m:List UInt8}(h:nameI n)(k:nameI m):fullI (n++([46]++m)):=by have e:=g1i (a9u h) m;unfold fullI;rw[show n++([46]++m)=n++46::m from rfl,e.2,e.1,h];show(true&&nameI m)=true;rw[k];rfl
def c8r{z:Int}{tb:Bool}{s:PS}{r:RS}(h:Sim z tb s r)(a:r.func.2.bad=false):r.func.2.plain r.func.1=s.func.2.plain s.func.1:=by
 rcases Ui.sim z tb s r h with ⟨g,B,_⟩|⟨hb,_⟩
 ·have B:s.func.1=r.func.1:=B;unfold IW PS.plain;rw[g.is,g.is,g.is,g.is,g.c.rbad,<- B];congr 1;by_cases k1:(s.peek 0).k=1
  ·have hi:=Xe (s:=s) (by omega);have C:s.name=((s.peek 0).t,s.step):=fw k1;have j:r.name=((s.peek 0).t,r.step):=by rw[<- h.tok (show s.i+0<s.l.length by omega)];exact fw (by rw[h.kind (by decide)];simpa using k1)
   have D:=a3y h.lx k1;have h1:=h.step hi;cases q:s.step.next ⟨[46]⟩with
   | false=>
    have A:s.func=((s.peek 0).t,s.step):=by unfold aI;rw[C];exact fo (by rw[q];decide)
    have b:r.func=((s.peek 0).t,r.step):=by unfold IZ;rw[j];exact fo (by rw[h1.is,q];decide)
    rw[A,b,g7f D];show(!false&&decide ((r.l.getD (r.i+1 - 1) ⟨0,⟨[]⟩,0,0⟩).t=_))=_;rw[show r.l.getD (r.i+1 - 1) ⟨0,⟨[]⟩,0,0⟩=r.tok 0 from rfl,h.tok hi];simp
   | true=>
    have A:s.func=(⟨(s.peek 0).t.s++([46]++s.step.step.name.1.s)⟩,s.step.step.name.2):=by unfold aI;rw[C];exact fw q
    have b:r.func=(⟨(s.peek 0).t.s++([46]++r.step.step.name.1.s)⟩,r.step.step.name.2):=by unfold IZ;rw[j];exact fw (by rw[h1.is,q])
    have h2:=h1.step (Zq q);rw[b]at a;by_cases k2:(s.step.step.peek 0).k=1
    ·have u:=Xe (s:=s.step.step) (by omega);have F:s.step.step.name=((s.step.step.peek 0).t,s.step.step.step):=fw k2;have y:r.step.step.name=((s.step.step.peek 0).t,r.step.step.step):=by rw[<- h2.tok (show s.step.step.i+0<s.step.step.l.length by omega)];exact fw (by rw[h2.kind (by decide)];simpa using k2)
     have E:=a3y h2.lx k2;rw[A,b,F,y];dsimp only;rw[e9o D E];show(!false&&decide ((r.step.step.l.getD (r.step.step.i+1 - 1) ⟨0,⟨[]⟩,0,0⟩).t=_))=_;rw[show r.step.step.l.getD (r.step.step.i+1 - 1) ⟨0,⟨[]⟩,0,0⟩=r.step.step.tok 0 from rfl,h2.tok u,fF]
     ·rfl
     ·intro e;have e:=congrArg (λx:Str=>x.s.length) e;simp at e;omega
    ·have y:r.step.step.name=(⟨[]⟩,r.step.step.fail):=fo (by rw[h2.kind (by decide)];simpa using k2);rw[y]at a;cases a
  ·have j:r.name=(⟨[]⟩,r.fail):=fo (by rw[h.kind (by decide)];simpa using k1);have b:r.func=(⟨[]⟩,r.fail):=by unfold IZ;rw[j];exact fo (by rw[Xy (show r.fail.bad from rfl)];decide)
   rw[b]at a;cases a
 ·rw[hb]at a;cases a
section
variable {ex:PS->Tm×PS} {ex':RS->Tm×RS}
def d4t(ex:PS->Tm×PS)(ln:Int)(s:PS):Tm×PS:=if s.func.2.plain s.func.1 then(.mk (Vk 1 ln s.func.1) [],s.func.2)else UH ex ln s.func.1 s.func.2
def a7g(a:Twin ZF An Eq ex ex')(ln:Int):Twin Vv An Eq (d4t ex ln) (callRR ex' ln):=by
 refine⟨λz tb s r h=> ?_,λo s h=> ?_,λr h=> ?_,λr h=> ?_⟩
 ·unfold d4t callRR;rcases Ui.sim z tb s r h with ⟨g,i,_⟩|⟨hb,b⟩
  ·have i:s.func.1=r.func.1:=i;rw[c8r h g.c.rbad,<- i];cases e:s.func.2.plain s.func.1 with
   | true=>exact Ib ⟨g,trivial,λ_=>rfl⟩
   | false=>exact(JF a ln _).sim z tb _ _ g
  ·have e:r.func.2.plain r.func.1=false:=by unfold IW;rw[hb];rfl
   rw[fo (show ¬ r.func.2.plain r.func.1=true by rw[e];decide)];have j:(callR0 ex' ln r.func.1 r.func.2).2=r.func.2:=(JF a ln _).stay _ hb;refine Ie ⟨by rw[j];exact hb,?_⟩;rw[j];split
   ·exact b
   ·exact(JF a ln _).keep _ _ b.st
 ·unfold d4t;split
  ·exact h.func
  ·exact(JF a ln _).keep _ _ h.func.st
 ·unfold callRR;have k:r.func.2=r:=Ui.stay r h;rw[fo (by rw[k];unfold IW;rw[h];simp),k];exact(JF a ln _).stay r h
 ·unfold callRR;split
  ·exact Ui.mono r h
  ·exact(JF a ln _).mono _ (Ui.mono r h)
def d8y(ex:RS->Tm×RS)(ln:Int)(q:RS):Tm×RS:=(.mk (Vk 8 ln (q.need ⟨[40]⟩).func.1) (foldK ex 2 (q.need ⟨[40]⟩).func.2 []).1,(foldK ex 2 (q.need ⟨[40]⟩).func.2 []).2.need ⟨[41]⟩)
def e1n(ex:RS->Tm×RS)(ln:Int)(q:RS):Tm×RS:=(.mk (Vk 9 ln (q.need ⟨[40]⟩).func.1) (foldK ex 1 (q.need ⟨[40]⟩).func.2 []).1,(foldK ex 1 (q.need ⟨[40]⟩).func.2 []).2.need ⟨[41]⟩)
def P5{ex:RS->Tm×RS}{s:RS}{o:List Tm}(h:s.bad): ∀ k,foldK ex k s o=(o,s)
 | 0=>rfl
 | k+1=>by rw[foldK,fw h]
def b6g{ex:RS->Tm×RS}{k:Nat}{s:RS}{o:List Tm}(h:s.bad=false):foldK ex (k+1) s o=foldK ex k (ex (s.need ⟨[44]⟩)).2 (o++[(ex (s.need ⟨[44]⟩)).1]):=by rw[foldK,fo (by rw[h];decide)]
def i6h(ex:PS->Tm×PS)(ln:Int):PS->Tm×PS:=bP (Qe ⟨[40]⟩) λ_=>bP aI λa=>bP (Qe ⟨[44]⟩) λ_=>bP ex λb=>bP (Qe ⟨[44]⟩) λ_=>bP ex λc=>twP (λ_=>Tm.mk (Vk 8 ln a) [b,c]) (Qe ⟨[41]⟩)
def f8t(ex:RS->Tm×RS)(ln:Int):RS->Tm×RS:=bR (UB ⟨[40]⟩) λ_=>bR IZ λa=>bR (UB ⟨[44]⟩) λ_=>bR ex λb=>bR (UB ⟨[44]⟩) λ_=>bR ex λc=>twR (λ_=>Tm.mk (Vk 8 ln a) [b,c]) (UB ⟨[41]⟩)
def i5p(ex:PS->Tm×PS)(ln:Int):PS->Tm×PS:=bP (Qe ⟨[40]⟩) λ_=>bP aI λa=>bP (Qe ⟨[44]⟩) λ_=>bP ex λb=>twP (λ_=>Tm.mk (Vk 9 ln a) [b]) (Qe ⟨[41]⟩)
def f0o(ex:RS->Tm×RS)(ln:Int):RS->Tm×RS:=bR (UB ⟨[40]⟩) λ_=>bR IZ λa=>bR (UB ⟨[44]⟩) λ_=>bR ex λb=>twR (λ_=>Tm.mk (Vk 9 ln a) [b]) (UB ⟨[41]⟩)
def JQ{r:RS}{w:Str}(h:r.bad):r.need w=r:=DU h
def f9b(e:Twin ZF An Eq ex ex')(ln:Int):Twin Vv An Eq (Dm ex ln) (d8y ex' ln):=by
 have t:Twin Vv An Eq (i6h ex ln) (f8t ex' ln):=Twin.bindE (YJ (by decide)).st λ_=>Twin.bindE Ui.st λa=>Twin.bindE (YJ (by decide)).st λ_=>Twin.bindT (.mk Hw []) (.mk Hw []) e λb b'=>Twin.bindE (YJ (by decide)).st λ_=>Twin.bindT (.mk Hw []) (.mk Hw []) e λc c'=>(YJ (by decide)).map (λ_ _ _=>trivial) λ_ _ _ h g=>by rw[h,g]
 refine t.congr (λs _=>rfl) t.keep λr=> ?_
 show(d8y ex' ln r).2=_∧_;unfold d8y f8t bR twR UB;dsimp only;generalize (r.need ⟨[40]⟩).func=a;cases ha:a.2.bad with
 | true=>rw[P5 ha,JQ ha,JQ ha,e.stay _ ha,JQ ha,e.stay _ ha];exact⟨(JQ ha).symm,λq=>by rw[ha]at q;cases q⟩
 | false=>
  rw[b6g ha];generalize ex' (a.2.need ⟨[44]⟩)=b;cases hb:b.2.bad with
  | true=>rw[P5 hb,JQ hb,JQ hb,e.stay _ hb];exact⟨(JQ hb).symm,λq=>by rw[hb]at q;cases q⟩
  | false=>rw[b6g hb];exact⟨rfl,λ_=>rfl⟩
def f3y(e:Twin ZF An Eq ex ex')(ln:Int):Twin Vv An Eq (Dt ex ln) (e1n ex' ln):=by
 have t:Twin Vv An Eq (i5p ex ln) (f0o ex' ln):=Twin.bindE (YJ (by decide)).st λ_=>Twin.bindE Ui.st λa=>Twin.bindE (YJ (by decide)).st λ_=>Twin.bindT (.mk Hw []) (.mk Hw []) e λb b'=>(YJ (by decide)).map (λ_ _ _=>trivial) λ_ _ _ g=>by rw[g]
 refine t.congr (λs _=>rfl) t.keep λr=> ?_
 show(e1n ex' ln r).2=_∧_;unfold e1n f0o bR twR UB;dsimp only;generalize (r.need ⟨[40]⟩).func=a;cases ha:a.2.bad with
 | true=>rw[P5 ha,JQ ha,JQ ha,e.stay _ ha];exact⟨(JQ ha).symm,λq=>by rw[ha]at q;cases q⟩
 | false=>rw[b6g ha];exact⟨rfl,λ_=>rfl⟩
def a7a(ln:Int):Twin Vv An Eq (Jb ln) (sizeR0 ln):=(Twin.bindE (f:=λ_=>bP Iz λl=>twP (λ_=>Tm.mk {Ps 4 ln with sizes:=[l]} []) (Qe ⟨[93]⟩)) (g:=λ_=>bR IU λl=>twR (λ_=>Tm.mk {Ps 4 ln with sizes:=[l]} []) (UB ⟨[93]⟩)) (YJ (w:=⟨[91]⟩) (by decide)).st λ_=>Twin.bindT ⟨0,[]⟩ ⟨0,[]⟩ a1v.st λa b=>(YJ (by decide)).map (λ_ _ _=>trivial) λ_ _ _ e=>by rw[e]).eq rfl rfl
def d6u(h:Twin ZF An Eq ex ex'):Twin Vv An Eq (λs=>((ex s).1,(ex s).2.need ⟨[41]⟩)) (λr=>((ex' r).1,(ex' r).2.need ⟨[41]⟩)):=(Twin.bindT (f:=λt=>twP (λ_=>t) (Qe ⟨[41]⟩)) (g:=λt=>twR (λ_=>t) (UB ⟨[41]⟩)) (.mk Hw []) (.mk Hw []) h λa b=>(YJ (by decide)).map (λ_ _ _=>trivial) λ_ _ _ e=>e).eq rfl rfl
def Me{s:PS}{w w':Str}(h:s.next w)(a:w≠w'):s.next w'=false:=by
 cases e:s.next w' with
 | false=>rfl
 | true=>exact absurd ((FK h).symm.trans (FK e)) a
def i4w{s:PS}{w:Str}(h:s.next w):(s.peek 0).k=2∨(s.peek 0).k=4:=by unfold aP at h;simp only[Cm,Ip,fu]at h;exact h.1
def i8c{s:PS}{w:Str}(h:(s.peek 0).k=1∨(s.peek 0).k=3):s.next w=false:=by
 cases e:s.next w with
 | false=>rfl
 | true=>have:=i4w e;omega
def d0k{o:Int}{s:PS}(h:ZF o s):UU ex s=(.mk (Ps 0 (s.peek 0).ln) [],s.fail):=by have e:s.next ⟨[116,114,117,101]⟩=false:=h.next (by decide);have j:s.next ⟨[102,97,108,115,101]⟩=false:=h.next (by decide);have l:s.next ⟨[40]⟩=false:=h.next (by decide);have k:s.next ⟨[91]⟩=false:=h.next (by decide);have g:s.next ⟨[102,111,108,100]⟩=false:=h.next (by decide);have i:s.next ⟨[115,99,97,110]⟩=false:=h.next (by decide);have a:s.next ⟨[115,105,122,101]⟩=false:=h.next (by decide);have b:s.next ⟨[35]⟩=false:=h.next (by decide);unfold UU;dsimp only;rw[fo h.k3,fo h.k1,e,j,l,k,g,i,a,b];rfl
def e2n(hx:Twin ZF An Eq ex ex'){r:RS}{ln:Int}(h:r.bad):(loopR ex' ln r).2=r:=by unfold loopR;dsimp only;rw[fo (by rw[Xy h];decide),JQ h,JQ h];have e:r.func.2=r:=Ui.stay r h;rw[e,P5 h];exact JQ h
def Pn(a:Twin ZF An Eq ex ex'): ∀ (k:Nat) {r:RS} (o:List Tm),r.wide->(foldK ex' k r o).2.wide
 | 0,r,o,h=>h
 | k+1,r,o,h=>by
  rw[foldK];split
  ·exact h
  ·exact Pn a k _ (a.mono _ ((YJ (w:=⟨[44]⟩) (by decide)).mono r h))
def nm{r:RS}{w:Str}(h:r.wide):(r.need w).wide:=by unfold dG;split <;> exact h
def e3v(a:Twin ZF An Eq ex ex'){r:RS}{ln:Int}(h:r.wide):(loopR ex' ln r).2.wide:=by
 unfold loopR;dsimp only;split
 ·exact nm (Pn a 2 _ (Ui.mono _ (nm (show r.step.wide from h))))
 ·exact nm (Pn a 1 _ (Ui.mono _ (nm (nm h))))
def Ma(g:Twin ZF An Eq ex ex'):Twin Vv An Eq (UU ex) (primR ex'):=by
 refine⟨λz tb s r h=> ?_,λo s h=> ?_,λr h=> ?_,λr h=> ?_⟩
 ·have H:r.kind 3=decide ((s.peek 0).k=3):=h.kind (by decide);have D:r.kind 1=decide ((s.peek 0).k=1):=h.kind (by decide);unfold UU primR;dsimp only;rw[h.line,H,D,h.is,h.is,h.is,h.is,h.is,h.is];by_cases k3:(s.peek 0).k=3
  ·rw[fw k3,fw (eY k3)];exact((QR (m:=2147483647)).sim z tb s r h).map (φ:=λn=>Tm.mk {Vk 2 (s.peek 0).ln ⟨Xi⟩with num:=n} []) (ψ:=λn=>Tm.mk {Vk 2 (s.peek 0).ln ⟨Xi⟩with num:=n} []) (λ_ _ _=>trivial) λa b e=>by rw[e]
  rw[fo k3,fo (show ¬ decide ((s.peek 0).k=3)=true by simpa using k3)];by_cases k1:(s.peek 0).k=1
  ·have y:=λw=>i8c (s:=s) (w:=w) (Ib k1)
   rw[fw k1,y,y,fo (by decide),fo (by decide),fw (eY k1)];exact(a7g g (s.peek 0).ln).sim z tb s r h
  rw[fo k1,fF k1];cases E:s.next ⟨[116,114,117,101]⟩with
  | true=>exact Ib ⟨h.step (Zq E),trivial,λ_=>rfl⟩
  | false=>
  cases A:s.next ⟨[102,97,108,115,101]⟩with
  | true=>exact Ib ⟨h.step (Zq A),trivial,λ_=>rfl⟩
  | false=>
  cases C:s.next ⟨[40]⟩with
  | true=>exact(d6u g).sim z tb _ _ (h.step (Zq C))
  | false=>
  cases F:s.next ⟨[91]⟩with
  | true=>exact((Ta (w:=⟨[93]⟩) (by decide) g).sim z tb _ _ (h.step (Zq F))).map (φ:=λks=>Tm.mk (Ps 7 (s.peek 0).ln) ks) (ψ:=λks=>Tm.mk (Ps 7 (s.peek 0).ln) ks) (λ_ _ _=>trivial) λa b e=>by rw[e]
  | false=>
  cases j:s.next ⟨[102,111,108,100]⟩with
  | true=>rw[Me (w':=⟨[35]⟩) j (by decide),Me (w':=⟨[115,105,122,101]⟩) j (by decide)];have i:loopR ex' (s.peek 0).ln r=d8y ex' (s.peek 0).ln r.step:=fw (by rw[h.is];exact j);show AX Vv z tb An Eq (Dm ex (s.peek 0).ln s.step) (loopR ex' (s.peek 0).ln r);rw[i];exact(f9b g _).sim z tb _ _ (h.step (Zq j))
  | false=>
  cases l:s.next ⟨[115,99,97,110]⟩with
  | true=>
   rw[Me (w':=⟨[35]⟩) l (by decide),Me (w':=⟨[115,105,122,101]⟩) l (by decide)];have i:loopR ex' (s.peek 0).ln r=e1n ex' (s.peek 0).ln r.step:=by have q:r.need ⟨[115,99,97,110]⟩=r.step:=fw (by rw[h.is];exact l);unfold loopR;rw[fo (by rw[h.is,j];decide)];dsimp only;rw[q];rfl
   show AX Vv z tb An Eq (Dt ex (s.peek 0).ln s.step) (loopR ex' (s.peek 0).ln r);rw[i];exact(f3y g _).sim z tb _ _ (h.step (Zq l))
  | false=>
  cases u:s.next ⟨[115,105,122,101]⟩with
  | true=>rw[Me (w':=⟨[35]⟩) u (by decide)];exact(a7a _).sim z tb _ _ (h.step (Zq u))
  | false=>
  cases B:s.next ⟨[35]⟩with
  | true=>exact(e0f _).sim z tb _ _ (h.step (Zq B))
  | false=>
   have i:(loopR ex' (s.peek 0).ln r).2=r.fail:=by have q:r.need ⟨[115,99,97,110]⟩=r.fail:=Dz (by rw[h.is];exact l);have I:r.fail.func.2=r.fail:=Ui.stay _ rfl;unfold loopR;rw[fo (by rw[h.is,j];decide)];dsimp only;rw[q,JQ (show r.fail.bad from rfl),I,P5 (show r.fail.bad from rfl)];exact JQ rfl
   refine Ie ⟨?_,?_⟩
   ·show(loopR ex' (s.peek 0).ln r).2.bad;rw[i];rfl
   ·show Vv (off z (loopR ex' (s.peek 0).ln r).2) s.fail;rw[i];exact h.fail.2
 ·rw[d0k h];exact h.fail
 ·unfold primR;dsimp only;rw[YN h,YN h,Xy h,Xy h,Xy h,Xy h,Xy h,Xy h];exact e2n g h
 ·unfold primR;dsimp only;split
  ·exact(QR (m:=2147483647)).mono r h
  split
  ·exact h
  split
  ·exact h
  split
  ·exact(a7g g _).mono r h
  split
  ·exact(d6u g).mono _ h
  split
  ·exact(Ta (w:=⟨[93]⟩) (by decide) g).mono r.step h
  split
  ·exact(e0f _).mono r.step h
  split
  ·exact(a7a _).mono r.step h
  ·exact e3v g h
def Fst(x:Tm×Int)(y:Tm):Prop:=x.1=y
def g8z:(Wi ⟨[45]⟩ true).a=⟨[110,101,103]⟩:=by decide
def g7v:(Wi ⟨[33]⟩ true).a=⟨[110,111,116]⟩:=by decide
structure SimB (un:PS->(Tm×Int)×PS) (un':RS->Tm×RS):Prop where
 sim : ∀ z tb s r,Sim z tb s r->AX Vv z tb An Fst (un s) (un' r)
 mono : ∀ r,r.wide->(un' r).2.wide
def h3i(g:Twin ZF An Eq ex ex'){un:PS->(Tm×Int)×PS}{un':RS->Tm×RS}(hu:SimB un un'):Twin Vv An Fst (CW ex un) (unaR ex' un'):=by
 refine⟨λz tb s r h=> ?_,λo s h=> ?_,λr h=> ?_,λr h=> ?_⟩
 ·unfold CW unaR;dsimp only;rw[h.line,h.is,h.is];cases j:s.next ⟨[45]⟩with
  | true=>
   have h1:=h.step (Zq j);have q:r.step.kind 3=decide ((s.peek 1).k=3):=h1.kind (by decide);rw[q,aM,bv];cases e3:decide ((s.peek 1).k=3)with
   | true=>exact((QR (m:=2147483648)).sim z tb _ _ h1).map (φ:=λn=>((Tm.mk {Vk 2 (s.peek 0).ln ⟨Xi⟩with num:=Ia.wrap (-n)} [],(s.peek 0).ln):Tm×Int)) (ψ:=λn=>Tm.mk {Vk 2 (s.peek 0).ln ⟨Xi⟩with num:=Ia.wrap (-n)} []) (λ_ _ _=>trivial) λa b e=>by rw[e];rfl
   | false=>
    rw[FK j,g8z];exact(hu.sim z tb _ _ h1).map (S':=An) (R':=Fst) (φ:=λt=>((Tm.mk (Vk 6 (s.peek 0).ln ⟨[110,101,103]⟩) [t.1],(s.peek 0).ln):Tm×Int)) (ψ:=λt=>Tm.mk (Vk 6 (s.peek 0).ln ⟨[110,101,103]⟩) [t]) (λ_ _ _=>trivial) λa b e=>by have e:a.1=b:=e;show Tm.mk _ [a.1]=_;rw[e]
  | false=>
   rw[bX,bn];cases i:s.next ⟨[33]⟩with
   | true=>
    rw[FK i,g7v];exact(hu.sim z tb _ _ (h.step (Zq i))).map (S':=An) (R':=Fst) (φ:=λt=>((Tm.mk (Vk 6 (s.peek 0).ln ⟨[110,111,116]⟩) [t.1],(s.peek 0).ln):Tm×Int)) (ψ:=λt=>Tm.mk (Vk 6 (s.peek 0).ln ⟨[110,111,116]⟩) [t]) (λ_ _ _=>trivial) λa b e=>by have e:a.1=b:=e;show Tm.mk _ [a.1]=_;rw[e]
   | false=>exact((Ma g).sim z tb s r h).map (φ:=λt=>((t,(s.peek 0).ln):Tm×Int)) (ψ:=λt=>t) (λ_ _ _=>trivial) λa b e=>e
 ·unfold CW;dsimp only;have l:s.next ⟨[45]⟩=false:=h.next (by decide);have u:s.next ⟨[33]⟩=false:=h.next (by decide);rw[l,u];exact(Ma g).keep o s h
 ·unfold unaR;dsimp only;rw[Xy h,Xy h];exact(Ma g).stay r h
 ·unfold unaR;dsimp only;split
  ·split
   ·exact(QR (m:=2147483648)).mono r.step h
   ·exact hu.mono r.step h
  ·split
   ·exact hu.mono r.step h
   ·exact(Ma g).mono r h
end
def b7g{t:Str}:(∃ r∈XY,(r.s=t.s∧r.u=false)∧Wi t false=⟨⟨r.n⟩,r.l,true⟩)∨Wi t false=⟨⟨[]⟩,0,false⟩:=by
 unfold Wi;cases h:a4l t.s false with
 | none=>exact Ie rfl
 | some r=>have h1:=IY h;have h2:=aY h;simp only[Cm,gm]at h2;exact Ib ⟨r,h1,h2,rfl⟩
def g9s: ∀ r∈XY,r.u=false->(r.l=3->r.s∈a1u)∧1<=r.l:=by decide
def i9u{t:Str}{lev:Int}(a:lev≠0):((Wi t false).c&&decide ((Wi t false).b=lev))=decide ((Wi t false).b=lev):=by
 rcases b7g (t:=t)with ⟨r,hr,h,e⟩|e
 ·rw[e];simp
 ·rw[e];show(false&&_)=decide ((0:Int)=lev);rw[fF (λh=>a h.symm)];rfl
def h6h{t:Str}(h:(Wi t false).b=3):t.s∈a1u:=by
 rcases b7g (t:=t)with ⟨r,hr,a,e⟩|e
 ·rw[e]at h;rw[<- a.1];exact(g9s r hr a.2).1 h
 ·rw[e]at h;exact absurd h (by decide)
def g9m: ∀ w∈a1u,(Wi ⟨w⟩ false).b=3:=by decide
def Sim.oper{z:Int}{tb:Bool}{s:PS}{r:RS}(h:Sim z tb s r){lev:Int}(a:lev≠0):r.oper lev=(s.oper.1.1,decide (s.oper.1.2=lev)):=by
 unfold dK ah;rw[h.kind (by decide)];by_cases k:(s.peek 0).k=4
 ·have hi:=Xe (s:=s) (by omega);rw[fw k,fw (eY k),h.tok hi,i9u a]
 ·rw[fo k,fo (by simpa using k)];show(_,false)=(_,decide ((0:Int)=lev));rw[fF (λe=>a e.symm)]
def d5b{o:Int}{s:PS}(h:i9o o s):s.oper.1.2=3:=by unfold ah;rw[fw h.2.2.1];exact g9m _ h.2.2.2
def b9j{o:Int}{s:PS}(h:Vv o s):s.oper.1.2=0:=by unfold ah;rw[fo (by rw[h.peek];decide)]
def SV{fr:RS->Tm×RS}{lev ln:Int}{n:Nat}{r:RS}{t:Tm}(h:r.bad):opR fr lev ln n r t=(t,r):=by
 cases n with
 | zero=>rfl
 | succ n=>rw[opR,fo];unfold dK;rw[fo (by rw[YN h];decide)];decide
def Aw{fr:RS->Tm×RS}{lev ln:Int}(hm : ∀ r,r.wide->(fr r).2.wide): ∀ (n:Nat) {r:RS} (t:Tm),r.wide->(opR fr lev ln n r t).2.wide
 | 0,r,t,h=>h
 | n+1,r,t,h=>by
  rw[opR];split
  ·refine Aw hm n _ ?_;split
   ·exact hm r.step h
   ·exact hm r.step h
  ·exact h
def SE{fr:PS->(Tm×Int)×PS}{lev ln o:Int}{s:PS}{t:Tm}(h:ZF o s)(a:lev≠0)(h3:lev≠3∨Vv o s): ∀ n,opLoop fr lev ln n s t=((t,ln),s)
 | 0=>rfl
 | n+1=>by
  rw[opLoop];split
  ·rfl
  ·rw[fw];rcases h with h|h
   ·rw[b9j h];exact λe=>a e.symm
   ·rcases h3 with h3|h3
    ·rw[d5b h];exact λe=>h3 e.symm
    ·rw[b9j h3];exact λe=>a e.symm
def f2y{z:Int}{tb:Bool}{fr:PS->(Tm×Int)×PS}{a:RS->Tm×RS}{K:Int->PS->Prop}(u : ∀ o s,K o s->ZF o s){lev ln:Int}(j:lev≠0)(h3:lev=3-> ∀ o s,K o s->Vv o s)(A:Twin K An Fst fr a): ∀ (n:Nat) {s:PS} {r:RS} {t t':Tm},Sim z tb s r->AX ZF z tb An (λx y=>t=t'->Fst x y) (opLoop fr lev ln n s t) (opR a lev ln n r t')
 | 0,s,r,t,t',h=>Ib ⟨h,trivial,λ_ e=>e⟩
 | n+1,s,r,t,t',h=>by
  rw[opLoop,opR,fo (by rw[h.bad];decide),h.oper j];by_cases e:s.oper.1.2=lev
  ·rw[fo (λk=>k e),fw (eY e)];have hi:s.i<s.l.length:=Nt (by rw[e];exact j);have h1:=h.step hi;by_cases e3:lev=3
   ·subst e3;rw[fw rfl];rcases A.sim z tb _ _ h1 with ⟨h2,_,v⟩|⟨hb,b⟩
    ·rw[h2.oper (by decide),eY (rfl:(3:Int)=3),Bool.and_true];by_cases e4:(fr s.step).2.oper.1.2=3
     ·rw[fw (eY e4),SV (show(a r.step).2.fail.bad from rfl)];refine Ie ⟨rfl,Ie ?_⟩;have B:((fr s.step).2.peek 0).k=4:=by
       by_cases k:((fr s.step).2.peek 0).k=4
       ·exact k
       ·unfold ah at e4;rw[fo k]at e4;exact absurd (show(0:Int)=3 from e4) (by decide)
      refine⟨h2.bad,?_,B,?_⟩
      ·exact(h2.c.off).symm
      ·unfold ah at e4;rw[fw B]at e4;exact h6h e4
     ·rw[fo (by rw[fF e4];simp)];have E:opR a 3 ln n (a r.step).2 (.mk (Vk 6 ln s.oper.1.1) [t',(a r.step).1])=(.mk (Vk 6 ln s.oper.1.1) [t',(a r.step).1],(a r.step).2):=by
       cases n with
       | zero=>rfl
       | succ n=>rw[opR,h2.oper (by decide),fo (by rw[fF e4];simp)]
      rw[E];refine Ib ⟨h2,trivial,λg q=> ?_⟩;have v:(fr s.step).1.1=(a r.step).1:=v g;show Tm.mk _ [t,(fr s.step).1.1]=Tm.mk _ [t',(a r.step).1];rw[q,v]
    ·have C:((a r.step).2.oper 3).2=false:=by unfold dK;rw[fo (by rw[YN hb];decide)]
     rw[C,fo (by decide),SV hb];exact Ie ⟨hb,u _ _ b⟩
   ·rw[fo e3,fF e3,IL,fo (by decide)];rcases A.sim z tb _ _ h1 with ⟨h2,_,v⟩|⟨hb,b⟩
    ·rcases f2y u j h3 A n (t:=.mk (Vk 6 ln s.oper.1.1) [t,(fr s.step).1.1]) (t':=.mk (Vk 6 ln s.oper.1.1) [t',(a r.step).1]) h2 with ⟨k1,_,k3⟩|k
     ·refine Ib ⟨k1,trivial,λg q=>k3 g ?_⟩
      have v:(fr s.step).1.1=(a r.step).1:=v (by
       cases D:(a r.step).2.wide with
       | false=>rfl
       | true=>rw[Aw A.mono n _ D]at g;cases g)
      rw[q,v]
     ·exact Ie k
    ·rw[SV hb,SE (u _ _ b) j (Ib e3)];exact Ie ⟨hb,u _ _ b⟩
  ·rw[fw e,fo (by simpa using e)];exact Ib ⟨h,trivial,λ_ q=>q⟩
def KL(d:Nat):Int->PS->Prop:=if d<=2 then Vv else ZF
def g5b(d:Nat): ∀ o s,KL d o s->ZF o s:=λo s h=>by
 unfold KL at h;split at h
 ·exact h.st
 ·exact h
def i8i{d:Nat}{o:Int}{s:PS}(h:Vv o s):KL d o s:=by
 unfold KL;split
 ·exact h
 ·exact h.st
section
variable {un:PS->(Tm×Int)×PS} {un':RS->Tm×RS}
def EN(un:PS->(Tm×Int)×PS):Prop:= ∀ s,(un s).1.2=(s.peek 0).ln
def b7t{fr:PS->(Tm×Int)×PS}{lev ln:Int}: ∀ (n:Nat) (s:PS) (t:Tm),(opLoop fr lev ln n s t).1.2=ln
 | 0,s,t=>rfl
 | n+1,s,t=>by
  rw[opLoop];split
  ·rfl
  ·split
   ·rfl
   ·split
    ·rfl
    ·exact b7t n _ _
def a7i(hu:EN un): ∀ d,EN (Xn un d)
 | 0=>hu
 | d+1=>λs=>by rw[Xn,b7t];exact a7i hu d s
def g0o{z:Int}{tb:Bool}{fr:PS->(Tm×Int)×PS}{a:RS->Tm×RS}{lev ln:Int}(g:lev≠0)(h3:lev≠3)(j:Twin Vv An Fst fr a): ∀ (n:Nat) {s:PS} {r:RS} {t t':Tm},Sim z tb s r->AX Vv z tb An (λx y=>t=t'->Fst x y) (opLoop fr lev ln n s t) (opR a lev ln n r t')
 | 0,s,r,t,t',h=>Ib ⟨h,trivial,λ_ e=>e⟩
 | n+1,s,r,t,t',h=>by
  rw[opLoop,opR,fo (by rw[h.bad];decide),h.oper g];by_cases e:s.oper.1.2=lev
  ·rw[fo (λk=>k e),fw (eY e)];have hi:s.i<s.l.length:=Nt (by rw[e];exact g);have h1:=h.step hi;rw[fo h3,fF h3,IL,fo (by decide)];rcases j.sim z tb _ _ h1 with ⟨h2,_,v⟩|⟨hb,b⟩
   ·rcases g0o g h3 j n (t:=.mk (Vk 6 ln s.oper.1.1) [t,(fr s.step).1.1]) (t':=.mk (Vk 6 ln s.oper.1.1) [t',(a r.step).1]) h2 with ⟨k1,_,k3⟩|k
    ·refine Ib ⟨k1,trivial,λu q=>k3 u ?_⟩
     have v:(fr s.step).1.1=(a r.step).1:=v (by
      cases A:(a r.step).2.wide with
      | false=>rfl
      | true=>rw[Aw j.mono n _ A]at u;cases u)
     rw[q,v]
    ·exact Ie k
   ·rw[SV hb,SE b.st g (Ib h3)];exact Ie ⟨hb,b⟩
  ·rw[fw e,fo (by simpa using e)];exact Ib ⟨h,trivial,λ_ q=>q⟩
def c3f{d:Nat}(h:d<=2):KL d=Vv:=fw h
def h8m{d:Nat}(h : ¬ d<=2):KL d=ZF:=fo h
def b8e(hu:Twin Vv An Fst un un')(b:EN un): ∀ d,d<=5->Twin (KL d) An Fst (Xn un d) (fromR un' d)∧ ∀ o s,ZF o s->Vv o (Xn un d s).2
 | 0,_=>⟨hu,hu.keep⟩
 | d+1,hd=>by
  obtain⟨ht,j⟩:=b8e hu b d (by omega);have i:(5 - (d:Int))≠0:=by omega
  have u : ∀ o s,ZF o s->Vv o (Xn un (d+1) s).2:=λo s h=>by rw[Xn,SE (j o s h).st i (Ie (j o s h))];exact j o s h
  refine⟨⟨λz tb s r h=> ?_,λo s h=>i8i (u o s h),λr h=> ?_,λr h=> ?_⟩,u⟩
  ·rw[Xn,fromR,a7i b d s,h.line,h.c.l];rcases ht.sim z tb s r h with ⟨h1,_,v⟩|⟨hb,a⟩
   ·have fin : ∀ {K:Int->PS->Prop},AX K z tb An (λx y=>(Xn un d s).1.1=(fromR un' d r).1->Fst x y) (opLoop (Xn un d) (5 - (d:Int)) (s.peek 0).ln (s.l.length+1) (Xn un d s).2 (Xn un d s).1.1) (opR (fromR un' d) (5 - (d:Int)) (s.peek 0).ln (s.l.length+1) (fromR un' d r).2 (fromR un' d r).1)->AX K z tb An Fst (opLoop (Xn un d) (5 - (d:Int)) (s.peek 0).ln (s.l.length+1) (Xn un d s).2 (Xn un d s).1.1) (opR (fromR un' d) (5 - (d:Int)) (s.peek 0).ln (s.l.length+1) (fromR un' d r).2 (fromR un' d r).1):=λhr=>by
     rcases hr with ⟨B,_,A⟩|g
     ·refine Ib ⟨B,trivial,λk=>A k (v ?_)⟩;cases C:(fromR un' d r).2.wide with
      | false=>rfl
      | true=>rw[Aw ht.mono _ _ C]at k;cases k
     ·exact Ie g
    by_cases hd2:d+1<=2
    ·rw[c3f hd2];have hb:Twin Vv An Fst (Xn un d) (fromR un' d):=by rw[<- c3f (show d<=2 by omega)];exact ht
     exact fin (g0o i (by omega) hb _ h1)
    ·rw[h8m hd2];refine fin (f2y (g5b d) i (λe=> ?_) ht _ h1);have:d<=2:=by omega
     intro o s q;rw[c3f this]at q;exact q
   ·rw[SV hb,SE (g5b d _ _ a) i]
    ·refine Ie ⟨hb,?_⟩;show KL (d+1) (off z (fromR un' d r).2) (Xn un d s).2;by_cases hd2:d+1<=2
     ·rw[c3f hd2];rw[c3f (show d<=2 by omega)]at a;exact a
     ·rw[h8m hd2];exact g5b d _ _ a
    ·by_cases hd2:d=2
     ·subst hd2;exact Ie a
     ·exact Ib (by omega)
  ·rw[fromR];have e:(fromR un' d r).2=r:=ht.stay r h;rw[e,SV h]
  ·rw[fromR];exact Aw ht.mono _ _ (ht.mono r h)
end
def e9t{ex:PS->Tm×PS}{un:PS->(Tm×Int)×PS}:EN (CW ex un):=λs=>by
 unfold CW;dsimp only;split
 ·rfl
 ·split <;> rfl
def i3d{ex:PS->Tm×PS}{ex':RS->Tm×RS}(k:Twin ZF An Eq ex ex'){un:PS->(Tm×Int)×PS}{un':RS->Tm×RS}(hu:Twin Vv An Fst un un')(g:EN un):Twin ZF An Eq (exB ex un) (exR ex' un'):=by
 have j : ∀ ln:Int,Twin ZF An Eq (bP bG λa=>bP (Qe ⟨[61]⟩) λ_=>bP ex λb=>bP (Qe ⟨[105,110]⟩) λ_=>twP (λc=>Tm.mk (Vk 5 ln a) [b,c]) ex) (bR bH λa=>bR (UB ⟨[61]⟩) λ_=>bR ex' λb=>bR (UB ⟨[105,110]⟩) λ_=>twR (λc=>Tm.mk (Vk 5 ln a) [b,c]) ex'):=λln=>Twin.bindE QL.st λa=>Twin.bindE (YJ (by decide)).st λ_=>Twin.bindT (.mk Hw []) (.mk Hw []) k λb b'=>Twin.bindE (YJ (by decide)).st λ_=>k.map (λ_ _ _=>trivial) λc c' e q=>by rw[e,q]
 have i:Twin ZF An Fst (Xn un 5) (fromR un' 5):=(b8e hu g 5 (by omega)).1;refine⟨λz tb s r h=> ?_,λo s h=> ?_,λr h=> ?_,λr h=> ?_⟩
 ·unfold exB exR;dsimp only;rw[h.is,h.line];cases e:s.next ⟨[108,101,116]⟩with
  | true=>exact(j (s.peek 0).ln).sim z tb _ _ (h.step (Zq e))
  | false=>exact(i.sim z tb s r h).map (φ:=λt:Tm×Int=>t.1) (ψ:=λt=>t) (λ_ _ _=>trivial) λa b e=>e
 ·unfold exB;dsimp only;have l:s.next ⟨[108,101,116]⟩=false:=h.next (by decide);rw[l];exact i.keep o s h
 ·unfold exR;dsimp only;rw[Xy h];exact i.stay r h
 ·unfold exR;dsimp only;split
  ·exact(j r.line).mono r.step h
  ·exact i.mono r h
def c2y: ∀ N,Twin ZF An Eq (NF N) (Y9 N)∧SimB (unP N) (QX N)
 | 0=>⟨(Twin.pure trivial rfl).eq rfl rfl,λz tb s r h=>Ib ⟨h,trivial,λ_=>rfl⟩,λr h=>h⟩
 | N+1=>by obtain⟨a,hu⟩:=c2y N;have h1:Twin Vv An Fst (unP (N+1)) (QX (N+1)):=h3i a hu;exact⟨i3d a h1 e9t,h1.sim,h1.mono⟩
def b8g:Twin ZF An Eq PS.expr RS.expr:=(c2y 4001).1
end
def Sim.nw{z:Int}{tb:Bool}{s:PS}{r:RS}(h:Sim z tb s r)(e:r.wide=false):s.big=tb:=by rw[h.big,e];rfl
def Sim.wd{z:Int}{tb:Bool}{s:PS}{r:RS}(h:Sim z tb s r)(e:r.wide):s.big:=by rw[h.big,e];rfl
def f2s(z:Int)(s:PS)(r:RS):Prop:=s.endp.bad=decide ((r.endR z).2≠0)∧(s.endp.bad->s.endp.wr=(r.endR z).1∧(r.endR z).2=6)∧(s.endp.bad=false->s.endp=s)
def h3p{z:Int}{s:PS}{r:RS}(h:Sim0 z s r):f2s z s r:=by
 unfold f2s dL bI;rw[h.rbad,h.l,h.i];by_cases hi:s.i<s.l.length
 ·rw[fw hi,fo (show ¬ (!false&&decide (s.i=s.l.length))=true by simp;omega),fw hi];refine⟨rfl,λ_=>⟨?_,rfl⟩,λq=>absurd (show true=false from q) (by decide)⟩;show(if s.bad then s.wr else(s.peek 0).o)=(r.tok 0).o;rw[h.tok hi,fo (by rw[h.bad];decide)]
 ·have hl:=h.hi;rw[fo hi,fw (show(!false&&decide (s.i=s.l.length))=true by simp;omega)];refine⟨by rw[h.bad];rfl,λq=>(by rw[h.bad]at q;cases q),λ_=>rfl⟩
def b0c{z:Int}{s:PS}{r:RS}(hb:r.bad)(h:ZF (off z r) s):f2s z s r:=by
 have e:r.endR z=(off z r,6):=by unfold bI off;rw[hb];show(if r.i<r.l.length then _ else _)=_;split <;> rfl
 unfold f2s;rw[e];have k:s.endp.bad∧s.endp.wr=off z r:=by
  unfold dL;rcases h with h|h
  ·rw[fo (by rw[h.2.2];omega)];exact⟨h.1,h.2.1⟩
  ·have hi:=Xe (s:=s) (by rw[h.2.2.1];decide);rw[fw hi];refine⟨rfl,?_⟩;show(if s.bad then s.wr else(s.peek 0).o)=_;rw[fo (by rw[h.1];decide)];exact h.2.1
 exact⟨k.1,λ_=>⟨k.2,rfl⟩,λq=>by rw[k.1]at q;cases q⟩
def a8f(s:List UInt8):Sim s.length false (PQ s) (rgS s):=⟨⟨rfl,rfl,rfl,rfl,rfl,Ij _,(Ez ⟨s⟩).1⟩,rfl⟩
def e0l{α β:Type}{z:Int}{tb:Bool}{S R:α->β->Prop}{x:α×PS}{y:β×RS}(h:AX ZF z tb S R x y):f2s z x.2 y.2:=by
 rcases h with ⟨h,_,_⟩|⟨h1,h2⟩
 ·exact h3p h.c
 ·exact b0c h1 h2
def f7m{α β:Type}{z:Int}{tb:Bool}{S R:α->β->Prop}{x:α×PS}{y:β×RS}(h:AX ZF z tb S R x y)(e:x.2.endp.bad=false):Sim z tb x.2 y.2∧S x.1 y.1∧(y.2.wide=false->R x.1 y.1):=by
 rcases h with h|⟨h1,h2⟩
 ·exact h
 ·have k:=b0c h1 h2;have a:x.2.endp.bad:=by
   rw[k.1];refine eY ?_;unfold bI;rw[h1];show(if y.2.i<y.2.l.length then _ else _:Int×Int).2≠0;split
   ·show(6:Int)≠0;decide
   ·show(6:Int)≠0;decide
  rw[a]at e;cases e
def a7m(s:Str):a1x s=XT s:=by
 unfold a1x XT;by_cases hc:(Us s).c≠0
 ·rw[fw hc,fw hc]
 ·rw[fo hc,fo hc];have h:=b8g.sim _ _ _ _ (a8f s.s);have b:=e0l h;cases e:(PQ s.s).expr.2.endp.bad with
  | true=>obtain⟨k1,a⟩:=b.2.1 e;rw[fw rfl,fw (by rw[a];decide),k1,a]
  | false=>
   have k1:=b.1;rw[e]at k1;have a:=gz k1.symm;rw[fo (by decide),fo a,b.2.2 e];obtain⟨i,_,k⟩:=f7m h e;cases g:(rgS s.s).expr.2.wide with
   | true=>rw[show(PQ s.s).expr.2.big from i.wd g];rfl
   | false=>have j:(PQ s.s).expr.1=(rgS s.s).expr.1:=k g;rw[show(PQ s.s).expr.2.big=false from i.nw g,j]
def h6v: ∀ (s:RS) (a:Str×Unit),(Zo s&&decide (a.1.s.length<=1048576))->Zh g0q 1 (ZA 1 d3m (ZW [] [] (a9r s a).1 (a9r s a).2)) c9j [] (Yr i0b (ZG a) ([]++[Zz s])):=by
 rintro s ⟨⟨w⟩,⟨⟩⟩ h;have hs:Zo s:=by rw[Cm]at h;exact h.1
 have hl:=ZO hs;show Zh g0q 1 (ZA 1 d3m (ZW [] [] (s.endR w.length) s)) c9j [] _;have out : ∀ (b:Bool),(!s.bad&&decide (s.i=s.l.length))=b->b=false->s.endR w.length=if s.i<s.l.length then((s.tok 0).o,6)else((w.length:Int),6):=λb hb j=>by unfold bI;rw[hb,j];rfl
 have g:s.endR w.length=(if s.i<s.l.length then((s.tok 0).o,6)else((w.length:Int),6))->if (decide ((s.i:Int)<(Ic (aT (enc:Tok->PV) s.l):Int))) then(QU (RS.l s) (s.i:Int) 4 λq=>ZW [] [] (s.endR w.length) s (.pv (.tup [.int .i64 (PV.asInt (I8 (Im 3 (PV.cells (enc q))) 0 default)),.int .i64 6]),[Zz s],[]))else ZW [] [] (s.endR w.length) s (.pv (.tup [.int .i64 (w.length:Int),.int .i64 6]),[Zz s],[]):=λe=>by
  rw[e];by_cases hi:s.i<s.l.length
  ·rw[fw hi,JP (k:=0) hi];exact ZZ (QQ hi) ⟨ZT hi rfl,Ym hi (Zx (i1z (XK rfl) (XK rfl)))⟩
  ·rw[fo hi];exact Z5 (Q3 hi) (Zx (i1z (XK rfl) (XK rfl)))
 refine j3f s w (Xj (λhb=>ZP (λh1=> ?_) λh1=>g (out _ rfl ?_)) λhb=>g (out _ rfl ?_))
 ·have h1:s.i=s.l.length:=by rw[aC]at h1;omega
  unfold bI;rw[hb,eY h1];exact Zx (i1z (XK rfl) (XK rfl))
 ·rw[fF (λe=>h1 (by rw[aC,e])),IL]
 ·rw[hb];rfl
def j3k{s:RS}{w:List UInt8}{K:Int×Int->RS->Prop}(hs:Zo s)(b:w.length<=1048576)(h:K (s.endR w.length) s):Ki ZG Xv [] [] (λ(s:RS) (a:Str×Unit)=>Zo s&&decide (Ic (Str.s (Ik a))<=1048576)) a9r [.ptr 0 0,.pv (.str w)] [Zz s] K:=XW ZQ s (⟨w⟩,()) rfl rfl (by rw[hs];exact eY b) h
def g9f(s:List UInt8)(hs:s.length<=1048576):Zh d9u 0 (Z9 0 b0s (λr=>r=b5k [.pv (.str s)] [])) b6t [] (Yr f5c [.pv (.str s)] []):=j4l s ⟨Zb ((⟨s⟩:Str),()) rfl (eY hs),Zc ((⟨s⟩:Str),()) rfl rfl⟩
def f0s{args:List AV}{os:List AObj}(h:L8 args os): ∃ s:List UInt8,args=[.pv (.str s)]∧os=[]∧s.length<=1048576:=by
 unfold L8 at h;split at h
 ·exact⟨_,rfl,rfl,fZ h⟩
 ·cases h
def h4p: ∀ args os,L8 args os->Zh d9u os.length (Z9 os.length b0s (λr=>r=b5k args os)) b6t [] (Yr f5c args os):=λargs os h=>by obtain⟨s,rfl,rfl,hs⟩:=f0s h;exact g9f s hs
def i1m(s:List UInt8):Zo (rgS s):=by have h:=b3d s;unfold b1r at h;unfold Zo;exact h
def i0e{s:RS}{K:TS->RS->Prop}(hs:Zo s)(h:K (KD s.expr.1) s.expr.2):Ki ZG Xv [] [] (λ(s:RS) (_:Unit)=>Zo s) Et [.ptr 0 0] [Zz s] K:=XW ZQ s () rfl rfl hs h
def i6m{s:List UInt8}(h:((rgS s).expr.2.endR s.length).2=0)(i:(rgS s).expr.2.wide=false):tW (rgS s).expr.1:=by
 have a:=b8g.sim _ _ _ _ (a8f s);have g:=e0l a;have e:(PQ s).expr.2.endp.bad=false:=by rw[g.1,h];rfl
 obtain⟨k,_,j⟩:=f7m a e;have b:(PQ s).expr.1=(rgS s).expr.1:=j i;rw[<- b];exact e0n (b3d s) (Ez ⟨s⟩).1 k.bad
def h0j: ∀ x:Str×Unit,decide (x.1.s.length<=1048576)->Zh g3r 0 (Za d3s (Ze (XT x.1))) d3q [] (Z7 i3v (encL x)):=by
 rintro⟨⟨s⟩,⟨⟩⟩ hs;have b:s.length<=1048576:=fZ hs;have hb:=i1m s;have hl:=ZO hb;have k1:=RGe.expr hb;have a:=k1.ok hb;show Zh g3r 0 (Za d3s (Ze (XT ⟨s⟩))) d3q [] _;unfold XT;refine j1q s ⟨hs,c3w (λh=> ?_) λh=> ?_⟩
 ·rw[fw h];exact e8t e2i
 rw[fo (λk=>k h)];refine i0e hb (j3k a b (c3w (λh1=> ?_) λh1=>YC (λh2=> ?_) λh2=>⟨i9k (Aa (rgS s).expr.1) (e1f (i6m h1 h2)),j6d (Aa (rgS s).expr.1) (Xj (λh3=> ?_) λh3=> ?_)⟩))
 ·rw[fw h1];exact e8t e2i
 ·rw[fo (λk=>k h1),fw h2];exact e8t e2i
 ·rw[fo (λk=>k h1),fo (by rw[h2];decide),fo (by have h3:XB (rgS s).expr.1=false:=h3;rw[h3];decide)];exact e8t e2i
 ·rw[fo (λk=>k h1),fo (by rw[h2];decide),fw h3];exact e8t (Aa _)
def r3S(r:R3 Tm Int Int):R3 TS Int Int:=⟨KD r.a,r.b,r.c⟩
def a9b{s:PS}(h:s.endp.bad=false):s.bad=false:=by
 unfold dL at h;split at h
 ·cases h
 ·exact h
def blB(c:UInt8):Bool:=c==32||(c==9||c==10)
def Bc:Nat->List UInt8->Nat
 | 0,_=>0
 | f+1,r=>match r with
  | []=>0
  | c::u=>if blB c then Bc f u+1
   else if List.isPrefixOf [47,47] (c::u)then(if au (c::u) 10<0 then(c::u).length else(au (c::u) 10).toNat+Bc f ((c::u).drop (au (c::u) 10).toNat))
   else 0
def d8l(c:UInt8):blB c=true ↔ c=32∨c=9∨c=10:=by unfold blB;simp only[Ip,gm]
def NT: ∀ (f:Nat) (s:List UInt8) (n:Nat),n<=s.length->Z0 f s n=n+Bc f (s.drop n)
 | 0,s,n,h=>rfl
 | f+1,s,n,h=>by
  rw[Z0];rcases bz n s.length with h1|h1
  ·have e:s.drop n=s[n]::s.drop (n+1):=IE h1;have a:s.getD n 0=s[n]:=by rw[aN,aU h1];rfl
   rw[fo (by omega),e,a,Bc];by_cases hb:s[n]=32∨s[n]=9∨s[n]=10
   ·rw[fw hb,fw ((d8l _).2 hb),NT f s (n+1) h1];omega
   ·rw[fo hb,fo (λk=>hb ((d8l _).1 k))];split
    ·rename_i hp;rw[<- e];have b:=c4b 10 (s.drop n);rw[IM]at b;split
     ·rename_i hi;rw[IM];omega
     ·rename_i hi;rw[NT f s _ (by omega),aK];omega
    ·rfl
  ·rw[fw h1,ae h1];rfl
def f9f(r:List UInt8):(Mv ⟨r⟩).toNat=Bc (r.length+1) r:=by
 unfold Mv;rw[Iy]
 have:=NT (r.length+1) r 0 (Ij _);rw[this,II,aD]
def e6w: ∀ (f:Nat) (r:List UInt8),Bc f r<=r.length:=λf r=>by have h1:=NT f r 0 (Ij _);have h2:=(PE f r 0 (Ij _)).2;rw[h1,II]at h2;omega
def e6e:Nat->List UInt8->Nat->Int->List Tok->R3 (List Tok) Int Int
 | 0,r,i,ln,o=>⟨o,0,0⟩
 | f+1,r,i,ln,o=>
  let k:=Bc (r.length+1) r
  let a:=ln+ax (r.take k) 10
  if k=r.length then⟨o,0,0⟩
  else if (ZI ⟨r.drop k⟩).1=0 then⟨[],(i+k:Nat),6⟩
  else if o.length=4000 then⟨[],(i+k:Nat),3⟩
  else e6e f (r.drop (k+(ZI ⟨r.drop k⟩).2.s.length)) (i+k+(ZI ⟨r.drop k⟩).2.s.length) a (o++[⟨(ZI ⟨r.drop k⟩).1,(ZI ⟨r.drop k⟩).2,a,(i+k:Nat)⟩])
def g0i: ∀ (f:Nat) (s:List UInt8) (i:Nat) (ln:Int) (o:List Tok),i<=s.length->O1 f s i ln o=e6e f (s.drop i) i ln o
 | 0,s,i,ln,o,h=>rfl
 | f+1,s,i,ln,o,h=>by
  have hk:=e6w ((s.drop i).length+1) (s.drop i);rw[O1,e6e,f9f,IM]at *;generalize hk':Bc (s.length - i+1) (s.drop i)=k at *;rw[aK,aK];have e:(i+k=s.length)=(k=s.length - i):=propext ⟨λ_=>by omega,λ_=>by omega⟩;simp only[e];split
  ·rfl
  ·split
   ·rfl
   ·split
    ·rfl
    ·have a:=Nq ⟨s.drop (i+k)⟩;have a:(ZI ⟨s.drop (i+k)⟩).2.s.length<=(s.drop (i+k)).length:=a;rw[IM]at a;rw[g0i f s _ _ _ (by omega),Nat.add_assoc]
def i5o(s:List UInt8)(h:s.length<=20000):Us ⟨s⟩=e6e (s.length+1) s 0 1 []:=by unfold Us;rw[fo (by show ¬ 20000<s.length;omega),g0i _ _ _ _ _ (Ij _),II]
def b7h: ∀ (l:List (List UInt8)) {u:List UInt8} {k:Int} {w:List UInt8},k≠0->WC l u=(k,⟨w⟩)->w∈l∧w <+: u
 | [],u,k,w,hk,h=>by have:(0:Int)=k:=congrArg Ik h;exact absurd this.symm hk
 | x::l,u,k,w,hk,h=>by
  rw[WC]at h;split at h
  ·rename_i a;have e:x=w:=congrArg (λq:Int×Str=>q.2.s) h;rw[<- e];exact⟨by simp,List.isPrefixOf_iff_prefix.1 a⟩
  ·have:=b7h l hk h;exact⟨by simp[this.1],this.2⟩
def i3a(R:Str):Int×Str:=if Qa.contains R.s then(2,R)else if nameI R.s then(1,R)else(0,⟨[]⟩)
def i9g(R:Str):Int×Str:=if (Vp R).2 then(3,R)else(0,⟨[]⟩)
def h5f(a:UInt8)(u:List UInt8):ZI ⟨a::u⟩=if lowB a then i3a (Ve ⟨a::u⟩ true)else if digB a then i9g (Ve ⟨a::u⟩ false)else WC WE (a::u):=rfl
def h1o{R w:Str}{k:Int}(a:k≠0)(h:i3a R=(k,w)):R=w:=by
 unfold i3a at h;split at h
 ·exact congrArg I7 h
 ·split at h
  ·exact congrArg I7 h
  ·exact absurd (show(0:Int)=k from congrArg Ik h).symm a
def g7e{R w:Str}{k:Int}(a:k≠0)(h:i9g R=(k,w)):R=w:=by
 unfold i9g at h;split at h
 ·exact congrArg I7 h
 ·exact absurd (show(0:Int)=k from congrArg Ik h).symm a
def e4e{u:List UInt8}{k:Int}{w:List UInt8}(i:k≠0)(h:ZI ⟨u⟩=(k,⟨w⟩)):(∃ g,u=w++g)∧ ∃ a v,w=a::v∧(lowB a∨digB a∨w∈WE):=by
 cases u with
 | nil=>have:(0:Int)=k:=congrArg Ik h;exact absurd this.symm i
 | cons a u=>
  have l : ∀ b:Bool,(digB a||(b&&lowB a))->Ve ⟨a::u⟩ b=⟨w⟩->(∃ g,a::u=w++g)∧ ∃ v,w=a::v:=λb ha e=>by
   have e:(a::u).takeWhile (λc=>digB c||(b&&lowB c))=w:=congrArg Str.s e;refine⟨⟨(a::u).dropWhile (λc=>digB c||(b&&lowB c)),?_⟩,?_⟩
   ·rw[<- e,aB]
   ·rw[aG,fw ha]at e;exact⟨_,e.symm⟩
  rw[h5f]at h;by_cases q:lowB a
  ·rw[fw q]at h;obtain⟨h1,v,h2⟩:=l true (by rw[q];simp) (h1o i h);exact⟨h1,a,v,h2,Ib q⟩
  ·rw[fo q]at h;by_cases q1:digB a
   ·rw[fw q1]at h;obtain⟨h1,v,h2⟩:=l false (by rw[q1];rfl) (g7e i h);exact⟨h1,a,v,h2,Ie (Ib q1)⟩
   ·rw[fo q1]at h;obtain⟨h1,h2⟩:=b7h WE i h;have j : ∀ x∈WE,x≠[]:=by decide
    cases w with
    | nil=>exact absurd rfl (j _ h1)
    | cons b v=>obtain⟨g,hr⟩:=h2;exact⟨⟨g,hr.symm⟩,b,v,rfl,Ie (Ie h1)⟩
def lt1(b:UInt8):Bool:=decide (b=40)||(decide (b=45)||lowB b)
def mu(s:List UInt8):Nat:=s.countP lt1
def ZU(a b:List UInt8):mu (a++b)=mu a+mu b:=List.countP_append
def f7d:mu []=0:=rfl
def b6i(b:UInt8)(s:List UInt8):mu (b::s)=mu s+if lt1 b=true then 1 else 0:=List.countP_cons
def h0h{s:List UInt8}(h : ∀ b∈s,lt1 b=false):mu s=0:=List.countP_eq_zero.2 λb hb=>by rw[h b hb];decide
def h4y{b:UInt8}(h:digB b):lt1 b=false:=by
 unfold digB at h;simp only[Cm,fu,I9]at h;have h1:48<=b.toNat:=h.1;have h2:b.toNat<=57:=h.2;have n : ∀ c:UInt8,c.toNat<48∨57<c.toNat->b≠c:=λc hc e=>by subst e;omega
 unfold lt1 lowB;rw[fF (n 40 (by decide)),fF (n 45 (by decide)),fF (show ¬ (97:UInt8)<=b by rw[I9];show ¬ 97<=b.toNat;omega)];rfl
def e1q{d:List UInt8}(h:d.all digB):mu d=0:=h0h λb hb=>h4y (Ir.1 h b hb)
def Oo(n:Int):mu (Hy n)=if n<0 then 1 else 0:=by
 unfold Hy;by_cases h:n<0
 ·rw[Hu h,fw h,b6i,e1q (PT _).1];rfl
 ·rw[J9 h,fo h,e1q (PT _).1]
def muL(l:List Tok):Nat:=(l.map λt=>mu t.t.s).sum
def El(a b:List Tok):muL (a++b)=muL a+muL b:=by unfold muL;rw[aZ,aa]
def d5z(t:Tok):muL [t]=mu t.t.s:=by unfold muL;simp
def d7z: ∀ (f:Nat) (r:List UInt8) (i:Nat) (ln:Int) (o:List Tok),muL (e6e f r i ln o).a<=muL o+mu r
 | 0,r,i,ln,o=>aV _ _
 | f+1,r,i,ln,o=>by
  rw[e6e];generalize Bc (r.length+1) r=k at *;split
  ·exact aV _ _
  ·split
   ·exact Ij _
   ·rename_i h1 h2;split
    ·exact Ij _
    ·obtain⟨⟨r0,hr⟩,_⟩:=e4e (u:=r.drop k) (w:=(ZI ⟨r.drop k⟩).2.s) h2 rfl;have g:=d7z f (r.drop (k+(ZI ⟨r.drop k⟩).2.s.length)) (i+k+(ZI ⟨r.drop k⟩).2.s.length) (ln+ax (r.take k) 10) (o++[⟨(ZI ⟨r.drop k⟩).1,(ZI ⟨r.drop k⟩).2,ln+ax (r.take k) 10,(i+k:Nat)⟩]);rw[El,d5z]at g;have g:_<=muL o+mu (ZI ⟨r.drop k⟩).2.s+_:=g;have e1:mu r=mu (r.take k)+mu (r.drop k):=by rw[<- ZU,IK]
     have e2:mu (r.drop k)=mu (ZI ⟨r.drop k⟩).2.s+mu (r.drop (k+(ZI ⟨r.drop k⟩).2.s.length)):=by rw[<- aK];generalize (ZI ⟨r.drop k⟩).2.s=w at hr ⊢;rw[hr,ZU,List.drop_left]
     omega
def g9d(s:List UInt8):muL (Us ⟨s⟩).a<=mu s:=by
 by_cases h:s.length<=20000
 ·rw[i5o s h]
  have:=d7z (s.length+1) s 0 1 [];have e:muL ([]:List Tok)=0:=rfl;omega
 ·have e:Us ⟨s⟩=⟨[],0,3⟩:=by unfold Us;rw[fw (by show 20000<s.length;omega)]
  rw[e];exact Ij _
def PS.mu(s:PS):Nat:=muL (s.l.take s.i)
def Vg{s t:PS}(h:Ge s t):s.mu<=t.mu:=by unfold PS.mu;rw[h.l,show t.i=s.i+(t.i - s.i) by have:=h.le;omega,List.take_add,El];exact aV _ _
def EB{s:PS}(hi:s.i<s.l.length):s.step.mu=s.mu+Go.Pl.mu (s.peek 0).t.s:=by show muL (s.l.take (s.i+1))=muL (s.l.take s.i)+_;rw[<- List.take_append_getElem hi,El,d5z,PO (k:=0) hi];rfl
def f5z{s:PS}{w:Str}(h:s.next w):(s.peek 0).t=w:=by unfold aP at h;simp only[Cm,Ip,fu]at h;exact h.2
def Vn{s:PS}{w:Str}(h:s.next w):s.step.mu=s.mu+Go.Pl.mu w.s:=by rw[EB (Zq h),f5z h]
def SG{s:PS}{w:Str}(h:(s.need w).bad=false):(s.need w).mu=s.mu+Go.Pl.mu w.s:=by
 unfold dC at h ⊢;split at h
 ·rename_i q;rw[fw q];exact Vn q
 ·cases h
def Si{s:PS}(h:s.name.2.bad=false):s.name.2.mu=s.mu+Go.Pl.mu s.name.1.s:=by
 unfold bG at h ⊢;split at h
 ·rename_i q;rw[fw q];exact EB (Xe (s:=s) (by omega))
 ·cases h
def i7l(w:Str):0<=(Vp w).1:=by
 unfold Vp;split
 ·rename_i h;unfold AO at h;simp only[Cm]at h;show 0<=H7 w.s;rw[f1c _ _ rfl h.1.1.2];omega
 ·exact IR _
def CY{s:PS}{m:Int}(hm:0<=m):0<=(s.num m).1∧(s.num m).1<=m:=by
 unfold bq;split
 ·rename_i q;exact⟨i7l _,q.2.2⟩
 ·exact⟨IR _,hm⟩
def O7{s:PS}(hi:s.i<=s.l.length)(h:s.func.2.bad=false):Go.Pl.mu s.func.1.s+s.mu<=s.func.2.mu:=by
 have k1:=dM hi;unfold aI at h ⊢;split at h
 ·rename_i q;rw[fw q];have a:=IB (Zq q);have k3:=dM a.hi;have m3:=Si h;have b:=Si (a.good (k3.good h));have m2:=Vn q;show Go.Pl.mu (s.name.1.s++([46]++s.name.2.step.name.1.s))+s.mu<=s.name.2.step.name.2.mu;rw[ZU,ZU];have:Go.Pl.mu [46]=0:=by decide
  omega
 ·rename_i q;rw[fo q];have b:=Si h;show Go.Pl.mu s.name.1.s+s.mu<=s.name.2.mu;omega
def mC(t:Coef):Nat:=Go.Pl.mu t.v.s+if t.c<0 then 1 else 0
def mCs(l:List Coef):Nat:=(l.map mC).sum
def mL(l:Lin):Nat:=mCs l.t+if l.k<0 then 1 else 0
def UM(t:Coef)(l:List Coef):mCs (t::l)=mC t+mCs l:=by unfold mCs;rw[I5,I6]
def h0y(a b:List UInt8):mu (I1 a b)<=mu a:=by
 unfold I1;split
 ·exact(List.take_sublist _ _).countP_le
 ·exact Ih _
def d7r(o:List UInt8)(n:Int)(s:List UInt8):mu (Wj o n s)<=mu o+mu s+if n<0 then 1 else 0:=by
 unfold Wj;rw[ZU,ZU];have h1:mu (if decide (n ≥ 0)&&decide (o≠[])then o++[43]else o)=mu o:=by
  split
  ·rw[ZU];show mu o+0=_;rfl
  ·rfl
 have h2:mu (if decide (s≠[])&&(decide (n=1)||decide (n = -1))then I1 (Yw n).s [49]else(Yw n).s)<=mu (Hy n):=by
  split
  ·exact h0y _ _
  ·exact Ih _
 rw[Oo]at h2;omega
def c0l: ∀ (ts:List Coef) (o:List UInt8),mu (ts.foldl (λo t=>Wj o t.c t.v.s) o)<=mu o+mCs ts
 | [],o=>Ih _
 | t::ts,o=>by rw[bO,UM];have h1:=c0l ts (Wj o t.c t.v.s);have h2:=d7r o t.c t.v.s;unfold mC;omega
def f1i(l:Lin):mu (YD l)<=mL l:=by
 have h1:mu (Az l.t)<=mCs l.t:=by have:=c0l l.t [];rw[f7d]at this;unfold Az;omega
 unfold YD mL;split
 ·split
  ·have h2:=d7r (Az l.t) l.k [];rw[f7d]at h2;omega
  ·omega
 ·exact Ij _
def c7i{s:Str}{c:Int}: ∀ (ts:List Coef),(∀ t∈ts,t.v≠s)->We s c true ts=ts
 | [],_=>rfl
 | t::r,h=>by rw[We,fo (h t (by simp)),bv,c7i r λu hu=>h u (by simp[hu])];rfl
def f4c{s:Str}{c:Int}(hc : -4611686018427387904<=c∧c<=4611686018427387904): ∀ (ts:List Coef),KJ ts->(∀ t∈ts,-1000000<=t.c∧t.c<=1000000)->mCs (We s c false ts)<=mCs ts+(mu s.s+if c<0 then 1 else 0)
 | [],_,_=>by rw[We,fo bB,UM];show mC ⟨s,c⟩+0<=0+_;unfold mC;exact aW (by simp)
 | t::r,ha,hb=>by
  obtain⟨a,g⟩:=WT.1 ha;have hb1:=hb t (by simp);rw[We];by_cases e:t.v=s
  ·have hr : ∀ u∈r,u.v≠s:=λu hu q=>by have:=a u hu;rw[e,q]at this;exact ai _ this
   have b : ¬ s.s<t.v.s:=by rw[e];exact ai _
   rw[fF b,fw e,c7i r hr];show mCs (⟨t.v,Vi (t.c+c)⟩::r)<=_;rw[UM,UM,show Vi (t.c+c)=t.c+c from Xf (by omega) (by omega)];unfold mC;show mu t.v.s+(if t.c+c<0 then 1 else 0)+mCs r<=_;by_cases q1:t.c+c<0
   ·rw[fw q1];by_cases q2:t.c<0
    ·rw[fw q2];omega
    ·rw[fo q2,fw (show c<0 by omega)];omega
   ·rw[fo q1];omega
  ·rw[fo e];by_cases q:s.s<t.v.s
   ·have hr : ∀ u∈r,u.v≠s:=λu hu z=>by have:=a u hu;rw[z]at this;exact ai _ (List.lt_trans q this)
    rw[eY q,IV,c7i r hr];show mCs (⟨s,c⟩::t::r)<=_;rw[UM];unfold mC;show mu s.s+(if c<0 then 1 else 0)+mCs (t::r)<=_;omega
   ·rw[fF q];show mCs (t::We s c false r)<=_;rw[UM,UM]
    have:=f4c (s:=s) hc r g λu hu=>hb u (by simp[hu])
    omega
def f7n(p:Coef->Bool): ∀ l:List Coef,mCs (l.filter p)<=mCs l
 | []=>Ih _
 | t::l=>by
  rw[bM]
  have:=f7n p l;split
  ·rw[UM,UM];omega
  ·rw[UM];omega
def a0u(b:Lin):Prop:=(b.t=[]∧0<=b.k)∨(b.k=0∧ ∃ v c,b.t=[⟨v,c⟩]∧0<=c)
def b6p(b:Lin):Nat:=(b.t.map λt=>Go.Pl.mu t.v.s).sum
def i2f(l:Lin):mL (HY l).1<=mL l:=by
 unfold HY;split
 ·exact Ih _
 ·exact Ij _
def b4o{a b:Lin}{k:Int}(g:k=1∨k = -1)(hb:a0u b):mL (Zi a b k).1<=mL a+b6p b+if k<0 then 1 else 0:=by
 by_cases va:Zf a
 ·by_cases vb:Zf b
  ·rw[VN k va vb];refine bC (i2f _) ?_;have ka:=Ju va;have kb:=Ju vb;have i:Vi (a.k+Vi (k*b.k))=a.k+k*b.k:=by have h:Vi (k*b.k)=k*b.k:=Xf (by rcases g with rfl|rfl <;> omega) (by rcases g with rfl|rfl <;> omega);rw[h];exact Xf (by rcases g with rfl|rfl <;> omega) (by rcases g with rfl|rfl <;> omega)
   rcases hb with ⟨h1,h2⟩|⟨h1,v,c,h2,h3⟩
   ·unfold Yf b6p;rw[h1,i];show mCs a.t+(if a.k+k*b.k<0 then 1 else 0)<=mCs a.t+(if a.k<0 then 1 else 0)+0+_;rcases g with rfl|rfl
    ·split
     ·rw[fw (show a.k<0 by omega)];omega
     ·omega
    ·rw[fw (show(-1:Int)<0 by decide)];split <;> omega
   ·have j:=XA vb (t:=⟨v,c⟩) (by rw[h2];simp);have vc1 : -1000000<=c:=j.2.2.1;have vc2:c<=1000000:=j.2.2.2;have h:Vi (k*c)=k*c:=Xf (by rcases g with rfl|rfl <;> omega) (by rcases g with rfl|rfl <;> omega);unfold Yf b6p;rw[i,h1,h2];show mCs ((We v (Vi (k*c)) false a.t).filter _)+(if a.k+k*0<0 then 1 else 0)<=mCs a.t+(if a.k<0 then 1 else 0)+(mu v.s+0)+_;rw[h,cB,cK];have i1:=f7n (λt=>decide (t.c≠0)) (We v (k*c) false a.t);have i2:=f4c (s:=v) (c:=k*c) (by rcases g with rfl|rfl <;> omega) a.t (Qh va) λt ht=>(XA va ht).2.2
    have i3:(if k*c<0 then 1 else 0)<=(if k<0 then 1 else 0):=by
     rcases g with rfl|rfl
     ·rw[fo (show ¬ (1:Int)*c<0 by omega)];exact Ij _
     ·rw[fw (show(-1:Int)<0 by decide)];split <;> omega
    omega
  ·have e:(Zi a b k).1=⟨0,[]⟩:=by unfold Zi;rw[fw va,fo vb]
   rw[e];exact Ij _
 ·have e:(Zi a b k).1=⟨0,[]⟩:=by unfold Zi;rw[fo va]
  rw[e];exact Ij _
def d0r{n:Str}{c:Int}(hc:0<=c):a0u (X0 (Jr n) c).1∧b6p (X0 (Jr n) c).1<=Go.Pl.mu n.s:=by
 have z:a0u ⟨0,[]⟩∧b6p ⟨0,[]⟩<=Go.Pl.mu n.s:=⟨Ib ⟨rfl,IR _⟩,Ij _⟩
 unfold X0;have a:0<=max (-1000001) (min c 1000001):=by omega
 have hk2:max (-1000001) (min c 1000001)<=1000001:=by omega
 generalize max (-1000001) (min c 1000001)=k at *;by_cases vb:Zf (Jr n)
 ·rw[VN k (by decide) vb];unfold HY;split
  ·have b:Vi (k*0)=0:=by rw[cB];exact Xf (by omega) (by omega)
   have g:Vi (k*1)=k:=by rw[Int.mul_one];exact Xf (by omega) (by omega)
   have e:Yf ⟨0,[]⟩ (Jr n) k=⟨0,[(⟨n,k⟩:Coef)].filter λt=>decide (t.c≠0)⟩:=by unfold Yf Jr;show J2 ⟨Vi (0+Vi (k*0)),[]⟩ n (Vi (k*1))=_;rw[b,g,cK,show Vi 0=0 from Xf (by omega) (by omega)];rfl
   rw[e,bM];split
   ·exact⟨Ie ⟨rfl,n,k,rfl,a⟩,by show Go.Pl.mu n.s+0<=_;omega⟩
   ·exact z
  ·exact z
 ·have e:(Zi ⟨0,[]⟩ (Jr n) k).1=⟨0,[]⟩:=by unfold Zi;rw[fw (by decide),fo vb]
  rw[e];exact z
def EG{s:PS}(hi:s.i<=s.l.length)(h:s.item.2.bad=false):a0u s.item.1∧b6p s.item.1+s.mu<=s.item.2.mu:=by
 unfold dD at h ⊢;split at h
 ·rename_i q;rw[fw q];have m:=Si h;exact⟨Ie ⟨rfl,s.name.1,1,rfl,by decide⟩,by show Go.Pl.mu s.name.1.s+0+s.mu<=s.name.2.mu;omega⟩
 ·rename_i q;rw[fo q];have k1:=bU (m:=2147483648) hi;have l1:=Vg k1;split at h
  ·rename_i a;rw[fw a];have m:=Si h;obtain⟨b,i2⟩:=d0r (n:=(s.num 2147483648).2.name.1) (CY (s:=s) (m:=2147483648) (by decide)).1;refine⟨b,?_⟩;show b6p (X0 (Jr (s.num 2147483648).2.name.1) (s.num 2147483648).1).1+s.mu<=(s.num 2147483648).2.name.2.mu;omega
  ·rename_i a;rw[fo a];exact⟨Ib ⟨rfl,(CY (by decide)).1⟩,by show 0+s.mu<=(s.num 2147483648).2.mu;omega⟩
def TT: ∀ (n:Nat) {s:PS} {l:Lin},s.i<=s.l.length->(linLoop n s l).2.bad=false->mL (linLoop n s l).1+s.mu<=mL l+(linLoop n s l).2.mu
 | 0,s,l,_,_=>Ih _
 | n+1,s,l,hi,h=>by
  rw[linLoop]at h ⊢;split at h
  ·rename_i h1;rw[fw h1];exact Ih _
  ·rename_i h1;rw[fo h1];split at h
   ·rename_i h2;rw[fw h2];have k1:=IB (Zq h2);have u:=aS k1.hi;have k3:=dN (b:=decide ((Zi l s.step.item.1 1).2≠0)) u.hi;have q:=bV n (l:=(Zi l s.step.item.1 1).1) k3.hi;have g:=Vn h2;have r:=EG k1.hi (k3.good (q.good h));have j:=b4o (a:=l) (k:=1) (Ib rfl) r.1;have e:=TT n (l:=(Zi l s.step.item.1 1).1) k3.hi h;rw[fo (by decide)]at j;have e:mL (linLoop n (s.step.item.2.note (Zi l s.step.item.1 1)).2 (Zi l s.step.item.1 1).1).1+s.step.item.2.mu<=mL (Zi l s.step.item.1 1).1+(linLoop n (s.step.item.2.note (Zi l s.step.item.1 1)).2 (Zi l s.step.item.1 1).1).2.mu:=e;have:Go.Pl.mu [43]=0:=by decide
    have g:s.step.mu=s.mu+Go.Pl.mu [43]:=g;omega
   ·rename_i h2;rw[fo h2];split at h
    ·rename_i h3;rw[fw h3];have k1:=IB (Zq h3);have u:=aS k1.hi;have k3:=dN (b:=decide ((Zi l s.step.item.1 (-1)).2≠0)) u.hi;have q:=bV n (l:=(Zi l s.step.item.1 (-1)).1) k3.hi;have g:=Vn h3;have r:=EG k1.hi (k3.good (q.good h));have j:=b4o (a:=l) (k:= -1) (Ie rfl) r.1;have e:=TT n (l:=(Zi l s.step.item.1 (-1)).1) k3.hi h;rw[fw (by decide)]at j;have e:mL (linLoop n (s.step.item.2.note (Zi l s.step.item.1 (-1))).2 (Zi l s.step.item.1 (-1)).1).1+s.step.item.2.mu<=mL (Zi l s.step.item.1 (-1)).1+(linLoop n (s.step.item.2.note (Zi l s.step.item.1 (-1))).2 (Zi l s.step.item.1 (-1)).1).2.mu:=e;have:Go.Pl.mu [45]=1:=by decide
     have g:s.step.mu=s.mu+Go.Pl.mu [45]:=g;omega
    ·rename_i h3;rw[fo h3];exact Ih _
def h1w{b:Lin}(h:a0u b):mL b<=b6p b:=by
 unfold mL b6p mCs;rcases h with ⟨h1,h2⟩|⟨h1,v,c,h2,h3⟩
 ·rw[h1,fo (by omega)];exact Ih _
 ·rw[h1,h2];show mC ⟨v,c⟩+0+(if (0:Int)<0 then 1 else 0)<=Go.Pl.mu v.s+0;unfold mC;show Go.Pl.mu v.s+(if c<0 then 1 else 0)+0+(if (0:Int)<0 then 1 else 0)<=Go.Pl.mu v.s+0;rw[fo (by omega),fo (by decide)];exact Ih _
def g2b{s:PS}(hi:s.i<=s.l.length)(h:s.linear.2.bad=false):mu (YD s.linear.1)+s.mu<=s.linear.2.mu:=by
 have key:mL s.linear.1+s.mu<=s.linear.2.mu:=by
  unfold Iz at h ⊢;have j:=Ge.lin0 hi;have u:=bV (s.l.length+1) (l:=s.lin0.1) j.hi;have m:=TT (s.l.length+1) (l:=s.lin0.1) j.hi h;have b:=u.good h
  suffices mL s.lin0.1+s.mu<=s.lin0.2.mu by omega
  unfold dE at b ⊢;split at b
  ·rename_i q;rw[fw q];have k1:=IB (Zq q);have y:=aS k1.hi;have k3:=dN (b:=decide ((X0 s.step.item.1 (-1)).2≠0)) y.hi;have r:=Vn q;have e:=EG k1.hi (k3.good b);have g:=b4o (a:=⟨0,[]⟩) (k:= -1) (Ie rfl) e.1;rw[fw (by decide)]at g;have:Go.Pl.mu [45]=1:=by decide
   have r:s.step.mu=s.mu+Go.Pl.mu [45]:=r;have z:mL ⟨0,[]⟩=0:=by decide
   show mL (Zi ⟨0,[]⟩ s.step.item.1 (-1)).1+s.mu<=s.step.item.2.mu;omega
  ·rename_i q;rw[fo q];have e:=EG hi b;have g:=h1w e.1;omega
 have:=f1i s.linear.1;omega
section
def G7: ∀ l:List (List UInt8),mu (Yg l)=(l.map mu).sum
 | []=>rfl
 | [s]=>by rw[Yg];simp
 | s::t::r=>by
  rw[Yg,ZU,ZU,G7 (t::r)]
  ·show mu s+0+((t::r).map mu).sum=mu s+((t::r).map mu).sum;omega
  ·intro h;cases h
def c8y(b:Bool)(s:List UInt8):mu (KY b s)=mu s+if b=true then 1 else 0:=by
 unfold KY;cases b
 ·rfl
 ·rw[fw rfl,fw rfl,ZU,ZU];show 1+mu s+0=_;omega
def txs(ks:List Tm):Nat:=(ks.map λk=>mu (Zw k)).sum
def d8t:txs []=0:=rfl
def a2z(k:Tm)(ks:List Tm):txs (k::ks)=mu (Zw k)+txs ks:=by unfold txs;rw[I5,I6]
def d8x(ks:List Tm):mu (Yg ((Yp ks).map (·.2.2)))=txs ks:=by rw[G7,VD,aX,aX];rfl
def f2l{n:Nd}{k:Nat}(h:n.kind≠6):Ah n k=none:=by
 unfold Ah;split
 ·rfl
 ·exact fo λq=>h q.1
def Le{n:Nd}{ks:List Tm}(h:n.kind≠6)(a:n.kind≠5):6<=YX (.mk n ks):=by show 6<=Tv n ks.length;unfold Tv;rw[fo a,f2l h];show 6<=(if n.kind=2∧n.name.s=Xi∧n.num<0 then(6:Int)else 7);split <;> decide
def d5m(n:Nd)(ks:List (Int×Bool×List UInt8)):List UInt8:=
 if n.kind=1 then n.name.s
 else if n.kind=2 then b1c n
 else if n.kind=4 then [115,105,122,101,91]++(match n.sizes with|[]=>[]|l::_=>YD l)++[93]
 else if n.kind=5 then [108,101,116,32]++n.name.s++[32,61,32]++(match ks with|[a,b]=>a.2.2++[32,105,110,32]++b.2.2|_=>[])
 else if n.kind=6 then QE n (ks.map (·.2.2))
 else if n.kind=7 then [91]++Yg (ks.map (·.2.2))++[93]
 else if n.kind=8 then [102,111,108,100,40]++Yg (n.name.s::ks.map (·.2.2))++[41]
 else if n.kind=9 then [115,99,97,110,40]++Yg (n.name.s::ks.map (·.2.2))++[41]
 else AJ (H5 n)
def a7z{n:Nd}{ks:List Tm}(h:Ah n ks.length=none):Zw (.mk n ks)=d5m n (Yp ks):=by rw[Zw];unfold HV;rw[show(Yp ks).length=ks.length by rw[VD,aC],h];rfl
def Qt{n:Nd}{ks:List Tm}(h:n.kind≠6):Zw (.mk n ks)=d5m n (Yp ks):=a7z (f2l h)
def d4g: ∀ r∈XY,mu r.s+(if r.u then 1 else 2)+(if r.l<6 then 1 else 0)<=mu r.n+1∧NV r.n=some r∧1<=r.l∧r.l<=6∧(r.u=true ↔ r.l=6):=by decide
def g1n{w:List UInt8}{r:OpR}(h:NV w=some r):r∈XY∧r.n=w:=by unfold NV at h;exact⟨IY h,by have:=aY h;simpa using this⟩
def i1n{w:List UInt8}{u:Bool}{r:OpR}(h:a4l w u=some r):r∈XY∧r.s=w∧r.u=u:=by
 unfold a4l at h
 have:=aY h;simp only[Cm,gm]at this;exact⟨IY h,this.1,this.2⟩
def a0s{n:Nd}{k:Nat}{r:OpR}(h:Ah n k=some r):NV n.name.s=some r∧n.kind=6∧k=(if r.u then 1 else 2)∧n.sizes=[]∧n.num=0∧n.ranks=[]:=by
 unfold Ah at h;cases e:NV n.name.s with
 | none=>rw[e]at h;cases h
 | some r'=>
  rw[e]at h;have h:(if n.kind=6∧k=(if r'.u then 1 else 2)∧n.sizes=[]∧n.num=0∧n.ranks=[]then some r' else none)=some r:=h;by_cases q:n.kind=6∧k=(if r'.u then 1 else 2)∧n.sizes=[]∧n.num=0∧n.ranks=[]
  ·rw[fw q]at h;cases h;exact⟨rfl,q⟩
  ·rw[fo q]at h;cases h
def d9c{ln:Int}{r:OpR}{w:List UInt8}(hr:r∈XY)(b:w=r.n){k:Nat}(a:k=if r.u then 1 else 2):Ah (Vk 6 ln ⟨w⟩) k=some r:=by unfold Ah;show(match NV w with|none=>none|some r=>if (6:Int)=6∧k=(if r.u then 1 else 2)∧([]:List Lin)=[]∧(0:Int)=0∧([]:List Int)=[]then some r else none)=_;rw[b,(d4g r hr).2.1];exact fw ⟨rfl,a,rfl,rfl,rfl⟩
def b1i{n:Nd}{ks:List Tm}{r:OpR}(h:Ah n ks.length=some r):YX (.mk n ks)=r.l:=by show Tv n ks.length=_;unfold Tv;rw[fo (by rw[(a0s h).2.1];decide),h]
def d6t{n:Nd}{k:Tm}{r:OpR}(h:Ah n 1=some r):mu (Zw (.mk n [k]))=mu r.s+(mu (Zw k)+if (decide (YX k<6)||(decide (r.s=[45])&&numM k))=true then 1 else 0):=by rw[Zw];unfold HV;rw[show(Yp [k]).length=1 from rfl,h];show mu (r.s++KY (decide (YX k<6)||(decide (r.s=[45])&&numM k)) (Zw k))=_;rw[ZU,c8y]
def c3k{n:Nd}{a b:Tm}{r:OpR}(h:Ah n 2=some r):mu (Zw (.mk n [a,b]))=mu (Zw a)+(if (decide (YX a<r.l)||(decide (YX a=3)&&decide (r.l=3))) then 1 else 0)+mu r.s+(mu (Zw b)+if decide (YX b<=r.l)=true then 1 else 0):=by rw[Zw];unfold HV;rw[show(Yp [a,b]).length=2 from rfl,h];show mu (KY (decide (YX a<r.l)||(decide (YX a=3)&&decide (r.l=3))) (Zw a)++[32]++r.s++[32]++KY (decide (YX b<=r.l)) (Zw b))=_;rw[ZU,ZU,ZU,ZU,c8y,c8y];show _+0+_+0+_=_;omega
def f9l{l:List Int}(h : ∀ x∈l,0<=x):mu (Yg (l.map Hy))=0:=by
 rw[G7,aX]
 induction l with
 | nil=>rfl
 | cons a l ih=>rw[I5,I6,ih λx b=>h x (by simp[b])];show mu (Hy a)+0=0;rw[Oo,fo (by have:=h a (by simp);omega)]
def h6s{n:Nd}{ks:List Tm}(g:n.kind=6)(hn:0<=n.num)(hr : ∀ x∈n.ranks,0<=x):mu (Zw (.mk n ks))+(if YX (.mk n ks)<6 then 1 else 0)<=mu n.name.s+1+(n.sizes.map λl=>mu (YD l)).sum+(if n.ranks=[]then 0 else 1)+txs ks:=by
 cases e:Ah n ks.length with
 | none=>
  have i:YX (.mk n ks)=7:=by show Tv n ks.length=7;unfold Tv;rw[fo (by rw[g];decide),e];exact fo λq=>by rw[g]at q;exact absurd q.1 (by decide)
  rw[a7z e,i,fo (by decide)];have z:d5m n (Yp ks)=QE n ((Yp ks).map (·.2.2)):=by unfold d5m;rw[fo (by rw[g];decide),fo (by rw[g];decide),fo (by rw[g];decide),fo (by rw[g];decide),fw g]
  rw[z];unfold QE;rw[ZU,ZU,ZU,ZU,ZU,ZU,d8x];have s1:mu (if n.sizes=[]then []else [91]++Yg (n.sizes.map YD)++[93])<=(n.sizes.map λl=>mu (YD l)).sum:=by
   split
   ·exact Ij _
   ·rw[ZU,ZU,G7,aX];show 0+_+0<=_;exact aW (by rw[cO,aD];rfl)
  have y:mu (if n.num=0 then []else [123]++Hy n.num++[125])=0:=by
   split
   ·rfl
   ·rw[ZU,ZU,Oo,fo (by omega)];rfl
  have A:mu (if n.ranks=[]then []else [64,40]++Yg (n.ranks.map Hy)++[41])=if n.ranks=[]then 0 else 1:=by
   split
   ·rfl
   ·rw[ZU,ZU,f9l hr];rfl
  rw[y,A];have c1:mu [40]=1:=by decide
  have c2:mu [41]=0:=by decide
  omega
 | some r=>
  obtain⟨h1,_,h3,C,h5,E⟩:=a0s e;obtain⟨D,j⟩:=g1n h1;obtain⟨h,_,t3,t4,t5⟩:=d4g r D;rw[b1i e,<- j,C,fw E];show _<=mu r.n+1+0+0+_
  match ks,e,h3 with
  | [],e,h3=>split at h3 <;> cases h3
  | [k],e,h3=>
   have hu:r.u:=by
    cases q:r.u with
    | true=>rfl
    | false=>have h3:(1:Nat)=if r.u=true then 1 else 2:=h3;rw[q]at h3;exact absurd h3 (by decide)
   rw[d6t e,a2z,d8t];rw[hu,fw rfl]at h;have:(if (decide (YX k<6)||(decide (r.s=[45])&&numM k)) then 1 else 0)<=1:=by split <;> decide
   omega
  | [a,b],e,h3=>
   have hu:r.u=false:=by
    cases q:r.u with
    | false=>rfl
    | true=>have h3:(2:Nat)=if r.u=true then 1 else 2:=h3;rw[q]at h3;exact absurd h3 (by decide)
   rw[c3k e,a2z,a2z,d8t];rw[hu,fo bB]at h;have g1:(if (decide (YX a<r.l)||(decide (YX a=3)&&decide (r.l=3))) then 1 else 0)<=1:=by split <;> decide
   have g2:(if decide (YX b<=r.l) then 1 else 0)<=1:=by split <;> decide
   omega
  | a::b::c::d,e,h3=>have h3:d.length+3=_:=h3;split at h3 <;> omega
section
variable {α:Type} {one:PS->α×PS} {B:PS->Prop} {f:α->Nat}
def b8m(a : ∀ s t,B s->Ge s t->B t)(g : ∀ s,B s->s.i<=s.l.length->Ge s (one s).2)(k : ∀ s,B s->s.i<=s.l.length->(one s).2.bad=false->f (one s).1+s.mu<=(one s).2.mu):
  ∀ (n:Nat) {s:PS} {o:List α},B s->s.i<=s.l.length->(moreL one n s o).2.bad=false->((moreL one n s o).1.map f).sum+s.mu<=(o.map f).sum+(moreL one n s o).2.mu
 | 0,s,o,_,_,_=>Ih _
 | n+1,s,o,hb,hi,h=>by
  rw[moreL]at h ⊢;split at h
  ·rename_i h1;rw[fw h1];exact Ih _
  ·rename_i h1;rw[fo h1];split at h
   ·rename_i h2;rw[fw h2];have k1:=IB (Zq h2);have b:=a _ _ hb k1;have e:=g _ b k1.hi;have q:=a _ _ b e;have k3:=Ge.moreL a g n (o:=o++[(one s.step).1]) q e.hi;have w1:=k _ b k1.hi (k3.good h);have j:=b8m a g k n (o:=o++[(one s.step).1]) q e.hi h;have l1:=Vg k1;rw[aZ,aa]at j;simp only[I5,cZ,I6,cu]at j;omega
   ·rename_i h2;rw[fo h2];exact Ih _
def c2p(a : ∀ s t,B s->Ge s t->B t)(b : ∀ s,B s->s.i<=s.l.length->Ge s (one s).2)(g : ∀ s,B s->s.i<=s.l.length->(one s).2.bad=false->f (one s).1+s.mu<=(one s).2.mu)
  {s:PS} (hb:B s) (hi:s.i<=s.l.length) (h:(listL one s).2.bad=false):((listL one s).1.map f).sum+s.mu<=(listL one s).2.mu:=by
 have k1:=b _ hb hi;have e:=a _ _ hb k1;have k:=Ge.moreL a b (s.l.length+1) (o:=[(one s).1]) e k1.hi;have w1:=g _ hb hi (k.good h);have j:=b8m a b g (s.l.length+1) (o:=[(one s).1]) e k1.hi h;simp only[I5,cZ,I6,cu]at j;unfold listL;omega
def b7u{Q:α->Prop}(b : ∀ s,Q (one s).1): ∀ (n:Nat) {s:PS} {o:List α},(∀ x∈o,Q x)-> ∀ x∈(moreL one n s o).1,Q x
 | 0,s,o,h=>h
 | n+1,s,o,h=>by
  rw[moreL];split
  ·exact h
  ·split
   ·refine b7u b n λx a=> ?_
    rcases bW.1 a with a|a
    ·exact h x a
    ·rw[bD]at a;subst a;exact b _
   ·exact h
end
def f3g{s:PS}(hi:s.i<=s.l.length)(h:s.sizesN.2.bad=false):(s.sizesN.1.map λl=>mu (YD l)).sum+s.mu<=s.sizesN.2.mu:=by
 unfold dQ at h ⊢;split at h
 ·rename_i h1;rw[fw h1];have k1:=IB (Zq h1);have a:=Ge.list (one:=Iz) (λs h=>bg h) k1.hi;have k3:=Iw (w:=⟨[93]⟩) a.hi;have w:=c2p (one:=Iz) (B:=λ_=>True) (f:=λl=>mu (YD l)) (λ_ _ _ _=>trivial) (λs _ h=>bg h) (λs _ hi h=>g2b hi h) (s:=s.step) trivial k1.hi (k3.good h);have l1:=Vg k1;have l3:=Vg k3;show((listL Iz s.step).1.map _).sum+s.mu<=((listL Iz s.step).2.need ⟨[93]⟩).mu;omega
 ·rename_i h1;rw[fo h1];exact aW (aD _)
def f8p(s:PS):0<=s.frameN.1:=by
 unfold bZ;split
 ·exact(CY (by decide)).1
 ·exact IR _
def g1z{s:PS}(hi:s.i<=s.l.length)(h:s.ranksN.2.bad=false):(if s.ranksN.1=[]then 0 else 1)+s.mu<=s.ranksN.2.mu∧ ∀ x∈s.ranksN.1,0<=x:=by
 unfold bf at h ⊢;split at h
 ·rename_i h1;rw[fw h1];have k1:=IB (Zq h1);have g:=Iw (w:=⟨[40]⟩) k1.hi;have k3:=Ge.list (one:=aJ) (λs h=>bU h) g.hi;have e:=Iw (w:=⟨[41]⟩) k3.hi;have b:=SG (k3.good (e.good h));have b:(s.step.need ⟨[40]⟩).mu=s.step.mu+1:=b;have l1:=Vg k1;have l3:=Vg k3;have l4:=Vg e;refine⟨?_,λx a=>b7u (one:=aJ) (Q:=λx=>0<=x) (λs=>(CY (by decide)).1) _ (λx a=> ?_) x a⟩
  ·have:(if (listL aJ (s.step.need ⟨[40]⟩)).1=[]then 0 else 1)<=1:=by split <;> decide
   show(if (listL aJ (s.step.need ⟨[40]⟩)).1=[]then 0 else 1)+s.mu<=((listL aJ (s.step.need ⟨[40]⟩)).2.need ⟨[41]⟩).mu;omega
  ·rw[bD]at a;subst a;exact(CY (by decide)).1
 ·rename_i h1;rw[fo h1];exact⟨aW (aD _),λx a=>by cases a⟩
def ngv(l:List Int):Nat:=(l.map λn=>if n<0 then 1 else 0).sum
def Ej(a b:List Int):ngv (a++b)=ngv a+ngv b:=by unfold ngv;rw[aZ,aa]
def Mj(n:Int):ngv [n]=if n<0 then 1 else 0:=by unfold ngv;simp
def c4e: ∀ (n:Nat) (s:PS) (o:List Int),ngv (numsP n s o).1<=ngv o
 | 0,s,o=>Ih _
 | n+1,s,o=>by
  rw[numsP];split
  ·have:=c4e n (s.num 2147483648).2 (o++[(s.num 2147483648).1]);rw[Ej,Mj,fo (by have:=(CY (s:=s) (m:=2147483648) (by decide)).1;omega)]at this;exact this
  ·exact Ih _
def i7x(s:PS):s.sgs.mu=s.mu+if s.next ⟨[45]⟩=true then 1 else 0:=by
 unfold PS.sgs;split
 ·rename_i q;rw[Vn q];rfl
 ·rfl
def e0t: ∀ (n:Nat) {s:PS} {o:List Int},s.i<=s.l.length->(datP n s o).2.bad=false->ngv (datP n s o).1+s.mu<=ngv o+(datP n s o).2.mu
 | 0,s,o,_,_=>Ih _
 | n+1,s,o,hi,h=>by
  rw[datP]at h ⊢;split at h
  ·rename_i h1;rw[fw h1];exact Ih _
  ·rename_i h1;rw[fo h1];split at h
   ·rename_i h2;rw[fw h2];exact Ih _
   ·rename_i h2;rw[fo h2];have a:=Ge.sgs hi;have k1:=bU (m:=2147483648) a.hi;have w:=e0t n (o:=o++[Ia.wrap (s.sgn*(s.sgs.num 2147483648).1)]) k1.hi h;have m0:=i7x s;have l1:=Vg k1;obtain⟨v1,v2⟩:=CY (s:=s.sgs) (m:=2147483648) (by decide);rw[Ej,Mj]at w;have g:(if Ia.wrap (s.sgn*(s.sgs.num 2147483648).1)<0 then 1 else 0)<=(if s.next ⟨[45]⟩ then 1 else 0):=by
     unfold PS.sgn;split
     ·split <;> omega
     ·rw[cz,Xf (by omega) (by omega),fo (by omega)];exact Ih _
    omega
def b9a: ∀ l:List Int,mu (UJ l)=ngv l
 | []=>rfl
 | [n]=>by rw[UJ,Oo,Mj]
 | n::m::r=>by
  rw[UJ,ZU,ZU,b9a (m::r),Oo]
  ·show _+0+ngv (m::r)=ngv ([n]++(m::r));rw[Ej,Mj,cO]
  ·intro h;cases h
def d5u: ∀ l:List Int,mu (l.flatMap λn=>[32]++Hy n)=ngv l
 | []=>rfl
 | n::r=>by rw[List.flatMap_cons,ZU,ZU,d5u r,Oo];show 0+_+ngv r=ngv ([n]++r);rw[Ej,Mj];omega
def i7b{s:PS}(hi:s.i<=s.l.length)(h:s.arr.2.bad=false):mu (AJ s.arr.1)+s.mu<=s.arr.2.mu:=by
 have k1:=Ge.ar1 hi;have b:Ge s.ar1 s.ar2.2:=Ge.numsP _ k1.hi;have j:=Iw (w:=⟨[58]⟩) b.hi;have g:Ge (s.ar2.2.need ⟨[58]⟩) s.ar3.2:=Ge.datP _ j.hi;have r:=Iw (w:=⟨[93]⟩) g.hi;have k:s.ar3.2.bad=false:=r.good h;have w3:ngv s.ar3.1+(s.ar2.2.need ⟨[58]⟩).mu<=ngv []+s.ar3.2.mu:=e0t _ j.hi k;have w2:ngv s.ar2.1<=ngv []:=c4e _ s.ar1 [];have l1:(if s.arB then 1 else 0)+s.mu<=s.ar1.mu:=by
  have a:s.ar1.bad=false:=b.good (j.good (g.good k));unfold PS.ar1 at a ⊢;have m:=SG a;have z:Go.Pl.mu [91]=0:=by decide
  have m:_=(if s.arB then s.step else s).mu+Go.Pl.mu [91]:=m;rw[m,z];split
  ·rename_i q;unfold bQ at q;simp only[Cm,fu]at q
   have:=EB (Xe (s:=s) (by omega));rw[q.2]at this;have:s.step.mu=s.mu+1:=this;omega
  ·omega
 have l2:=Vg b;have lc:=Vg j;have le:=Vg r;have e:mu (AJ s.arr.1)=(if s.arB then 1 else 0)+ngv s.ar2.1+ngv s.ar3.1:=by
  show mu (AJ ⟨⟨if s.arB then YK else Xi⟩,s.ar2.1,s.ar3.1⟩)=_;unfold AJ;rw[ZU,ZU,ZU,ZU,b9a,d5u];cases s.arB
  ·show mu (if Xi=YK then _ else _)+_+0+_+0=_;rw[fo (by decide)];rfl
  ·show mu (if YK=YK then _ else _)+_+0+_+0=_;rw[fw rfl];rfl
 rw[e];show _<=(s.ar3.2.need ⟨[93]⟩).mu;have z:ngv []=0:=rfl;omega
end
section
def nk{a b:Int}(h:(a != b)):a≠b:=by simpa using h
def Hz(t:Tm)(s:PS):Nat:=if YX t<6∨(numM t∧(s.peek 0).k≠3)then 1 else 0
def BD(t:Tm)(lev:Int):Nat:=if YX t<lev then 1 else 0
def d5f(t:Tm)(s:PS):Hz t s<=1:=by unfold Hz;split <;> decide
def Cb{t:Tm}{s:PS}(h:6<=YX t)(k:numM t=false∨(s.peek 0).k=3):Hz t s=0:=by
 unfold Hz;refine fo λq=> ?_
 rcases q with q|⟨a,b⟩
 ·omega
 ·rcases k with k|k
  ·rw[k]at a;cases a
  ·exact b k
def b3k{n:Nd}{ks:List Tm}(h:n.kind≠2):numM (.mk n ks)=false:=by show(decide (n.kind=2)&&decide (n.name.s=Xi)&&decide (n.num ≥ 0))=false;rw[fF h];rfl
def VX(N:Nat)(ex:PS->Tm×PS):Prop:= ∀ s,UQ N s->s.i<=s.l.length->(ex s).2.bad=false->mu (Zw (ex s).1)+s.mu<=(ex s).2.mu
def VUm(N:Nat)(un:PS->(Tm×Int)×PS):Prop:= ∀ s,UQ N s->s.i<=s.l.length->(un s).2.bad=false->mu (Zw (un s).1.1)+Hz (un s).1.1 s+s.mu<=(un s).2.mu
def VF(N:Nat)(lev:Int)(fr:PS->(Tm×Int)×PS):Prop:= ∀ s,UQ N s->s.i<=s.l.length->(fr s).2.bad=false->mu (Zw (fr s).1.1)+BD (fr s).1.1 lev+s.mu<=(fr s).2.mu
section
variable {N:Nat} {ex:PS->Tm×PS}
def e1c(g:FN N ex)(e:VX N ex){s:PS}(a:UQ N s)(hi:s.i<=s.l.length)(h:(listL ex s).2.bad=false):txs (listL ex s).1+s.mu<=(listL ex s).2.mu:=c2p (one:=ex) (B:=UQ N) (f:=λk=>mu (Zw k)) (λs t h k=>h.ge k) (λs h k=>g s h k) (λs b i h=>e s b i h) a hi h
def h1u(j:FN N ex)(z:VX N ex){s:PS}(r:UQ N s)(hi:s.i<=s.l.length)(h:(V8 ex s).2.bad=false):txs (V8 ex s).1+1+s.mu<=(V8 ex s).2.mu:=by
 have k1:=Iw (w:=⟨[40]⟩) hi;have k3:=Iw (w:=⟨[41]⟩) k1.hi;have l3:=Vg k3;unfold V8 at h ⊢;split at h
 ·rename_i q
  have:=k3.good h;rw[this]at q;cases q
 ·rename_i q;have y:(s.need ⟨[40]⟩).bad=false:=by simpa using q
  have g:=SG y;have g:(s.need ⟨[40]⟩).mu=s.mu+1:=g;rw[fo q];split at h
  ·rename_i a;rw[fw a];show 0+1+s.mu<=((s.need ⟨[40]⟩).need ⟨[41]⟩).mu;omega
  ·rename_i a;rw[fo a];have e:=r.ge k1;have u:=Ge.listL (B:=UQ N) (λs t h k=>h.ge k) (λs h k=>j s h k) e k1.hi;have b:=Iw (w:=⟨[41]⟩) u.hi;have w:=e1c j z e k1.hi (b.good h);have l4:=Vg b;show txs (listL ex (s.need ⟨[40]⟩)).1+1+s.mu<=((listL ex (s.need ⟨[40]⟩)).2.need ⟨[41]⟩).mu;omega
def f3u(k:FN N ex)(A:VX N ex){ln:Int}{n:Str}{s:PS}(r:UQ N s)(hi:s.i<=s.l.length)(h:(UH ex ln n s).2.bad=false):mu (Zw (UH ex ln n s).1)+(if YX (UH ex ln n s).1<6 then 1 else 0)+s.mu<=mu n.s+(UH ex ln n s).2.mu:=by have k1:=Ge.sizesN hi;have a:=Ge.frameN k1.hi;have k3:=Ge.ranksN a.hi;have y:=k1.trans (a.trans k3);have g:=r.ge y;have q:=Ge.kids k g k3.hi;have j:(V8 ex s.sizesN.2.frameN.2.ranksN.2).2.bad=false:=h;have e:=q.good j;have u:=k3.good e;have z:=a.good u;have w1:=f3g hi z;have l2:=Vg a;have b:=g1z (s:=s.sizesN.2.frameN.2) a.hi e;have w4:=h1u k A (s:=s.sizesN.2.frameN.2.ranksN.2) g k3.hi j;have c:=h6s (n:={Hw with kind:=6,line:=ln,name:=n,num:=s.sizesN.2.frameN.1,sizes:=s.sizesN.1,ranks:=s.sizesN.2.frameN.2.ranksN.1}) (ks:=(V8 ex s.sizesN.2.frameN.2.ranksN.2).1) rfl (f8p _) b.2;have c:mu (Zw (UH ex ln n s).1)+(if YX (UH ex ln n s).1<6 then 1 else 0)<=mu n.s+1+(s.sizesN.1.map λl=>mu (YD l)).sum+(if s.sizesN.2.frameN.2.ranksN.1=[]then 0 else 1)+txs (V8 ex s.sizesN.2.frameN.2.ranksN.2).1:=c;have b:=b.1;show _<=mu n.s+(V8 ex s.sizesN.2.frameN.2.ranksN.2).2.mu;omega
def g1q(b:FN N ex)(u:VX N ex){s:PS}(l:UQ (N+1) s)(j:(s.peek 0).k=1)(h:(QD ex s).2.bad=false):mu (Zw (QD ex s).1)+Hz (QD ex s).1 s+s.mu<=(QD ex s).2.mu:=by
 have hi:=Xe (s:=s) (by omega);have g:=IB hi;have h1:=Ge.func1 j;have k1:=g.trans h1;unfold QD at h ⊢;split at h
 ·rename_i q;rw[fw q];have i:=O7 (by omega) h;show mu (Zw (.mk (Vk 1 (s.peek 0).ln s.func.1) []))+Hz (.mk (Vk 1 (s.peek 0).ln s.func.1) []) s+s.mu<=s.func.2.mu;rw[Cb (Le (nk rfl) (nk rfl)) (Ib (b3k (nk rfl))),Qt (nk rfl)];show mu s.func.1.s+0+s.mu<=_;omega
 ·rename_i q;rw[fo q];have a:UQ N s.func.2:=(l.step hi).ge h1;have r:=Ge.callB b (ln:=(s.peek 0).ln) (n:=s.func.1) a h1.hi;have i:=O7 (by omega) (r.good h);have w:=f3u b u (ln:=(s.peek 0).ln) (n:=s.func.1) (s:=s.func.2) a h1.hi h;have e:Hz (UH ex (s.peek 0).ln s.func.1 s.func.2).1 s<=(if YX (UH ex (s.peek 0).ln s.func.1 s.func.2).1<6 then 1 else 0):=by
   unfold Hz;have z:numM (UH ex (s.peek 0).ln s.func.1 s.func.2).1=false:=b3k (nk rfl);rw[z];split
   ·rename_i q;rcases q with q|q
    ·rw[fw q];exact Ih _
    ·cases q.1
   ·exact Ij _
  omega
def g7i(z:FN N ex)(y:VX N ex){ln:Int}{s:PS}(F:UQ N s)(hi:s.i<=s.l.length)(h:(Dm ex ln s).2.bad=false):mu (Zw (Dm ex ln s).1)+s.mu<=4+(Dm ex ln s).2.mu:=by have k1:=Iw (w:=⟨[40]⟩) hi;have g:=Ge.func k1.hi;have k3:=Iw (w:=⟨[44]⟩) g.hi;have C:=k1.trans (g.trans k3);have e:=F.ge C;have b:=z _ e k3.hi;have a:=Iw (w:=⟨[44]⟩) b.hi;have D:=b.trans a;have k:=e.ge D;have B:=z _ k a.hi;have q:=Iw (w:=⟨[41]⟩) B.hi;have u:=q.good h;have H:=B.good u;have j:=a.good H;have E:=b.good j;have A:=k3.good E;have r:=SG (g.good A);have r:(s.need ⟨[40]⟩).mu=s.mu+1:=r;have n1:=O7 (s:=s.need ⟨[40]⟩) k1.hi A;have w4:=y _ e k3.hi j;have w6:=y _ k a.hi u;have e3:=Vg k3;have e5:=Vg a;have e7:=Vg q;unfold Dm;dsimp only;rw[Qt (nk rfl)];show mu ([102,111,108,100,40]++Yg ((s.need ⟨[40]⟩).func.1.s::(Yp [_,_]).map (·.2.2))++[41])+s.mu<=_;rw[ZU,ZU,G7,VD];show 5+(mu (s.need ⟨[40]⟩).func.1.s+(mu (Zw _)+(mu (Zw _)+0)))+0+s.mu<=_;omega
def h6e(A:FN N ex)(z:VX N ex){ln:Int}{s:PS}(y:UQ N s)(hi:s.i<=s.l.length)(h:(Dt ex ln s).2.bad=false):mu (Zw (Dt ex ln s).1)+s.mu<=4+(Dt ex ln s).2.mu:=by have k1:=Iw (w:=⟨[40]⟩) hi;have a:=Ge.func k1.hi;have k3:=Iw (w:=⟨[44]⟩) a.hi;have r:=k1.trans (a.trans k3);have j:=y.ge r;have e:=A _ j k3.hi;have g:=Iw (w:=⟨[41]⟩) e.hi;have b:=g.good h;have u:=e.good b;have q:=k3.good u;have k:=SG (a.good q);have k:(s.need ⟨[40]⟩).mu=s.mu+1:=k;have n1:=O7 (s:=s.need ⟨[40]⟩) k1.hi q;have w4:=z _ j k3.hi b;have e3:=Vg k3;have e5:=Vg g;unfold Dt;dsimp only;rw[Qt (nk rfl)];show mu ([115,99,97,110,40]++Yg ((s.need ⟨[40]⟩).func.1.s::(Yp [_]).map (·.2.2))++[41])+s.mu<=_;rw[ZU,ZU,G7,VD];show 5+(mu (s.need ⟨[40]⟩).func.1.s+(mu (Zw _)+0))+0+s.mu<=_;omega
def g3n{ln:Int}{s:PS}(hi:s.i<=s.l.length)(h:(Jb ln s).2.bad=false):mu (Zw (Jb ln s).1)+s.mu<=4+(Jb ln s).2.mu:=by have k1:=Iw (w:=⟨[91]⟩) hi;have a:=bg k1.hi;have k3:=Iw (w:=⟨[93]⟩) a.hi;have w:=g2b (s:=s.need ⟨[91]⟩) k1.hi (k3.good h);have e1:=Vg k1;have e3:=Vg k3;unfold Jb;dsimp only;rw[Qt (nk rfl)];show mu ([115,105,122,101,91]++YD (s.need ⟨[91]⟩).linear.1++[93])+s.mu<=_;rw[ZU,ZU];show 4+mu (YD (s.need ⟨[91]⟩).linear.1)+0+s.mu<=4+((s.need ⟨[91]⟩).linear.2.need ⟨[93]⟩).mu;omega
end
section
variable {N:Nat} {ex:PS->Tm×PS}
def h4f(g:FN N ex)(u:VX N ex){s:PS}(j:UQ (N+1) s)(hi:s.i<=s.l.length)(h:(UU ex s).2.bad=false):mu (Zw (UU ex s).1)+Hz (UU ex s).1 s+s.mu<=(UU ex s).2.mu:=by
 by_cases q1:(s.peek 0).k=3
 ·rw[show UU ex s=(.mk {Vk 2 (s.peek 0).ln ⟨Xi⟩with num:=(s.num 2147483647).1} [],(s.num 2147483647).2)from fw q1]at h ⊢;have k:=Vg (bU (m:=2147483647) hi);rw[Cb (Le (nk rfl) (nk rfl)) (Ie q1),Qt (nk rfl)];show mu (Hy (s.num 2147483647).1)+0+s.mu<=(s.num 2147483647).2.mu;rw[Oo,fo (by have:=(CY (s:=s) (m:=2147483647) (by decide)).1;omega)];omega
 by_cases q2:(s.peek 0).k=1
 ·rw[show UU ex s=QD ex s from(fo q1).trans (fw q2)]at h ⊢;exact g1q g u j q2 h
 have P : ∀ (n:Nd) (ks:List Tm),n.kind≠6->n.kind≠5->n.kind≠2->Hz (.mk n ks) s=0:=λn ks a b c=>Cb (Le a b) (Ib (b3k c))
 unfold UU at h ⊢;dsimp only at h ⊢;rw[fo q1,fo q2]at h ⊢;split at h
 ·rename_i q;rw[fw q];have m:=Vn q;have m:s.step.mu=s.mu+4:=m;rw[Cb (Le (nk rfl) (nk rfl)) (Ib (by rfl)),Qt (nk rfl)];show 4+0+s.mu<=s.step.mu;omega
 ·rename_i q;rw[fo q];split at h
  ·rename_i q;rw[fw q];have m:=Vn q;have m:s.step.mu=s.mu+5:=m;rw[Cb (Le (nk rfl) (nk rfl)) (Ib (by rfl)),Qt (nk rfl)];show 5+0+s.mu<=s.step.mu;omega
  ·rename_i q;rw[fo q];split at h
   ·rename_i q;rw[fw q];have e:=Zq q;have m:=Vn q;have m:s.step.mu=s.mu+1:=m;have k1:=IB e;have r:=j.step e;have y:=g _ r k1.hi;have k3:=Iw (w:=⟨[41]⟩) y.hi;have w:=u s.step r k1.hi (k3.good h);have z:=Vg k3;have p:=d5f (ex s.step).1 s;show mu (Zw (ex s.step).1)+Hz (ex s.step).1 s+s.mu<=((ex s.step).2.need ⟨[41]⟩).mu;omega
   ·rename_i q;rw[fo q];split at h
    ·rename_i q;rw[fw q];have e:=Zq q;have k1:=IB e;have r:=j.step e;have y:=Ge.listL (B:=UQ N) (λs t h k=>h.ge k) (λs h k=>g s h k) r k1.hi;have k3:=Iw (w:=⟨[93]⟩) y.hi;have w:=e1c g u (s:=s.step) r k1.hi (k3.good h);have A:=Vg k1;have z:=Vg k3;rw[P _ _ (nk rfl) (nk rfl) (nk rfl),Qt (nk rfl)];show mu ([91]++Yg ((Yp (listL ex s.step).1).map (·.2.2))++[93])+0+s.mu<=((listL ex s.step).2.need ⟨[93]⟩).mu;rw[ZU,ZU,d8x];show 0+_+0+0+s.mu<=_;omega
    ·rename_i q;rw[fo q];split at h
     ·rename_i q;rw[fw q];have e:=Zq q;have m:=Vn q;have m:s.step.mu=s.mu+4:=m;have w:=g7i g u (ln:=(s.peek 0).ln) (s:=s.step) (j.step e) (IB e).hi h;rw[show Hz (Dm ex (s.peek 0).ln s.step).1 s=0 from P _ _ (nk rfl) (nk rfl) (nk rfl)];omega
     ·rename_i q;rw[fo q];split at h
      ·rename_i q;rw[fw q];have e:=Zq q;have m:=Vn q;have m:s.step.mu=s.mu+4:=m;have w:=h6e g u (ln:=(s.peek 0).ln) (s:=s.step) (j.step e) (IB e).hi h;rw[show Hz (Dt ex (s.peek 0).ln s.step).1 s=0 from P _ _ (nk rfl) (nk rfl) (nk rfl)];omega
      ·rename_i q;rw[fo q];split at h
       ·rename_i q;rw[fw q];have e:=Zq q;have m:=Vn q;have m:s.step.mu=s.mu+4:=m;have w:=g3n (ln:=(s.peek 0).ln) (s:=s.step) (IB e).hi h;rw[show Hz (Jb (s.peek 0).ln s.step).1 s=0 from P _ _ (nk rfl) (nk rfl) (nk rfl)];omega
       ·rename_i q;rw[fo q];split at h
        ·rename_i q;rw[fw q];have e:=Zq q;have k1:=IB e;have A:=Vg k1;have w:=i7b (s:=s.step) k1.hi h;rw[P _ _ (nk rfl) (nk rfl) (nk rfl),Qt (nk rfl)];show mu (AJ s.step.arr.1)+0+s.mu<=s.step.arr.2.mu;omega
        ·cases h
def i8g{w:Str}{u:Bool}(h:(Wi w u).b≠0): ∃ r∈XY,r.s=w.s∧r.u=u∧Wi w u=⟨⟨r.n⟩,r.l,true⟩:=by
 unfold Wi at h ⊢;cases e:a4l w.s u with
 | none=>rw[e]at h;exact absurd rfl h
 | some r=>obtain⟨a,b,c⟩:=i1n e;exact⟨r,a,b,c,rfl⟩
def i6v(L:FN N ex)(J:VX N ex){un:PS->(Tm×Int)×PS}(hu:GeU N un)(I:VUm N un){s:PS}(C:UQ (N+1) s)(hi:s.i<=s.l.length)(h:(CW ex un s).2.bad=false):mu (Zw (CW ex un s).1.1)+Hz (CW ex un s).1.1 s+s.mu<=(CW ex un s).2.mu:=by
 unfold CW at h ⊢;dsimp only at h ⊢;split at h
 ·rename_i q;rw[fw q];simp only[Cm,fu]at q;have m:=Vn q.1;have m:s.step.mu=s.mu+1:=m;have k1:=IB (Zq q.1);have l1:=Vg (bU (m:=2147483648) k1.hi);obtain⟨v1,v2⟩:=CY (s:=s.step) (m:=2147483648) (by decide);have H:Ia.wrap (-(s.step.num 2147483648).1) = -(s.step.num 2147483648).1:=Xf (by omega) (by omega);rw[Qt (nk rfl)];show mu (Hy (Ia.wrap (-(s.step.num 2147483648).1)))+_+s.mu<=(s.step.num 2147483648).2.mu;rw[H,Oo];by_cases z:(s.step.num 2147483648).1=0
  ·rw[fo (by omega)];refine bC (Nat.add_le_add_right (Nat.add_le_add_left (d5f _ s) _) _) ?_;omega
  ·rw[fw (by omega),Cb (Le (nk rfl) (nk rfl)) (Ib ?_)]
   ·omega
   ·show(true&&true&&decide (-(s.step.num 2147483648).1 ≥ 0))=false;rw[fF (by omega)];rfl
 ·rename_i q;rw[fo q];split at h
  ·rename_i b;rw[fw b];have y:s.i<s.l.length:=by
    simp only[Ip]at b;rcases b with b|b
    ·exact Zq b
    ·exact Zq b
   have w:=I s.step (C.step y) (IB y).hi h;have A : ∀ r∈XY,r.u->Wi (s.peek 0).t true=⟨⟨r.n⟩,r.l,true⟩->mu r.s+s.mu=s.step.mu->(r.s=[45]->(s.step.peek 0).k≠3)->mu (Zw (.mk (Vk 6 (s.peek 0).ln (Wi (s.peek 0).t true).a) [(un s.step).1.1]))+Hz (.mk (Vk 6 (s.peek 0).ln (Wi (s.peek 0).t true).a) [(un s.step).1.1]) s+s.mu<=(un s.step).2.mu:=by
    intro r hr j D hm E;rw[D];have e:Ah (Vk 6 (s.peek 0).ln ⟨r.n⟩) 1=some r:=d9c hr rfl (by rw[j];rfl);have K:YX (.mk (Vk 6 (s.peek 0).ln ⟨r.n⟩) [(un s.step).1.1])=r.l:=b1i e;have F:=(d4g r hr).2.2.2.2.1 j;show mu (Zw (.mk (Vk 6 (s.peek 0).ln ⟨r.n⟩) [(un s.step).1.1]))+Hz (.mk (Vk 6 (s.peek 0).ln ⟨r.n⟩) [(un s.step).1.1]) s+s.mu<=_;rw[Cb (by rw[K,F];exact IR _) (Ib (b3k (nk rfl))),d6t e];have g:(if (decide (YX (un s.step).1.1<6)||(decide (r.s=[45])&&numM (un s.step).1.1)) then 1 else 0)<=Hz (un s.step).1.1 s.step:=by
     unfold Hz;split
     ·rename_i z;simp only[Ip,Cm,fu]at z;rw[fw]
      ·exact Ih _
      ·rcases z with z|z
       ·exact Ib z
       ·exact Ie ⟨z.2,E z.1⟩
     ·exact Ij _
    omega
   by_cases q3:s.next ⟨[45]⟩
   ·have m:=Vn q3;have m:s.step.mu=s.mu+1:=m;refine A ⟨[45],true,[110,101,103],6⟩ (by decide) rfl (by rw[f5z q3];decide) (by show 1+s.mu=_;omega) (λ_ z=> ?_);rw[q3]at q;have z:(s.peek 1).k=3:=z;rw[z]at q;exact q rfl
   ·have B:s.next ⟨[33]⟩:=by simp only[Ip]at b;exact b.resolve_left q3
    have m:=Vn B;have m:s.step.mu=s.mu+0:=m;exact A ⟨[33],true,[110,111,116],6⟩ (by decide) rfl (by rw[f5z B];decide) (by show 0+s.mu=_;omega) (λz=>absurd z (by decide))
  ·rename_i b;rw[fo b];exact h4f L J C hi h
def i5e{ln lev:Int}{s:PS}{l r:Tm}(g:s.oper.1.2=lev)(i:lev≠0):YX (.mk (Vk 6 ln s.oper.1.1) [l,r])=lev∧mu (Zw (.mk (Vk 6 ln s.oper.1.1) [l,r]))+s.mu=mu (Zw l)+(if (decide (YX l<lev)||(decide (YX l=3)&&decide (lev=3))) then 1 else 0)+(mu (Zw r)+if decide (YX r<=lev)=true then 1 else 0)+s.step.mu:=by
 unfold ah at g ⊢;by_cases k4:(s.peek 0).k=4
 ·rw[fw k4]at g ⊢;have g:(Wi (s.peek 0).t false).b=lev:=g;obtain⟨o,ho,hs,hu,h⟩:=i8g (w:=(s.peek 0).t) (u:=false) (by rw[g];exact i);rw[h]at g;have g:o.l=lev:=g;have e:Ah (Vk 6 ln ⟨o.n⟩) 2=some o:=d9c ho rfl (by rw[hu];rfl);have m:=EB (Xe (s:=s) (by omega));show YX (.mk (Vk 6 ln (Wi (s.peek 0).t false).a) [l,r])=lev∧mu (Zw (.mk (Vk 6 ln (Wi (s.peek 0).t false).a) [l,r]))+s.mu=_;rw[h];show YX (.mk (Vk 6 ln ⟨o.n⟩) [l,r])=lev∧mu (Zw (.mk (Vk 6 ln ⟨o.n⟩) [l,r]))+s.mu=_;refine⟨(b1i (ks:=[l,r]) e).trans g,?_⟩;rw[c3k e,g,hs];omega
 ·rw[fo k4]at g;exact absurd g.symm i
def a7w{fr:PS->(Tm×Int)×PS}{lev ln:Int}(k:lev≠0)(hu:GeU (N+1) fr)(B:VF (N+1) (lev+1) fr): ∀ (n:Nat) {s:PS} {l:Tm},UQ (N+1) s->s.i<=s.l.length->(opLoop fr lev ln n s l).2.bad=false ->
  mu (Zw (opLoop fr lev ln n s l).1.1)+BD (opLoop fr lev ln n s l).1.1 lev+s.mu<=mu (Zw l)+(if (decide (YX l<lev)||(decide (YX l=3)&&decide (lev=3))) then 1 else 0)+(opLoop fr lev ln n s l).2.mu
 | 0,s,l,_,_,_=>by
  show mu (Zw l)+BD l lev+s.mu<=mu (Zw l)+_+s.mu;have:BD l lev<=(if (decide (YX l<lev)||(decide (YX l=3)&&decide (lev=3))) then 1 else 0):=by
   unfold BD;split
   ·rename_i q;rw[eY q];exact Ih _
   ·exact Ij _
  omega
 | n+1,s,l,hf,hi,h=>by
  have stay:mu (Zw l)+BD l lev+s.mu<=mu (Zw l)+(if (decide (YX l<lev)||(decide (YX l=3)&&decide (lev=3))) then 1 else 0)+s.mu:=by
   have:BD l lev<=(if (decide (YX l<lev)||(decide (YX l=3)&&decide (lev=3))) then 1 else 0):=by
    unfold BD;split
    ·rename_i q;rw[eY q];exact Ih _
    ·exact Ij _
   omega
  rw[opLoop]at h ⊢;split at h
  ·rename_i q;rw[fw q];exact stay
  ·rename_i q;rw[fo q];split at h
   ·rename_i q;rw[fw q];exact stay
   ·rename_i u;rw[fo u];have u:s.oper.1.2=lev:=by omega
    have j:=Nt (s:=s) (by omega);have k1:=IB j;have e:=hf.ge k1;have a:=hu _ e k1.hi;obtain⟨A,e2⟩:=i5e (ln:=ln) (l:=l) (r:=(fr s.step).1.1) u k;have y:(fr s.step).2.bad=false->mu (Zw (fr s.step).1.1)+(if decide (YX (fr s.step).1.1<=lev) then 1 else 0)+s.step.mu<=(fr s.step).2.mu:=λb=>by
     have w:=B s.step e k1.hi b;have:(if decide (YX (fr s.step).1.1<=lev) then 1 else 0)=BD (fr s.step).1.1 (lev+1):=by
      unfold BD;by_cases z:YX (fr s.step).1.1<=lev
      ·rw[fw (eY z),fw (by omega)]
      ·rw[fo (by simpa using z),fo (by omega)]
     omega
    split at h
    ·rename_i g;rw[fw g];have w:=y h;show mu (Zw (.mk (Vk 6 ln s.oper.1.1) [l,(fr s.step).1.1]))+BD (.mk (Vk 6 ln s.oper.1.1) [l,(fr s.step).1.1]) lev+s.mu<=_+(fr s.step).2.mu;have p:BD (.mk (Vk 6 ln s.oper.1.1) [l,(fr s.step).1.1]) lev=0:=by unfold BD;rw[A];exact fo (by omega)
     omega
    ·rename_i g;rw[fo g];have C:=dU (ln:=ln) k hu n (l:=.mk (Vk 6 ln s.oper.1.1) [l,(fr s.step).1.1]) (e.ge a) a.hi;have w:=y (C.good h);have D:=a7w k hu B n (l:=.mk (Vk 6 ln s.oper.1.1) [l,(fr s.step).1.1]) (e.ge a) a.hi h;rw[A,fF (show ¬ lev<lev by omega),fF (show ¬ lev=3 from g),IL,fo (by decide)]at D;omega
def e0r{un:PS->(Tm×Int)×PS}(hu:GeU (N+1) un)(i:VUm (N+1) un): ∀ d:Nat,d<=5->VF (N+1) (6 - (d:Int)) (Xn un d)
 | 0,_=>λs b hi h=>by
  have w:=i s b hi h;have:BD (un s).1.1 (6 - ((0:Nat):Int))<=Hz (un s).1.1 s:=by
   unfold BD Hz;split
   ·rename_i q;rw[fw (Ib (by omega))];exact Ih _
   ·exact Ij _
  show mu (Zw (un s).1.1)+BD (un s).1.1 (6 - ((0:Nat):Int))+s.mu<=(un s).2.mu;omega
 | d+1,hd=>λs b hi h=>by
  have e:=Ge.from hu d (by omega);have k1:=e s b hi;have a:=e0r hu i d (by omega);have j:=dU (ln:=(Xn un d s).1.2) (lev:=5 - (d:Int)) (by omega) e (s.l.length+1) (l:=(Xn un d s).1.1) (b.ge k1) k1.hi;rw[Xn]at h ⊢;have k:=a s b hi (j.good h);rw[show(6:Int) - (d:Int)=5 - (d:Int)+1 by omega]at k a;have w2:=a7w (lev:=5 - (d:Int)) (ln:=(Xn un d s).1.2) (by omega) e a (s.l.length+1) (l:=(Xn un d s).1.1) (b.ge k1) k1.hi h;rw[show(6:Int) - ((d+1:Nat):Int)=5 - (d:Int) by omega];have g:(if (decide (YX (Xn un d s).1.1<5 - (d:Int))||(decide (YX (Xn un d s).1.1=3)&&decide (5 - (d:Int)=3))) then 1 else 0)<=BD (Xn un d s).1.1 (5 - (d:Int)+1):=by
   unfold BD;split
   ·rename_i q;simp only[Ip,Cm,fu]at q;rw[fw (by omega)];exact Ih _
   ·exact Ij _
  omega
def i1b(A:FN N ex)(z:VX N ex){un:PS->(Tm×Int)×PS}(hu:GeU (N+1) un)(I:VUm (N+1) un){s:PS}(u:UQ (N+1) s)(hi:s.i<=s.l.length)(h:(exB ex un s).2.bad=false):mu (Zw (exB ex un s).1)+s.mu<=(exB ex un s).2.mu:=by
 unfold exB at h ⊢;dsimp only at h ⊢;split at h
 ·rename_i q;rw[fw q];have a:=Zq q;have m:=Vn q;have m:s.step.mu=s.mu+3:=m;have k1:=IB a;have F:=u.step a;have y:=dM k1.hi;have k3:=Iw (w:=⟨[61]⟩) y.hi;have E:=y.trans k3;have g:=F.ge E;have e:=A _ g k3.hi;have b:=Iw (w:=⟨[105,110]⟩) e.hi;have H:=e.trans b;have r:=g.ge H;have D:=A _ r b.hi;have B:=D.good h;have k:=b.good B;have C:=e.good k;have n1:=Si (s:=s.step) (k3.good C);have j:=SG B;have j:_=(ex (s.step.name.2.need ⟨[61]⟩)).2.mu+2:=j;have w4:=z _ g k3.hi k;have w6:=z _ r b.hi h;have e3:=Vg k3;rw[Qt (nk rfl)];show mu ([108,101,116,32]++s.step.name.1.s++[32,61,32]++(Zw _++[32,105,110,32]++Zw _))+s.mu<=_;rw[ZU,ZU,ZU,ZU,ZU];show 3+_+0+(_+2+_)+s.mu<=(ex ((ex (s.step.name.2.need ⟨[61]⟩)).2.need ⟨[105,110]⟩)).2.mu;omega
 ·rename_i q;rw[fo q];have w:=e0r hu I 5 (by omega) s u hi h;show mu (Zw (Xn un 5 s).1.1)+s.mu<=(Xn un 5 s).2.mu;omega
end
def d6r: ∀ N,VX N (NF N)∧VUm N (unP N)
 | 0=>⟨λt a=>by unfold UQ at a;omega,λt a=>by unfold UQ at a;omega⟩
 | N+1=>by
  obtain⟨g,j⟩:=d6r N;obtain⟨i,hu⟩:=Sl N;have e:=(Sl (N+1)).2;have b:VUm (N+1) (unP (N+1)):=λt a hi h=>by rw[a0y]at h ⊢;exact i6v i g hu j a hi h
  exact⟨λt a hi h=>by
   rw[R8]at h ⊢
   exact i1b i g e b a hi h,b⟩
def g9v{s:List UInt8}(h:(a1x ⟨s⟩).c=0):mu (Zw (a1x ⟨s⟩).a)<=mu s:=by
 unfold a1x at h ⊢;by_cases hc:(Us ⟨s⟩).c=0
 ·rw[fo (by rw[hc];decide)]at h ⊢;by_cases hb:(PQ s).expr.2.endp.bad
  ·rw[fw hb]at h;exact absurd (show(6:Int)=0 from h) (by decide)
  rw[fo hb]at h ⊢;by_cases hg:(PQ s).expr.2.endp.big
  ·rw[fw hg]at h;exact absurd (show(3:Int)=0 from h) (by decide)
  rw[fo hg]at h ⊢;by_cases hv:XB (PQ s).expr.1
  ·rw[fw hv];have hs:=b3d s;have h1:=b0o hs;have b:UQ 4001 (PQ s):=by unfold UQ;omega
   have gd:(PQ s).expr.2.bad=false:=a9b (by simpa using hb);have w:=(d6r 4001).1 (PQ s) b h1.2 gd;have k:=Ge.expr b h1.2;have l1:(PQ s).expr.2.mu<=muL (Us ⟨s⟩).a:=by
    unfold PS.mu;have e:(PQ s).expr.2.l=(Us ⟨s⟩).a:=k.l;rw[e];have:muL (Us ⟨s⟩).a=muL ((Us ⟨s⟩).a.take (PQ s).expr.2.i)+muL ((Us ⟨s⟩).a.drop (PQ s).expr.2.i):=by rw[<- El,IK]
    omega
   have l2:=g9d s;have w:mu (Zw (PQ s).expr.1)+(PQ s).mu<=(PQ s).expr.2.mu:=w;show mu (Zw (PQ s).expr.1)<=mu s;omega
  ·rw[fo hv]at h;exact absurd (show(3:Int)=0 from h) (by decide)
 ·rw[fw hc]at h;exact absurd h hc
end
section
def j3g{n m:Nd}{ks ls:List Tm}(h:eqM (.mk n ks) (.mk m ls)):m={n with line:=m.line}∧Tw ks ls:=by rw[eqM]at h;unfold f0p at h;simp only[Cm,fu,ig]at h;obtain⟨h1,h2,h3,e,g,b,i,a,j⟩:=h;refine⟨?_,j⟩;cases n;cases m;simp only at h1 h2 h3 e g b i a;subst h1 h2 h3 e g b i a;rfl
mutual
def c0r: ∀ {a b:Tm},eqM a b->(YX a,numM a,Zw a)=(YX b,numM b,Zw b)
 | .mk n ks,.mk m ls,h=>by obtain⟨e,g⟩:=j3g h;obtain⟨j,i⟩:=a8c g;rw[e,Zw,Zw,j];show(Tv n ks.length,numM (.mk n ks),HV n (Yp ls))=(Tv n ls.length,numM (.mk n ls),HV n (Yp ls));rw[i];rfl
def a8c: ∀ {ks ls:List Tm},Tw ks ls->Yp ks=Yp ls∧ks.length=ls.length
 | [],[],_=>⟨rfl,rfl⟩
 | [],b::ls,h=>by rw[Tw]at h;cases h;all_goals contradiction
 | a::ks,[],h=>by rw[Tw]at h;cases h;all_goals contradiction
 | a::ks,b::ls,h=>by rw[Tw,Cm]at h;obtain⟨e,g⟩:=a8c h.2;rw[Yp,Yp,e,c0r h.1,IP,IP,g];exact⟨rfl,rfl⟩
end
def npP(s:List UInt8):Prop:= ∀ b∈s,b≠40∧b≠41
def BI{a b:List UInt8}(h:npP a)(k:npP b):npP (a++b):=λx e=>(bW.1 e).elim (h x) (k x)
def a1d{s:List UInt8}(h:s.all Ml):npP s:=λb hb=>by
 have:=Ir.1 h b hb;unfold Ml digB lowB at this;simp only[Ip,Cm,fu,I9]at this;have i:(48:UInt8).toNat=48:=rfl;have g:(97:UInt8).toNat=97:=rfl;rw[i,g]at this;refine⟨λe=> ?_,λe=> ?_⟩
 ·subst e;have a:(40:UInt8).toNat=40:=rfl;rw[a]at this;omega
 ·subst e;have a:(41:UInt8).toNat=41:=rfl;rw[a]at this;omega
def d3v{s:List UInt8}(h:s.all digB):npP s:=a1d (Ir.2 λb hb=>by unfold Ml;rw[Ir.1 h b hb];rfl)
def Oy(n:Int):npP (Hy n):=by
 unfold Hy;by_cases h:n<0
 ·rw[Hu h];intro b hb;rcases I4.1 hb with rfl|hb
  ·decide
  ·exact d3v (PT _).1 b hb
 ·rw[J9 h];exact d3v (PT _).1
def BK{s:List UInt8}(h:nameI s):s.all Ml:=by
 cases s with
 | nil=>cases h
 | cons c r=>unfold nameI at h;simp only[Cm]at h;rw[aO,h.1.1.2];unfold Ml;rw[h.1.1.1,IV];rfl
def h9u{s:List UInt8}(h:Mm s):npP s:=by
 unfold Mm at h;rw[Ip]at h;rcases h with h|h
 ·exact a1d (BK h)
 ·unfold fullI at h;have e:s=(s.takeWhile λc=>c != 46)++(s.dropWhile λc=>c != 46):=(aB ..).symm;cases q:(s.dropWhile λc=>c != 46)with
  | nil=>rw[q]at h;cases h
  | cons c r=>
   rw[q]at h e;have h:(nameI (s.takeWhile λc=>c != 46)&&nameI r):=h;rw[Cm]at h;have hc:c=46:=by have:=List.head?_dropWhile_not (λc:UInt8=>c != 46) s;rw[q]at this;simpa using this
   rw[e];refine BI (a1d (BK h.1)) λb hb=> ?_
   rcases I4.1 hb with rfl|hb
   ·rw[hc];decide
   ·exact a1d (BK h.2) b hb
def d1a{s:List UInt8}(h:s.all (λb=>b != 40&&b != 41)):npP s:=λb hb=>by have:=Ir.1 h b hb;simpa using this
def h2w{v:Str}(h:nameB v):npP v.s:=by
 obtain⟨w⟩:=v;unfold nameB at h;cases w with
 | nil=>cases h
 | cons c r=>
  dsimp only at h;split at h
  ·rename_i q;simp only[Cm]at h;subst q;exact BI (a:=[95]) (d1a (by decide)) (d3v h.1.1.1)
  ·simp only[Cm]at h;refine a1d (s:=c::r) ?_;rw[aO];have h1:Ml c:=by unfold Ml;rw[h.1.1,IV]
   have h2:r.all Ml:=by
    rw[Ir];intro b hb
    have:=Ir.1 h.1.2 b hb;unfold Ml;rw[bu];exact this
   rw[h1,h2];rfl
def h0a{a b:List UInt8}(h:npP a):npP (I1 a b):=by
 unfold I1;split
 ·exact λx e=>h x (ak e)
 ·exact h
def d7u{o s:List UInt8}{n:Int}(ho:npP o)(hs:npP s):npP (Wj o n s):=by
 unfold Wj;refine BI ?_ (BI ?_ hs)
 ·split
  ·exact BI ho (by intro b hb;simp at hb;subst hb;decide)
  ·exact ho
 ·split
  ·exact h0a (Oy n)
  ·exact Oy n
def c0f(l:Lin):npP (YD l):=by
 unfold YD;split
 ·rename_i g;have a : ∀ (ts:List Coef) (o:List UInt8),(∀ t∈ts,npP t.v.s)->npP o->npP (ts.foldl (λo t=>Wj o t.c t.v.s) o):=by
   intro ts
   induction ts with
   | nil=>intro o _ h;exact h
   | cons t ts ih=>intro o h k;exact ih _ (λu hu=>h u (by simp[hu])) (d7u k (h t (by simp)))
  have e:npP (Az l.t):=a l.t [] (λt ht=>h2w (XA g ht).1) (λb hb=>by cases hb);split
  ·exact d7u e (λb hb=>by cases hb)
  ·exact e
 ·exact λb hb=>by cases hb
def OZ(s:List UInt8):Prop:=(∀ n,(s.take n).count 41<=(s.take n).count 40)∧s.count 41=s.count 40
def Q9{s:List UInt8}(h:npP s):OZ s:=by
 have z : ∀ u:List UInt8,(∀ b∈u,b∈s)->u.count 41=0:=λu hu=>bE.2 λhb=>(h _ (hu _ hb)).2 rfl
 have a:s.count 40=0:=bE.2 λhb=>(h _ hb).1 rfl
 exact⟨λn=>by rw[z _ λb hb=>ak hb];exact Ij _,by rw[z s λb hb=>hb,a]⟩
def YI{a b:List UInt8}(h:OZ a)(k:OZ b):OZ (a++b):=by
 refine⟨λn=> ?_,by rw[Iu,Iu,h.2,k.2]⟩;rw[bN,Iu,Iu];rcases bz n a.length with q|q
 ·rw[show n - a.length=0 by omega,List.take_zero]
  have:=h.1 n;simp only[List.count_nil];omega
 ·rw[List.take_of_length_le q,h.2]
  have:=k.1 (n - a.length);omega
def EY{a:List UInt8}(h:OZ a):OZ (40::(a++[41])):=by
 refine⟨λn=> ?_,?_⟩
 ·cases n with
  | zero=>exact Ih _
  | succ n=>rw[List.take_succ_cons,bN,IG,IG,Iu,Iu];have h1:=h.1 n;have h2:(Il (n - a.length) ([41]:List UInt8)).count 41<=1:=bC List.count_le_length (by rw[IX];exact Nat.min_le_right _ _);rw[fo (by decide),fw (by decide)];omega
 ·rw[IG,IG,Iu,Iu,h.2];rfl
def a2r{p a:List UInt8}(b:npP p)(h:OZ a):OZ ((p++[40])++a++[41]):=by rw[bJ,bJ];exact YI (Q9 b) (EY h)
def b3u{b:Bool}{s:List UInt8}(h:OZ s):OZ (KY b s):=by
 unfold KY;split
 ·exact EY h
 ·exact h
def SH:OZ []:=⟨λn=>by simp,rfl⟩
def XI{s:List UInt8}(h:s.all (λb=>b != 40&&b != 41)):OZ s:=Q9 λb hb=>by have:=Ir.1 h b hb;simpa using this
def JK: ∀ {l:List (List UInt8)},(∀ s∈l,OZ s)->OZ (Yg l)
 | [],_=>SH
 | [s],h=>by rw[Yg];exact h s (by simp)
 | s::t::r,h=>by
  rw[Yg]
  ·exact YI (YI (h s (by simp)) (XI (by decide))) (JK λu hu=>h u (by simp[hu]))
  ·intro e;cases e
def b9o: ∀ l:List Int,npP (UJ l)
 | []=>λb hb=>by cases hb
 | [n]=>by rw[UJ];exact Oy n
 | n::m::r=>by
  rw[UJ]
  ·exact BI (BI (Oy n) (by intro b hb;simp at hb;subst hb;decide)) (b9o (m::r))
  ·intro e;cases e
def h5o(a:Arr):OZ (AJ a):=by
 unfold AJ;refine YI (YI (YI (YI ?_ (Q9 (b9o _))) (XI (by decide))) (Q9 λb hb=> ?_)) (XI (by decide))
 ·split
  ·exact XI (by decide)
  ·exact XI (by decide)
 ·obtain⟨n,_,hb⟩:=List.mem_flatMap.1 hb;exact BI (a:=[32]) (by intro b hb;simp at hb;subst hb;decide) (Oy n) b hb
def g0u{n:Nd}{k:Nat}{r:OpR}(h:Ah n k=some r):OZ r.s:=by
 have : ∀ r∈XY,r.s.all (λb=>b != 40&&b != 41):=by decide
 exact XI (this r (g1n (a0s h).1).1)
def f9d{n:Nd}{ks:List (List UInt8)}(hn:npP n.name.s)(a : ∀ s∈ks,OZ s):OZ (QE n ks):=by
 unfold QE;refine YI (YI (YI (YI (Q9 hn) ?_) ?_) ?_) (EY (JK a))
 ·split
  ·exact SH
  ·refine YI (YI (XI (by decide)) (JK λs h=> ?_)) (XI (by decide));obtain⟨l,_,rfl⟩:=bF.1 h;exact Q9 (c0f l)
 ·split
  ·exact SH
  ·exact YI (YI (XI (by decide)) (Q9 (Oy _))) (XI (by decide))
 ·split
  ·exact SH
  ·refine a2r (p:=[64]) (by intro b hb;simp at hb;subst hb;decide) (JK λs h=> ?_);obtain⟨l,_,rfl⟩:=bF.1 h;exact Q9 (Oy l)
def h2e{n:Nd}{ks:List (Int×Bool×List UInt8)}(e:Ux n ks.length)(g : ∀ x∈ks,OZ x.2.2):OZ (HV n ks):=by
 have hm : ∀ s∈ks.map (·.2.2),OZ s:=λs h=>by obtain⟨x,j,rfl⟩:=bF.1 h;exact g x j
 unfold Ux XO at e;simp only[Cm]at e;replace e:=e.2;unfold HV;split
 ·rename_i r k ho;exact YI (g0u ho) (b3u (g k (by simp)))
 ·rename_i r a b ho;exact YI (YI (YI (YI (b3u (g a (by simp))) (XI (by decide))) (g0u ho)) (XI (by decide))) (b3u (g b (by simp)))
 ·rename_i ks o k2 hx1 hx2;split at e
  ·rename_i h;rw[fw h];simp only[Cm]at e;exact Q9 (a1d (BK e.1.1.1.2))
  ·rename_i h;rw[fo h];split at e
   ·rename_i h;rw[fw h];unfold b1c;split
    ·exact Q9 (Oy _)
    ·split
     ·exact XI (by decide)
     ·exact XI (by decide)
   ·rename_i h;rw[fo h];split at e
    ·rename_i h;rw[fo (by omega),fo (by omega),fo (by omega),fo (by omega),fo (by omega),fo (by omega)];exact h5o _
    ·split at e
     ·rename_i h;rw[fw h];refine YI (YI (XI (by decide)) ?_) (XI (by decide));split
      ·exact SH
      ·exact Q9 (c0f _)
     ·rename_i h;rw[fo h];split at e
      ·rename_i h;rw[fw h];simp only[Cm,fu]at e;refine YI (YI (YI (XI (by decide)) (Q9 (a1d (BK e.1.1.1.2)))) (XI (by decide))) ?_;split
       ·rename_i a b;exact YI (YI (g a (by simp)) (XI (by decide))) (g b (by simp))
       ·exact SH
      ·rename_i h;rw[fo h];split at e
       ·rename_i h;rw[fw h];unfold callB at e;simp only[Cm]at e;exact f9d (h9u e.2.1.1.1.1.1.1.1) hm
       ·rename_i h;rw[fo h];split at e
        ·rename_i h;rw[fw h];exact YI (YI (XI (by decide)) (JK hm)) (XI (by decide))
        ·rename_i h;rw[fo h];have hc (i:Mm n.name.s):OZ (Yg (n.name.s::ks.map (·.2.2))):=JK λs hs=>by
          rcases I4.1 hs with rfl|hs
          ·exact Q9 (h9u i)
          ·exact hm s hs
         split at e
         ·rename_i h;rw[fw h];simp only[Cm]at e;exact a2r (p:=[102,111,108,100]) (d1a (by decide)) (hc e.1.1.1.2)
         ·rename_i h;rw[fo h];split at e
          ·rename_i h;rw[fw h];simp only[Cm]at e;exact a2r (p:=[115,99,97,110]) (d1a (by decide)) (hc e.1.1.1.2)
          ·cases e
mutual
def c1g: ∀ t:Tm,XH t->OZ (Zw t)
 | .mk n ks,h=>by have h2:=BV h;rw[Zw];refine h2e (by rw[VD,aC];exact h2.1) (a7n ks ?_);rw[XH,Cm]at h;exact h.2
def a7n: ∀ ks:List Tm,QA ks-> ∀ x∈Yp ks,OZ x.2.2
 | [],_=>by simp[Yp]
 | k::ks,h=>by
  rw[QA,Cm]at h;intro x a;rw[Yp]at a;rcases I4.1 a with rfl|a
  ·exact c1g k h.1
  ·exact a7n ks h.2 x a
end
def Bv:List UInt8->Int->Nat->Option Nat
 | [],_,_=>none
 | c::r,d,i=>if c=41 then(if d - 1=0 then some i else Bv r (d - 1) (i+1))else Bv r (if c=40 then d+1 else d) (i+1)
def a7e(s:List UInt8)(i:Nat):Int:=match Bv (s.drop i) 0 i with
 | some k=>k
 | none=> -1
def Sg: ∀ {r:List UInt8} {d:Int} {i:Nat},1<=d->Bv r d i=none->(r.count 41:Int)<d+r.count 40
 | [],d,i,h,_=>by simp;omega
 | c::r,d,i,h,q=>by
  rw[Bv]at q;rw[IG,IG];by_cases c1:c=41
  ·subst c1;rw[fw rfl]at q;by_cases d1:d - 1=0
   ·rw[fw d1]at q;cases q
   ·rw[fo d1]at q
    have:=Sg (by omega) q;rw[fw (by decide),fo (by decide)];omega
  ·rw[fo c1]at q;rw[fo (by simpa using c1)];by_cases c0:c=40
   ·subst c0;rw[fw rfl]at q
    have:=Sg (by omega) q;rw[fw (by decide)];omega
   ·rw[fo c0]at q
    have:=Sg h q;rw[fo (by simpa using c0)];omega
def MW: ∀ {r:List UInt8} {d:Int} {i k:Nat},Bv r d i=some k-> ∃ j,k=i+j∧r[j]? = some 41
 | [],d,i,k,q=>by cases q
 | c::r,d,i,k,q=>by
  rw[Bv]at q;by_cases c1:c=41
  ·rw[fw c1]at q;by_cases d1:d - 1=0
   ·rw[fw d1]at q;cases q;exact⟨0,rfl,by rw[c1];rfl⟩
   ·rw[fo d1]at q;obtain⟨j,b,a⟩:=MW q;exact⟨j+1,by omega,a⟩
  ·rw[fo c1]at q;obtain⟨j,b,a⟩:=MW q;exact⟨j+1,by omega,a⟩
def f8u{s:List UInt8}(hs:OZ s){i:Nat}(hi:i<s.length)(h:s[i]=40): ∃ k,∃ a:k<s.length,Bv (s.drop i) 0 i=some k∧i<k∧s[k]=41:=by
 have e:s.drop i=40::s.drop (i+1):=by rw[IE hi,h]
 rw[e];show ∃ k,∃ a:k<s.length,Bv (s.drop (i+1)) 1 (i+1)=some k∧i<k∧s[k]=41;cases q:Bv (s.drop (i+1)) 1 (i+1)with
 | none=>exfalso;have h1:=Sg (by decide) q;have h2:=hs.1 i;have h3:=hs.2;rw[<- IK i s,Iu,Iu,e,IG,IG,fo (by decide),fw (by decide)]at h3;omega
 | some k=>obtain⟨j,g,b⟩:=MW q;rw[List.getElem?_drop]at b;obtain⟨a,l⟩:=List.getElem?_eq_some_iff.1 b;have r:k=i+1+j:=g;subst r;exact⟨_,a,rfl,by omega,l⟩
def VM(s:List UInt8)(i k:Nat):List UInt8:=s.take i++[32]++(s.take k).drop (i+1)++[32]++s.drop (k+1)
def h3q{s:List UInt8}{i k:Nat}(a:k<s.length)(hik:i<k)(h1:s[i]'(by omega)=40)(h2:s[k]=41):mu (VM s i k)+1=mu s:=by
 have hi:i<s.length:=by omega
 have e1:mu s=mu (s.take k)+mu (s.drop k):=by rw[<- ZU,IK]
 have e2:mu (s.take k)=mu (s.take i)+mu ((s.take k).drop i):=by rw[<- ZU,show s.take i=(s.take k).take i by rw[List.take_take,Nat.min_eq_left (by omega)],IK]
 have l:i<(s.take k).length:=by rw[IX];omega
 have b:(s.take k).drop i=40::(s.take k).drop (i+1):=by rw[IE l,List.getElem_take,h1]
 have e:s.drop k=41::s.drop (k+1):=by rw[IE a,h2]
 have e5:mu ((s.take k).drop i)=mu ((s.take k).drop (i+1))+1:=by rw[b,b6i];rfl
 have e6:mu (s.drop k)=mu (s.drop (k+1)):=by rw[e,b6i];rfl
 have z:mu [32]=0:=by decide
 unfold VM;rw[ZU,ZU,ZU,ZU];omega
def c6e{t:Tm}{i k:Nat}(h:k<(Zw t).length)(b:i<k)(h1:(Zw t)[i]'(by omega)=40)(h2:(Zw t)[k]=41)(hc:(XT ⟨VM (Zw t) i k⟩).c=0):eqM (XT ⟨VM (Zw t) i k⟩).a t=false:=by
 cases e:eqM (XT ⟨VM (Zw t) i k⟩).a t with
 | false=>rfl
 | true=>exfalso;have h3:Zw (XT ⟨VM (Zw t) i k⟩).a=Zw t:=(Prod.mk.inj (Prod.mk.inj (c0r e)).2).2;rw[<- a7m]at hc h3;have g:=g9v hc;have h5:=h3q h b h1 h2;rw[h3]at g;omega
end
set_option maxRecDepth 100000
noncomputable def Cq:IC:=Xx Proofs.Tryz.f7
def CU:List IRes:=[.tmp 4]
abbrev i5z:Nat:=29
noncomputable def PR:ZH:=YT []
def i9v{G:PV->Prop}(s:List UInt8)(a:Int):=Vo (At PR 0 (Za CU G) Cq 0 29 [Zg s,(5,Zj),(6,Zv a)] []) G (.nil) PR CU Cq (Z7 29 (Jd s a)) (by delta Zg Zj Zv;exact rfl)
def g0n{G:PV->Prop}(s:List UInt8)(a:Int)(d i:Int):=VP (if (VW i s) then(Uk i s)=true∧(if ((↑(KR s i):Int)==40) then(Uk i s)=true∧(if ((↑(KR s i):Int)==41) then if (IQ Ia (IQ Ia (d+1) - 1)==0)=true then G (.int .i64 i)else(At PR 0 (Za CU G) Cq 0 29 [Zg s,(5,.pv (.int .i64 (IQ Ia (IQ Ia (d+1) - 1)))),(6,ZY i)] [])else(At PR 0 (Za CU G) Cq 0 29 [Zg s,(5,ZY d),(6,ZY i)] []))else((Uk i s)∧(if ((↑(KR s i):Int)==41) then if (IQ Ia (d - 1)==0)=true then G (.int .i64 i)else(At PR 0 (Za CU G) Cq 0 29 [Zg s,(5,.pv (.int .i64 (NG d))),(6,ZY i)] [])else(At PR 0 (Za CU G) Cq 0 29 [Zg s,(5,Zv d),(6,ZY i)] []))))else(G (.int .i64 (-1)))) G (dm [] 48 0x202000142200942102020001422009421201242102942) PR CU Cq 0 29 [Zg s,(5,Zv d),(6,Zv i)] [] (by delta VW Uk KR Zg Yx ZY NG Zv;exact rfl)
noncomputable def U5:IC:=Xx Proofs.Tryz.f3
def Qc:List IRes:=[.tmp 2]
abbrev i6b:Nat:=127
noncomputable def Ha:ZH:=YT [(4,.pure (preT (λ_:Unit=>true)) (Zp (λ_:Unit=>true))),(5,.pure (preT (λx:Tm×Unit=>tW x.1)) (Zp (λx:Tm×Unit=>Qj x.1))),(6,.pure (preT (λx:Tm×Int×Unit=>tW x.1)) (Zp (λx:Tm×Int×Unit=>Nw x.1 x.2.1))),(7,.pure (preT (λx:Str×Int×Unit=>decide (0<=x.2.1)&&(decide (x.2.1<=x.1.s.length)&&decide (x.1.s.length<=1048576)))) (Zp (λx:Str×Int×Unit=>a7e x.1.s x.2.1.toNat))),(8,.pure (preT (λx:Str×Unit=>decide (x.1.s.length<=1048576))) (Zp (λx:Str×Unit=>r3S (XT x.1)))),(9,.pure (preT (λx:Tm×Tm×Unit=>tW x.1&&tW x.2.1)) (Zp (λx:Tm×Tm×Unit=>eqM x.1 x.2.1)))]
def j0x{G:PV->Prop}(n:Nd)(ks:List Tm):=Vo (∃ b:Bool,(AV.pv (Zp (λ(x:Unit)=>true) [])=AV.pv (enc b))∧(if (!b) then G (.bool false)else((Go.Pl.preT (λ(x:Tm×Unit)=>tW x.1) (ndA n ks))∧(∃ a:Str×Int,(AV.pv (Zp (λ(x:Tm×Unit)=>Qj x.1) (ndA n ks))=AV.pv (enc a))∧((Go.Pl.preT (λ(x:Tm×Int×Unit)=>tW x.1) [QW n ks,.int .i64 30])∧(∃ e:Bool,(AV.pv (Zp (λ(x:Tm×Int×Unit)=>Nw x.1 x.2.1) [QW n ks,.int .i64 30])=AV.pv (enc e))∧(if (!e) then G (.bool true)else(if (a.2 != 0) then G (.bool true)else(At Ha 0 (Za Qc G) U5 0 127 [(1,.ptr 0 0),(3,.pv (.str (Str.s a.1))),(5,Zj)] [Xc n ks]))))))))) G (dm [dv Bool,dv (Str×Int)] 29 0x142220222004451610001452) Ha Qc U5 (Z7 127 [Ke n ks]) (by delta YU WL Wo Wv VK XX XL Y0 QW Zj Xc;exact rfl)
def f4v(b:Int)(Zl:List UInt8)(a:Int):List PV:=[.str (Im 0 (Il (Ii b) Zl)++[(32:UInt8)]++Im (Ag b) (Il (Ii a) Zl)++[(32:UInt8)]++Im (Ag a) (Il (Ic Zl) Zl))]
def FI(a:List UInt8)(Zl:Int):List (Nat×AV):=[(1,.ptr 0 0),(3,.pv (.str a)),(5,ZY Zl)]
def h0q(G:PV->Prop)(n:Nd)(ks:List Tm)(s:List UInt8)(i:Int):Prop:=(Go.Pl.preT (λ(x:Str×Int×Unit)=>decide (0<=Ik (I7 x))&&(decide (Ik (I7 x)<=(↑(Ic (Str.s (Ik x))):Int))&&decide (Ic (Str.s (Ik x))<=1048576))) (Jd s i))=true∧(∃ b:Int,(AV.pv (Zp (λ(x:Str×Int×Unit)=>a7e (Str.s (Ik x)) (Ii (Ik (I7 x)))) (Jd s i))=AV.pv (enc b))∧(if (decide (b<0)) then G (.bool false)else((c4q i s)∧((decide (Ic (Im 0 (Il (Ii i) s))+Ic [(32:UInt8)]<=1099511627776))∧((decide (0<=IQ Ia (i+1))&&decide (0<=b)&&decide (Ii (Yx i)<=Ii b)&&decide (Ii b<=Ic s))∧((decide (Ic (Im 0 (Il (Ii i) s)++[(32:UInt8)])+Ic (Im (Ag i) (Il (Ii b) s))<=1099511627776))∧((decide (Ic (Im 0 (Il (Ii i) s)++[(32:UInt8)]++Im (Ag i) (Il (Ii b) s))+Ic [(32:UInt8)]<=1099511627776))∧((d0v b s)∧((decide (Ic (Im 0 (Il (Ii i) s)++[(32:UInt8)]++Im (Ag i) (Il (Ii b) s)++[(32:UInt8)])+Ic (Im (Ag b) (Il (Ic s) s))<=1099511627776))∧((Go.Pl.preT (λ(x:Str×Unit)=>decide (Ic (Str.s (Ik x))<=1048576)) (f4v i s b))∧(∃ e:R3 TS Int Int,(AV.pv (Zp (λ(x:Str×Unit)=>r3S (XT (Ik x))) (f4v i s b))=AV.pv (enc e))∧(if (R3.c e==0) then(Go.Pl.preT (λ(x:Tm×Tm×Unit)=>tW (Ik x)&&tW (Ik (I7 x))) [eS (R3.a e),QW n ks])=true∧(∃ g:Bool,(AV.pv (Zp (λ(x:Tm×Tm×Unit)=>eqM (Ik x) (Ik (I7 x))) [eS (R3.a e),QW n ks])=AV.pv (enc g))∧(if (g) then G (.bool false)else(At Ha 0 (Za Qc G) U5 0 127 (FI s i) [Xc n ks])))else(At Ha 0 (Za Qc G) U5 0 127 (FI s i) [Xc n ks])))))))))))))
def Ng(a:Int)(Zl:List UInt8):Bool:=decide (0<=IQ Ia (a - 1))&&decide (Ii (IQ Ia (a - 1))<Ic Zl)
def NH(a:List UInt8)(Zl:Int):Nat:=dB (I8 a (Ii (NG Zl)) (0:UInt8))
def a2h(a:List UInt8)(Zl:Int):List (Nat×AV):=[(1,.ptr 0 0),(3,.pv (.str a)),(5,.pv (.int .i64 (Yx Zl)))]
def i4l(a:Int)(Zl:List UInt8)(b:PV->Prop)(e:Nd)(g:List Tm):Prop:=(Ng a Zl)=true∧(if ((↑(NH Zl a):Int)==93) then At Ha 0 (Za Qc b) U5 0 127 (a2h Zl a) [Xc e g]else((Ng a Zl)∧(if ((↑(NH Zl a):Int)==125) then At Ha 0 (Za Qc b) U5 0 127 (a2h Zl a) [Xc e g]else((Ng a Zl)∧(if ((↑(NH Zl a):Int)==41) then At Ha 0 (Za Qc b) U5 0 127 (a2h Zl a) [Xc e g]else((Ng a Zl)∧(if ((↑(NH Zl a):Int)==64) then At Ha 0 (Za Qc b) U5 0 127 (a2h Zl a) [Xc e g]else(h0q b e g Zl a))))))))
def c6z(a:Int)(Zl:List UInt8)(b:PV->Prop)(e:Nd)(g:List Tm):Prop:=(Ng a Zl)=true∧(if (decide ((↑(NH Zl a):Int) ≥ 48)) then(Ng a Zl)=true∧(if (decide ((↑(NH Zl a):Int)<=57)) then At Ha 0 (Za Qc b) U5 0 127 (FI Zl a) [Xc e g]else(i4l a Zl b e g))else(i4l a Zl b e g))
def f4t{G:PV->Prop}(n:Nd)(ks:List Tm)(s:List UInt8)(i:Int):=VP (if (VW i s) then(Uk i s)=true∧(if ((↑(KR s i):Int) != 40) then At Ha 0 (Za Qc G) U5 0 127 (FI s i) [Xc n ks]else(if (decide (i>0)) then(Ng i s)=true∧(if (decide ((↑(NH s i):Int) ≥ 97)) then(Ng i s)=true∧(if (decide ((↑(NH s i):Int)<=122)) then At Ha 0 (Za Qc G) U5 0 127 (FI s i) [Xc n ks]else(c6z i s G n ks))else(c6z i s G n ks))else(h0q G n ks s i)))else(V3 G)) G (dm [dv Int,dv (R3 TS Int Int),dv Bool] 965 0x2222202000142712200c4261112111211000142512222222222222222222202222202000142712200c42611121112110001425102002422222221222202222222222200c422222122220222222222222222222201442222212222022222222222222222222222222201c42222212222222222222202222202000142712200c42611121112110001425102002422222221222202222222222200c422222122220222222222222222222201442222212222022222222222222222222222222201c4222221222202222222222222222222222222222222222202442222222122220d64222122222222222202222202000142712200c42611121112110001425102002422222221222202222222222200c422222122220222222222222222222201442222212222022222222222222222222222222201c42222212222222222222202222202000142712200c42611121112110001425102002422222221222202222222222200c422222122220222222222222222222201442222212222022222222222222222222222222201c4222221222202222222222222222222222222222222222202442222222122220d6422212222022222222222222222222222222222222222222222222202e422222122221ca42221222236c422202222220074213be42) Ha Qc U5 0 127 [(1,.ptr 0 0),(3,.pv (.str s)),(5,Zv i)] [QJ n ks] (by delta VW Uk KR Yx ZY FI Xc Ng NG NH a2h i4l c6z V3;exact rfl)
def g7k(r:R3 Tm Int Int):(enc r:PV)=enc (r3S r):=by obtain⟨a,b,c⟩:=r;show PV.tup [enc a,enc b,enc c]=PV.tup [enc (KD a),enc b,enc c];rw[b1y]
def c3a(s:Str):tW (a1x s).a:=by
 unfold a1x;split
 ·rfl
 ·split
  ·rfl
  ·split
   ·rfl
   ·split
    ·rename_i h1 h2 h3 h4;have hb:=b3d s.s;have b:Xr (PQ s.s).l:=(Ez ⟨s.s⟩).1;exact e0n hb b (a9b (by simpa using h2))
    ·rfl
def b9q{c:UInt8}{n:Nat}(hn:n<256):((c.toNat:Nat):Int)=(n:Int) ↔ c=UInt8.ofNat n:=by
 constructor
 ·intro h;have h:c.toNat=n:=by omega
  rw[<- h,UInt8.ofNat_toNat]
 ·intro h;rw[h,UInt8.toNat_ofNat',Nat.mod_eq_of_lt hn]
def e1d(s:List UInt8)(hs:s.length<=1048576): ∀ (n i:Nat) (d:Int),i+n=s.length-> -(i:Int)<=d->d<=(i:Int) ->
  At PR 0 (Za CU (Ze (match Bv (s.drop i) d i with|some k=>(k:Int)|none=> -1))) Cq 0 29 [(0,.pv (.str s)),(5,.pv (.int .i64 d)),(6,.pv (.int .i64 (i:Int)))] []
 | 0,i,d,e,_,_=>by refine g0n s 0 d i (Z5 (Xh (by omega)) ?_);rw[ae (by omega)];exact⟨rfl,rfl⟩
 | n+1,i,d,e,h1,h2=>by
  have b:i<s.length:=by omega
  have l:I8 s (Ii (i:Int)) (0:UInt8)=s[i]:=by rw[Iy];simp[I8,b]
  have a:(decide (0<=(i:Int))&&decide (Ii (i:Int)<s.length)):=by simp;omega
  have g:Ia.wrap ((i:Int)+1)=((i+1:Nat):Int):=next (by omega)
  have r:Ia.wrap (d+1)=d+1:=Xf (by omega) (by omega);have j:Ia.wrap (d - 1)=d - 1:=Xf (by omega) (by omega);refine g0n s 0 d i (ZZ (Xd b) ?_);rw[l,g,j,IE b,Bv];refine⟨a,ZP (λh=> ?_) λh=> ?_⟩
  ·have hc:s[i]=40:=(b9q (n:=40) (by decide)).1 h;rw[fo (show ¬ s[i]=41 by rw[hc];decide),fw hc,r];refine⟨a,ZP (λq=> ?_) λ_=> ?_⟩
   ·rw[hc]at q;exact absurd q (by decide)
   ·exact e1d s hs n (i+1) (d+1) (by omega) (by omega) (by omega)
  ·have hc : ¬ s[i]=40:=λq=>h ((b9q (n:=40) (by decide)).2 q)
   refine⟨a,ZP (λq=> ?_) λq=> ?_⟩
   ·have hd:s[i]=41:=(b9q (n:=41) (by decide)).1 q;rw[fw hd];refine ZP (λz=> ?_) λz=> ?_
    ·rw[fw z];exact⟨rfl,rfl⟩
    ·rw[fo z];exact e1d s hs n (i+1) (d - 1) (by omega) (by omega) (by omega)
   ·have hd : ¬ s[i]=41:=λz=>q ((b9q (n:=41) (by decide)).2 z)
    rw[fo hd,fo hc];exact e1d s hs n (i+1) d (by omega) (by omega) (by omega)
def h3m: ∀ x:Str×Int×Unit,(decide (0<=x.2.1)&&(decide (x.2.1<=x.1.s.length)&&decide (x.1.s.length<=1048576)))->Zh PR 0 (Za CU (Ze (a7e x.1.s x.2.1.toNat))) Cq [] (Z7 i5z (encL x)):=by rintro⟨⟨s⟩,a,⟨⟩⟩ h;have h:(decide (0<=a)&&(decide (a<=(s.length:Int))&&decide (s.length<=1048576))):=h;simp only[Cm,fu]at h;obtain⟨h1,h2,h3⟩:=h;obtain⟨i,rfl⟩:=Int.eq_ofNat_of_zero_le h1;have g:=e1d s h3 (s.length - i) i 0 (by omega) (by omega) (by omega);exact i9v s i g
def h6m{α β:Type}[EncL α][Enc β]{F:α->β}{ps:List PV}{P:β->Prop}{v:β}(a:α)(h:ps=encL a)(b:F a=v)(k:P v): ∃ y,AV.pv (Zp F ps)=AV.pv (enc y)∧P y:=Zc a h (by rw[b];exact k)
def j6u{c:Prop}[Decidable c]{P Q:Prop}(h:P)(k:Q):if c then P else Q:=by by_cases q:c;rw[fw q];exact h;rw[fo q];exact k
set_option maxHeartbeats 1000000 in
def j1s(n:Nd)(ks:List Tm)(C:tW (.mk n ks))(A:XH (.mk n ks))(hl:(Zw (.mk n ks)).length<=20000){i:Nat}(hi:i<(Zw (.mk n ks)).length)(b:(Zw (.mk n ks))[i]=40)
  (hn:At Ha 0 (Za Qc (Ze true)) U5 0 127 [(1,.ptr 0 0),(3,.pv (.str (Zw (.mk n ks)))),(5,.pv (.int .i64 ((i+1:Nat):Int)))] [.obj (.box (Xu n ks))]):h0q (Ze true) n ks (Zw (.mk n ks)) i:=by
 obtain⟨k,j,u,D,r⟩:=f8u (c1g _ A) hi b;have E:= @c6e (.mk n ks) i k j D b r;generalize hs:Zw (.mk n ks)=s at *;have y:a7e s ((i:Int)).toNat=(k:Int):=by rw[Iy];unfold a7e;rw[u]
 have z:Ia.wrap ((i:Int)+1)=((i+1:Nat):Int):=next (by omega)
 have l:Ia.wrap ((k:Int)+1)=((k+1:Nat):Int):=next (by omega)
 have es:Im 0 (Il (Ii (i:Int)) s)++[(32:UInt8)]++Im (Ii ((i+1:Nat):Int)) (Il (Ii (k:Int)) s)++[(32:UInt8)]++Im (Ii ((k+1:Nat):Int)) (Il (Ic s) s)=VM s i k:=by unfold VM;rw[Iy,Iy,Iy,Iy,II,List.take_length]
 have e : ∀ {n:Nat},n<=1000000->decide (n<=1099511627776):=λh=>eY (by omega)
 have lp:(VM s i k).length<=1000000:=by unfold VM;simp;omega
 have ti:(Il (Ii (i:Int)) s).length<=20000:=by rw[IX];omega
 have tk:(Im (Ii ((i+1:Nat):Int)) (Il (Ii (k:Int)) s)).length<=20000:=by rw[IM,IX];omega
 have td:(Im (Ii ((k+1:Nat):Int)) (Il (Ic s) s)).length<=20000:=by rw[IM,IX];omega
 unfold h0q;delta Jd c4q d0v f4v Ag Yx FI Xc ZY;refine⟨Zb ((⟨s⟩:Str),(i:Int),()) rfl ?_,h6m ((⟨s⟩:Str),(i:Int),()) rfl y ?_⟩
 ·show(decide (0<=(i:Int))&&(decide ((i:Int)<=(s.length:Int))&&decide (s.length<=1048576)));rw[eY (by omega),eY (by omega),eY (by omega)];rfl
 refine YH (λq=>absurd q (by omega)) λ_=> ?_
 rw[z,l,es];refine⟨by simp;omega,e (by rw[II,IP,aF];omega),by simp;omega,e (by rw[IJ,II,IP,aF];omega),e (by rw[IJ,IJ,II,IP,aF];omega),by simp;omega,e (by rw[IJ,IJ,IJ,II,IP,aF];omega),Zb ((⟨VM s i k⟩:Str),()) rfl (eY (by show(VM s i k).length<=_;omega)),Zc ((⟨VM s i k⟩:Str),()) rfl (ZP (λhc=> ?_) λ_=>hn)⟩;have hc:(XT ⟨VM s i k⟩).c=0:=hc;have g:=Aa (XT ⟨VM s i k⟩).a;have ht:tW (XT ⟨VM s i k⟩).a:=by rw[<- a7m];exact c3a _
 have hd:(decL (eS (KD (XT ⟨VM s i k⟩).a)::ndA n ks):Tm×Tm×Unit)=((XT ⟨VM s i k⟩).a,.mk n ks,()):=by rw[YA];show((dec (eS (KD (XT ⟨VM s i k⟩).a)):Tm),(dec (enc (Tm.mk n ks)):Tm),())=_;rw[g.2,Enc.dec_enc]
 have B:isL (Tm×Tm×Unit) (eS (KD (XT ⟨VM s i k⟩).a)::ndA n ks):=by rw[YA];show(is Tm (eS (KD (XT ⟨VM s i k⟩).a))&&(is Tm (enc (Tm.mk n ks))&&true))=true;rw[g.1,Enc.is_enc];rfl
 refine⟨d5v ((XT ⟨VM s i k⟩).a,.mk n ks,()) B hd ?_,BZ ((XT ⟨VM s i k⟩).a,.mk n ks,()) hd (YC (λq=> ?_) λ_=>hn)⟩
 ·show(tW (XT ⟨VM s i k⟩).a&&tW (.mk n ks));rw[ht,C];rfl
 ·have q:eqM (XT ⟨VM s i k⟩).a (.mk n ks):=q;rw[E hc]at q;cases q
def h9f(n:Nd)(ks:List Tm)(q:tW (.mk n ks))(k:XH (.mk n ks))(l:(Zw (.mk n ks)).length<=20000): ∀ (c i:Nat),i+c=(Zw (.mk n ks)).length ->
  At Ha 0 (Za Qc (Ze true)) U5 0 127 [(1,.ptr 0 0),(3,.pv (.str (Zw (.mk n ks)))),(5,.pv (.int .i64 (i:Int)))] [.obj (.box (Xu n ks))]
 | 0,i,e=>f4t n ks _ i (Z5 (Xh (by omega)) (Zy rfl))
 | c+1,i,e=>by
  have a:i<(Zw (.mk n ks)).length:=by omega
  have hn:=h9f n ks q k l c (i+1) (by omega);have hb:=λj=>j1s n ks q k l a j hn
  generalize Zw (.mk n ks)=s at *;have r:I8 s (Ii (i:Int)) (0:UInt8)=s[i]:=by rw[Iy];simp[I8,a]
  have g:(decide (0<=(i:Int))&&decide (Ii (i:Int)<s.length)):=by simp;omega
  have y:Ia.wrap ((i:Int)+1)=((i+1:Nat):Int):=next (by omega)
  refine f4t n ks s i (ZZ (Xd a) ?_);rw[y,r];refine⟨g,c3w (λ_=>hn) λh=> ?_⟩;have hb:=hb ((b9q (n:=40) (by decide)).1 h);refine YH (λhp=> ?_) λ_=>hb
  have b:(decide (0<=Ia.wrap ((i:Int) - 1))&&decide (Ii (Ia.wrap ((i:Int) - 1))<s.length)):=by rw[Xf (by omega) (by omega),eY (by omega),eY (by omega)];rfl
  generalize ((dB (I8 s (Ii (Ia.wrap ((i:Int) - 1))) (0:UInt8)):Nat):Int)=u
  repeat' first|exact hn|exact hb|exact b|refine⟨b,?_⟩|refine j6u ?_ ?_
def h6g: ∀ x:Tm×Unit,tW x.1->Zh Ha 0 (Za Qc (Ze true)) U5 [] (Z7 i6b (encL x)):=by
 rintro⟨⟨n,ks⟩,⟨⟩⟩ h;have h:tW (.mk n ks):=h;have i:ndA n ks++[.int .i64 30]=encL ((.mk n ks,30,()):Tm×Int×Unit):=by rw[YA];rfl
 rw[<- YA];refine j0x n ks (Zc () rfl (Z5 (by simp) ⟨Zb (.mk n ks,()) (YA n ks) h,Zc (.mk n ks,()) (YA n ks) ⟨Zb (.mk n ks,30,()) i h,Zc (.mk n ks,30,()) i (Xj (λj=>Zy rfl) λj=>c3w (λa=>Zy rfl) λa=> ?_)⟩⟩));have a:(Qj (.mk n ks)).2=0:=a;have b:VY (.mk n ks):=by
  unfold Qj at a;cases b:VY (.mk n ks)with
  | true=>rfl
  | false=>rw[b]at a;cases a
 have g:Qj (.mk n ks)=(ZV (.mk n ks),0)∧(Zw (.mk n ks)).length<=20000:=by
  unfold Qj at a ⊢;rw[b]at a ⊢;have a:(a5f (ZV (.mk n ks))).2=0:=a;show a5f (ZV (.mk n ks))=_∧_;unfold a5f at a ⊢;split at a
  ·cases a
  ·rename_i e;rw[fo e];refine⟨rfl,?_⟩;have e : ¬ (((Zw (.mk n ks)).length:Nat):Int)>20000:=e;omega
 rw[show Qj ((Tm.mk n ks,()):Tm×Unit).1=(ZV (.mk n ks),0)from g.1];exact h9f n ks h (a1t (by unfold VY at b;rw[Cm]at b;exact b.1)) g.2 _ 0 (aD _)
end Go.Pl
