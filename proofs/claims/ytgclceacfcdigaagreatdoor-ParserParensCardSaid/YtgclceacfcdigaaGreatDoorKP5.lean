/-
  Texts of mine that belong together (packed by pack.py), for every input: TyYo, TyYn, TyYp, QYm, QYn, GYe, TyYq, QYp, GYv, QYv, QYw, TyJi, GJl, QJl, QJm, TyJa, TyJb, TyJd, TyJw, GJw, GJc, GJb, GJa, QJa, TyJc, QJb, TyJe, TyJf, TyJg, TyJh, QJn, VwX, TyAk, VwN, QJw, TyJv, TyJz, TyKa, TyKc, TyKf, TyKg, TyKh, TySy, TySz, TySw, TySv, TyKb, TyKd, TyKe, TyKi, TyKj, TyKk, GJp, TyJx, GJx, QJx, QJp.
-/
import Derived.Test.YtgclceacfcdigaaGreatDoorChecked
import Derived.Test.YtgclceacfcdigaaGreatDoorKP2
import Derived.Test.YtgclceacfcdigaaGreatDoorKP3
import Derived.Test.YtgclceacfcdigaaGreatDoorKP4
import Derived.KernelRfl
set_option linter.unusedVariables false
set_option linter.unusedSectionVars false
set_option linter.unusedSimpArgs false
namespace Go.Pl
open Go.RowKit
def b0j(t:Tok):Bool:=(decide (t.k≠1)||nameI t.t.s)&&((decide (t.k≠3)||(X5 t.t).2)&&((decide (t.t≠⟨[46,46]⟩)||decide (t.k=4))&&decide (t.t.s.length<=65536)))
def Z9(l:List Tok):Bool:=l.all b0j
theorem Br{c:UInt8}{r:List UInt8}{b:Bool}(h:digB c=true∨lowB c=true):Yp ⟨c::r⟩ b≠⟨[46,46]⟩:=by
 intro e
 have e:(c::r).takeWhile (fun c=>digB c||(b&&lowB c))=[46,46]:=congrArg Str.s e
 rw[List.takeWhile_cons]at e
 split at e
 ·have g:c=46:=(List.cons.inj e).1
  subst g
  exact absurd h (by decide)
 ·cases e
theorem Ra: ∀ (l:List (List UInt8)) (s:List UInt8),(Zk l s).1=4∨Zk l s=(0,⟨[]⟩)
 | [],s=>Or.inr rfl
 | x::l,s=>by
  rw[Zk]
  split
  ·exact Or.inl rfl
  ·exact Ra l s
theorem b1d{s:Str}{k:Int}{w:Str}(h:Zx s=(k,w))(i:k≠0)(hs:s.s.length<=65536)(ln o:Int):b0j ⟨k,w,ln,o⟩=true:=by
 have j:w.s.length<=65536:=by
  have:=UD s
  rw[h]at this
  exact Nat.le_trans this hs
 have g:(k=1->nameI w.s=true)∧(k=3->(X5 w).2=true)∧(w=⟨[46,46]⟩->k=4):=by
  obtain⟨s⟩:=s
  cases s with
  | nil=>exact absurd (congrArg Prod.fst h).symm i
  | cons c r=>
   unfold Zx at h
   dsimp only at h
   split at h
   ·rename_i h1
    split at h
    ·obtain⟨rfl,rfl⟩:=Prod.mk.inj h
     exact⟨fun e=>absurd e (by decide),fun e=>absurd e (by decide),fun e=>absurd e (Br (Or.inr h1))⟩
    ·split at h
     ·obtain⟨rfl,rfl⟩:=Prod.mk.inj h
      exact⟨fun _=> ‹_›,fun e=>absurd e (by decide),fun e=>absurd e (Br (Or.inr h1))⟩
     ·exact absurd (congrArg Prod.fst h).symm i
   ·split at h
    ·rename_i h2
     split at h
     ·obtain⟨rfl,rfl⟩:=Prod.mk.inj h
      exact⟨fun e=>absurd e (by decide),fun _=> ‹_›,fun e=>absurd e (Br (Or.inl h2))⟩
     ·exact absurd (congrArg Prod.fst h).symm i
    ·rcases Ra Zf (c::r)with h3|h3
     ·rw[h]at h3
      have h3:k=4:=h3
      subst h3
      exact⟨fun e=>absurd e (by decide),fun e=>absurd e (by decide),fun _=>rfl⟩
     ·rw[h]at h3
      exact absurd (congrArg Prod.fst h3) i
 unfold b0j
 dsimp only
 simp only[Bool.and_eq_true,Bool.or_eq_true,decide_eq_true_eq]
 refine⟨?_,?_,?_,j⟩
 ·by_cases e:k=1
  ·exact Or.inr (g.1 e)
  ·exact Or.inl e
 ·by_cases e:k=3
  ·exact Or.inr (g.2.1 e)
  ·exact Or.inl e
 ·by_cases e:w=⟨[46,46]⟩
  ·exact Or.inr (g.2.2 e)
  ·exact Or.inl e
theorem a5n: ∀ (f:Nat) (s:List UInt8) (i:Nat) (ln:Int) (o:List Tok),s.length<=20000->Z9 o=true->o.length<=4000->Z9 (GL f s i ln o).a=true∧(GL f s i ln o).a.length<=4000
 | 0,s,i,ln,o,_,h1,h2=>⟨h1,h2⟩
 | f+1,s,i,ln,o,hs,h1,h2=>by
  rw[GL]
  split
  ·exact⟨h1,h2⟩
  ·split
   ·exact⟨rfl,by simp⟩
   ·split
    ·exact⟨rfl,by simp⟩
    ·rename_i q1 e q3
     refine a5n f s _ _ _ hs ?_ (by simp;omega)
     unfold Z9 at h1 ⊢
     rw[List.all_append,h1,List.all_cons,List.all_nil,Bool.and_true,Bool.true_and]
     exact b1d rfl e (by rw[List.length_drop];omega) _ _
theorem Uq(s:Str):Z9 (ZR s).a=true∧(ZR s).a.length<=4000:=by
 unfold ZR
 split
 ·exact⟨rfl,by simp⟩
 ·exact a5n _ _ _ _ _ (by omega) rfl (by simp)
theorem AA(s:List UInt8):Zc (Vf s)=true:=by
 have h:=Uq ⟨s⟩
 unfold Zc Vf
 dsimp only
 simp only[Bool.and_eq_true,decide_eq_true_eq]
 refine⟨h.2,Nat.zero_le _,?_⟩
 rw[List.all_eq_true]
 intro t ht
 have h3:=List.all_eq_true.1 h.1 t ht
 unfold b0j at h3
 simp only[Bool.and_eq_true,decide_eq_true_eq]at h3
 exact decide_eq_true h3.2.2.2
section
theorem b9g{s:PS}(h:Z9 s.l=true)(hi:s.i<s.l.length):b0j (s.peek 0)=true:=by
 rw[NQ (k:=0) hi]
 exact List.all_eq_true.1 h _ (List.getElem_mem _)
theorem a7g{w:List UInt8}(h:nameI w=true):w.length<=30:=by
 cases w with
 | nil=>cases h
 | cons c r=>
  unfold nameI at h
  simp only[Bool.and_eq_true,decide_eq_true_eq]at h
  have:=h.1.2
  simp only[List.length_cons]
  omega
theorem a7k{w:Str}(h:nameB w=true):w.s.length<=30:=by
 obtain⟨w⟩:=w
 unfold nameB at h
 cases w with
 | nil=>cases h
 | cons c r=>
  dsimp only at h
  split at h
  ·simp only[Bool.and_eq_true,decide_eq_true_eq]at h
   have:=h.2
   simp only[List.length_cons]
   omega
  ·simp only[Bool.and_eq_true,decide_eq_true_eq]at h
   have:=h.2
   simp only[List.length_cons]
   omega
theorem R6{s:PS}{w:Str}(h:(s.need w).bad=false):s.next w=true∧(s.need w).i=s.i+1:=by
 unfold PS.need at h ⊢
 split at h
 ·rename_i h1;rw[if_pos h1];exact⟨h1,rfl⟩
 ·cases h
theorem Jg{s:PS}(g:Z9 s.l=true)(h:s.name.2.bad=false):s.name.1.s.length<=30∧s.name.2.i=s.i+1:=by
 unfold PS.name at h ⊢
 split at h
 ·rename_i h1
  rw[if_pos h1]
  refine⟨?_,rfl⟩
  have h2:=b9g g (YN (s:=s) (by omega))
  unfold b0j at h2
  simp only[Bool.and_eq_true,Bool.or_eq_true,decide_eq_true_eq]at h2
  rcases h2.1 with h3|h3
  ·exact absurd h1 h3
  ·exact a7g h3
 ·cases h
theorem VA{s:PS}{m:Int}(h:(s.num m).2.bad=false):(s.num m).2.i=s.i+1:=by
 unfold PS.num at h ⊢
 split at h
 ·rename_i h1;rw[if_pos h1];rfl
 ·cases h
theorem UX{s:PS}(j:Z9 s.l=true)(hi:s.i<=s.l.length)(h:s.func.2.bad=false):s.func.1.s.length<=61∧s.i+1<=s.func.2.i:=by
 have q:=Ge.name hi
 unfold PS.func at h ⊢
 split at h
 ·rename_i h1
  rw[if_pos h1]
  have g:=Ge.step (Ze h1)
  have r:=Ge.name g.hi
  have n2:=Jg (by rw[g.l,q.l];exact j) h
  have k:=Jg j (g.good (r.good h))
  have e:s.name.2.step.i=s.name.2.i+1:=rfl
  refine⟨?_,?_⟩
  ·simp only[List.length_append,List.length_cons,List.length_nil];omega
  ·show s.i+1<=s.name.2.step.name.2.i;omega
 ·rename_i h1
  rw[if_neg h1]
  have k:=Jg j h
  refine⟨?_,?_⟩
  ·show s.name.1.s.length<=61;omega
  ·show s.i+1<=s.name.2.i;omega
theorem c2u: ∀ (l:List Coef),(∀ c∈l,c.v.s.length<=30)->(l.map wCf).sum<=32*l.length
 | [],_=>by simp
 | c::l,h=>by
  have h1:=c2u l fun c hc=>h c (List.mem_cons_of_mem _ hc)
  have h2:=h c (List.mem_cons_self ..)
  have e:wCf c=c.v.s.length+2:=rfl
  simp only[List.map_cons,List.sum_cons,List.length_cons]
  omega
theorem d0g{l:Lin}(h:ZC l=true):Cf l<=386:=by
 unfold ZC at h
 simp only[Bool.and_eq_true,decide_eq_true_eq]at h
 have h1:=c2u l.t fun c hc=>by
  have h2:=List.all_eq_true.1 h.1.1.1 c hc
  simp only[Bool.and_eq_true]at h2
  exact a7k h2.1.1
 unfold Cf
 omega
theorem Pd(a b:Lin)(k:Int):Cf (ZG a b k).1<=386:=by
 unfold ZG
 split
 ·split
  ·unfold NS
   split
   ·exact d0g ‹_›
   ·exact by decide
  ·exact by decide
 ·exact by decide
theorem d6m{s:PS}(k:Z9 s.l=true)(hi:s.i<=s.l.length)(h:s.item.2.bad=false):Cf s.item.1<=386∧s.i+1<=s.item.2.i:=by
 unfold PS.item at h ⊢
 split at h
 ·rename_i h1
  rw[if_pos h1]
  have g:=Jg k h
  refine⟨?_,?_⟩
  ·show([(⟨s.name.1,1⟩:Coef)].map wCf).sum+2<=386
   simp only[List.map_cons,List.map_nil,List.sum_cons,List.sum_nil]
   unfold wCf
   dsimp only
   omega
  ·show s.i+1<=s.name.2.i;omega
 ·rename_i h1
  rw[if_neg h1]
  have q:=Ge.num (m:=2147483648) hi
  split at h
  ·rename_i h2
   rw[if_pos h2]
   have g:=VA h2.2
   have j:=Ge.name q.hi
   have e : ∀ x,(s.num 2147483648).2.name.2.i<=((s.num 2147483648).2.name.2.note x).2.i:=fun x=>Nat.le_refl _
   refine⟨Pd _ _ _,?_⟩
   have:=e (Wz (Jq (s.num 2147483648).2.name.1) (s.num 2147483648).1)
   have:=j.le
   omega
  ·rename_i h2
   rw[if_neg h2]
   have g:=VA h
   refine⟨?_,?_⟩
   ·show([].map wCf).sum+2<=386;simp
   ·show s.i+1<=(s.num 2147483648).2.i;omega
theorem Jm: ∀ (n:Nat) {s:PS} {l:Lin},Z9 s.l=true->s.i<=s.l.length->Cf l<=386->(linLoop n s l).2.bad=false->Cf (linLoop n s l).1<=386
 | 0,s,l,_,_,hl,_=>hl
 | n+1,s,l,hx,hi,hl,h=>by
  have j:=Ge.linLoop (n+1) (l:=l) hi
  rw[linLoop]at h j ⊢
  split at h
  ·rename_i h1;rw[if_pos h1];exact hl
  ·rename_i h1
   rw[if_neg h1]at j ⊢
   split at h
   ·rename_i h2
    rw[if_pos h2]at j ⊢
    have k:=Ge.step (Ze h2)
    have g:=Ge.item k.hi
    have q:=Ge.wide (b:=decide ((ZG l s.step.item.1 1).2≠0)) g.hi
    exact Jm n (by show Z9 s.step.item.2.l=true;rw[g.l,k.l];exact hx) q.hi (Pd _ _ _) h
   ·rename_i h2
    rw[if_neg h2]at j ⊢
    split at h
    ·rename_i h3
     rw[if_pos h3]at j ⊢
     have k:=Ge.step (Ze h3)
     have g:=Ge.item k.hi
     have q:=Ge.wide (b:=decide ((ZG l s.step.item.1 (-1)).2≠0)) g.hi
     exact Jm n (by show Z9 s.step.item.2.l=true;rw[g.l,k.l];exact hx) q.hi (Pd _ _ _) h
    ·rename_i h3
     rw[if_neg h3]
     exact hl
theorem b9o{s:PS}(k:Z9 s.l=true)(hi:s.i<=s.l.length)(h:s.linear.2.bad=false):Cf s.linear.1+260*s.i<=260*s.linear.2.i+130:=by
 have key:Cf s.linear.1<=386∧s.i+1<=s.linear.2.i:=by
  unfold PS.linear at h ⊢
  unfold PS.lin0 at h ⊢
  split at h
  ·rename_i h1
   rw[if_pos h1]
   have r:=Ge.step (Ze h1)
   have g:=Ge.item r.hi
   have u:=Ge.wide (b:=decide ((Wz s.step.item.1 (-1)).2≠0)) g.hi
   have j:=Ge.linLoop (s.l.length+1) (l:=(Wz s.step.item.1 (-1)).1) u.hi
   have y:=g.le
   have z:=j.le
   refine⟨Jm _ (by show Z9 s.step.item.2.l=true;rw[g.l,r.l];exact k) u.hi (Pd _ _ _) h,?_⟩
   exact Nat.le_trans y z
  ·rename_i h1
   rw[if_neg h1]
   have g:=Ge.item hi
   have j:=Ge.linLoop (s.l.length+1) (l:=s.item.1) g.hi
   have q:=d6m k hi (j.good h)
   refine⟨Jm _ (by rw[g.l];exact k) g.hi q.1 h,?_⟩
   exact Nat.le_trans q.2 j.le
 omega
section
variable {α:Type} {one:PS->α×PS} {B:PS->Prop} {f:α->Nat} {e:Nat}
theorem a4v(A:e<=260)(g : ∀ s t,B s->Ge s t->B t)(k : ∀ s,B s->s.i<=s.l.length->Ge s (one s).2)
  (u : ∀ s,Z9 s.l=true->B s->s.i<=s.l.length->(one s).2.bad=false->f (one s).1+260*s.i<=260*(one s).2.i+e) :
  ∀ (n:Nat) {s:PS} {o:List α},Z9 s.l=true->B s->s.i<=s.l.length->(moreL one n s o).2.bad=false->((moreL one n s o).1.map f).sum+260*s.i<=(o.map f).sum+260*(moreL one n s o).2.i
 | 0,s,o,_,_,_,_=>Nat.le_refl _
 | n+1,s,o,hx,hb,hi,h=>by
  rw[moreL]at h ⊢
  split at h
  ·rename_i h1;rw[if_pos h1];exact Nat.le_refl _
  ·rename_i h1
   rw[if_neg h1]
   split at h
   ·rename_i h2
    rw[if_pos h2]
    have q:=Ge.step (Ze h2)
    have b1:=g _ _ hb q
    have j:=k _ b1 q.hi
    have z:Z9 s.step.l=true:=hx
    have D:Z9 (one s.step).2.l=true:=by rw[j.l];exact z
    have r:=g _ _ b1 j
    have C:=Ge.moreL g k n (o:=o++[(one s.step).1]) r j.hi
    have w1:=u _ z b1 q.hi (C.good h)
    have y:=a4v A g k u n (o:=o++[(one s.step).1]) D r j.hi h
    have e1:s.step.i=s.i+1:=rfl
    rw[List.map_append,List.sum_append]at y
    simp only[List.map_cons,List.map_nil,List.sum_cons,List.sum_nil]at y
    omega
   ·rename_i h2;rw[if_neg h2];exact Nat.le_refl _
theorem CS(u:e<=260)(j : ∀ s t,B s->Ge s t->B t)(k : ∀ s,B s->s.i<=s.l.length->Ge s (one s).2)
  (r : ∀ s,Z9 s.l=true->B s->s.i<=s.l.length->(one s).2.bad=false->f (one s).1+260*s.i<=260*(one s).2.i+e)
  {s:PS} (q:Z9 s.l=true) (hb:B s) (hi:s.i<=s.l.length) (h:(listL one s).2.bad=false):((listL one s).1.map f).sum+260*s.i<=260*(listL one s).2.i+e:=by
 have g:=k _ hb hi
 have b1:=j _ _ hb g
 have y:=Ge.moreL j k (s.l.length+1) (o:=[(one s).1]) b1 g.hi
 have w1:=r _ q hb hi (y.good h)
 have z:=a4v u j k r (s.l.length+1) (o:=[(one s).1]) (by rw[g.l];exact q) b1 g.hi h
 simp only[List.map_cons,List.map_nil,List.sum_cons,List.sum_nil]at z
 unfold listL
 omega
end
end
section
theorem a3z: ∀ ks:List Tm,Gl ks=(ks.map Qj).sum
 | []=>by rw[Gl];rfl
 | k::ks=>by rw[Gl,a3z ks];rfl
theorem WW(n:Nd)(ks:List Tm):Qj (.mk n ks)=FI n+(ks.map Qj).sum:=by rw[Qj,a3z]
theorem c8x(k ln num:Int)(n:Str):FI {WS k ln n with num:=num}=n.s.length+1:=by
 show n.s.length+0+0+0+0+0+1=_
 omega
theorem DR(k ln:Int)(n:Str):FI (WS k ln n)=n.s.length+1:=c8x k ln 0 n
theorem e7k(k ln:Int):FI (Lv k ln)=1:=rfl
theorem c0m(ln num:Int)(n:Str)(sz:List Lin)(e:List Int):FI {He with kind:=6,line:=ln,name:=n,num:=num,sizes:=sz,ranks:=e}=n.s.length+e.length+(sz.map Cf).sum+1:=by
 show n.s.length+0+0+0+e.length+(sz.map Cf).sum+1=_
 omega
theorem c9f(ln:Int)(a:Arr):FI {Lv 3 ln with elem:=a.e,dims:=a.d,data:=a.x}=a.e.s.length+a.d.length+a.x.length+1:=by
 show 0+a.e.s.length+a.d.length+a.x.length+0+0+1=_
 omega
theorem b8b(ln:Int)(l:Lin):FI {Lv 4 ln with sizes:=[l]}=Cf l+1:=by
 show 0+0+0+0+0+(Cf l+0)+1=_
 omega
theorem a3x: ∀ (n:Nat) {s:PS} {o:List Int},s.i<=s.l.length->(numsP n s o).2.bad=false->(numsP n s o).1.length+s.i<=o.length+(numsP n s o).2.i
 | 0,s,o,_,_=>Nat.le_refl _
 | n+1,s,o,hi,h=>by
  rw[numsP]at h ⊢
  split at h
  ·rename_i h1
   rw[if_pos h1]
   have e:=Ge.num (m:=2147483648) hi
   have g:=Ge.numsP n (o:=o++[(s.num 2147483648).1]) e.hi
   have n1:=VA (g.good h)
   have w:=a3x n (o:=o++[(s.num 2147483648).1]) e.hi h
   rw[List.length_append]at w
   simp only[List.length_cons,List.length_nil]at w
   omega
  ·rename_i h1;rw[if_neg h1];exact Nat.le_refl _
theorem b4j: ∀ (n:Nat) {s:PS} {o:List Int},s.i<=s.l.length->(datP n s o).2.bad=false->(datP n s o).1.length+s.i<=o.length+(datP n s o).2.i
 | 0,s,o,_,_=>Nat.le_refl _
 | n+1,s,o,hi,h=>by
  rw[datP]at h ⊢
  split at h
  ·rename_i h1;rw[if_pos h1];exact Nat.le_refl _
  ·rename_i h1
   rw[if_neg h1]
   split at h
   ·rename_i h2;rw[if_pos h2];exact Nat.le_refl _
   ·rename_i h2
    rw[if_neg h2]
    have e:=Ge.sgs hi
    have g:=Ge.num (m:=2147483648) e.hi
    have j:=Ge.datP n (o:=o++[IntKind.i64.wrap (s.sgn*(s.sgs.num 2147483648).1)]) g.hi
    have n1:=VA (j.good h)
    have w:=b4j n (o:=o++[IntKind.i64.wrap (s.sgn*(s.sgs.num 2147483648).1)]) g.hi h
    have e0:=e.le
    rw[List.length_append]at w
    simp only[List.length_cons,List.length_nil]at w
    omega
theorem d2x{s:PS}(hi:s.i<=s.l.length)(h:s.arr.2.bad=false):s.arr.1.e.s.length+s.arr.1.d.length+s.arr.1.x.length+s.i<=4+s.arr.2.i:=by
 have k0:=Ge.ar0 hi
 have k:=Ge.ar1 hi
 have y:=Ge.ar2 hi
 have k2':Ge s.ar1 s.ar2.2:=Ge.numsP _ k.hi
 have j:=Ge.need (w:=⟨[58]⟩) y.hi
 have g:Ge (s.ar2.2.need ⟨[58]⟩) s.ar3.2:=Ge.datP _ j.hi
 have r:=Ge.need (w:=⟨[93]⟩) g.hi
 have q:s.ar3.2.bad=false:=r.good h
 have E:=g.good q
 have u:=j.good E
 have C:s.ar3.1.length+(s.ar2.2.need ⟨[58]⟩).i<=([]:List Int).length+s.ar3.2.i:=b4j _ j.hi q
 have A:s.ar2.1.length+s.ar1.i<=([]:List Int).length+s.ar2.2.i:=a3x _ k.hi u
 have e1:=k.le
 have e2:=j.le
 have e3:=r.le
 have el:s.arr.1.e.s.length<=4:=by
  show(⟨if s.arB then Xy else Ww⟩:Str).s.length<=4
  cases s.arB <;> decide
 have D:s.arr.1.d=s.ar2.1:=rfl
 have B:s.arr.1.x=s.ar3.1:=rfl
 have z:s.arr.2.i=(s.ar3.2.need ⟨[93]⟩).i:=rfl
 rw[D,B,z]
 simp only[List.length_nil]at A C
 omega
theorem ones(l:List Int):(l.map fun _=>1).sum=l.length:=by
 induction l with
 | nil=>rfl
 | cons a l ih=>simp only[List.map_cons,List.sum_cons,List.length_cons,ih];omega
theorem a4d{s:PS}(g:Z9 s.l=true)(hi:s.i<=s.l.length)(h:s.sizesN.2.bad=false):(s.sizesN.1.map Cf).sum+260*s.i<=260*s.sizesN.2.i:=by
 unfold PS.sizesN at h ⊢
 split at h
 ·rename_i h1
  rw[if_pos h1]
  have k:=Ge.step (Ze h1)
  have q:=Ge.list (one:=PS.linear) (fun s h=>Ge.linear h) k.hi
  have r:=Ge.need (w:=⟨[93]⟩) q.hi
  have w:=CS (one:=PS.linear) (B:=fun _=>True) (f:=Cf) (e:=130) (by omega) (fun _ _ _ _=>trivial) (fun s _ h=>Ge.linear h) (fun s g _ hi h=>b9o g hi h) (s:=s.step) g trivial k.hi (r.good h)
  have j:=(R6 h).2
  have e1:s.step.i=s.i+1:=rfl
  show((listL PS.linear s.step).1.map Cf).sum+260*s.i<=260*((listL PS.linear s.step).2.need ⟨[93]⟩).i
  have j:((listL PS.linear s.step).2.need ⟨[93]⟩).i=(listL PS.linear s.step).2.i+1:=j
  omega
 ·rename_i h1;rw[if_neg h1];exact Nat.le_of_eq (Nat.zero_add _)
theorem a4n{s:PS}(k:Z9 s.l=true)(hi:s.i<=s.l.length)(h:s.ranksN.2.bad=false):s.ranksN.1.length+260*s.i<=260*s.ranksN.2.i:=by
 unfold PS.ranksN at h ⊢
 split at h
 ·rename_i h1
  rw[if_pos h1]
  have j:=Ge.step (Ze h1)
  have g:=Ge.need (w:=⟨[40]⟩) j.hi
  have r:=Ge.list (one:=PS.numM) (fun s h=>Ge.num h) g.hi
  have q:=Ge.need (w:=⟨[41]⟩) r.hi
  have w:=CS (one:=PS.numM) (B:=fun _=>True) (f:=fun _=>1) (e:=0) (by omega) (fun _ _ _ _=>trivial) (fun s _ h=>Ge.num h) (fun s k _ hi h=>by have:=VA (s:=s) (m:=2147483648) h;show 1+260*s.i<=260*(s.num 2147483648).2.i+0;omega) (s:=s.step.need ⟨[40]⟩) (by rw[g.l,j.l];exact k) trivial g.hi (q.good h)
  rw[ones]at w
  have e1:=j.le
  have e2:=g.le
  have e4:=q.le
  show(listL PS.numM (s.step.need ⟨[40]⟩)).1.length+260*s.i<=260*((listL PS.numM (s.step.need ⟨[40]⟩)).2.need ⟨[41]⟩).i
  omega
 ·rename_i h1;rw[if_neg h1];exact Nat.le_of_eq (Nat.zero_add _)
def WX(N:Nat)(ex:PS->Tm×PS):Prop:= ∀ s,Z9 s.l=true->Yf N s->s.i<=s.l.length->(ex s).2.bad=false->Qj (ex s).1+260*s.i<=260*(ex s).2.i
def WU(N:Nat)(un:PS->(Tm×Int)×PS):Prop:= ∀ s,Z9 s.l=true->Yf N s->s.i<=s.l.length->(un s).2.bad=false->Qj (un s).1.1+260*s.i<=260*(un s).2.i
section
variable {N:Nat} {ex:PS->Tm×PS}
theorem b3r(g:U1 N ex)(u:WX N ex){s:PS}(j:Z9 s.l=true)(r:Yf N s)(hi:s.i<=s.l.length)(h:(listL ex s).2.bad=false):((listL ex s).1.map Qj).sum+260*s.i<=260*(listL ex s).2.i:=
 CS (one:=ex) (B:=Yf N) (f:=Qj) (e:=0) (by omega) (fun s t h k=>h.ge k) (fun s h k=>g s h k) (fun s q b i h=>u s q b i h) j r hi h
theorem d5q(u:U1 N ex)(A:WX N ex){s:PS}(D:Z9 s.l=true)(z:Yf N s)(hi:s.i<=s.l.length)(h:(YO ex s).2.bad=false):((YO ex s).1.map Qj).sum+260*s.i<=260*(YO ex s).2.i:=by
 have e:=Ge.need (w:=⟨[40]⟩) hi
 have C:=Ge.need (w:=⟨[41]⟩) e.hi
 have e1:=e.le
 have e3:=C.le
 unfold YO at h ⊢
 split at h
 ·rename_i q;rw[if_pos q];show 0+260*s.i<=260*((s.need ⟨[40]⟩).need ⟨[41]⟩).i;omega
 ·rename_i q
  rw[if_neg q]
  split at h
  ·rename_i g;rw[if_pos g];show 0+260*s.i<=260*((s.need ⟨[40]⟩).need ⟨[41]⟩).i;omega
  ·rename_i g
   rw[if_neg g]
   have r:=z.ge e
   have y:=Ge.listL (B:=Yf N) (fun s t h k=>h.ge k) (fun s h k=>u s h k) r e.hi
   have j:=Ge.need (w:=⟨[41]⟩) y.hi
   have w:=b3r u A (by rw[e.l];exact D) r e.hi (j.good h)
   have e4:=j.le
   show((listL ex (s.need ⟨[40]⟩)).1.map Qj).sum+260*s.i<=260*((listL ex (s.need ⟨[40]⟩)).2.need ⟨[41]⟩).i
   omega
theorem c7u(y:U1 N ex)(C:WX N ex){ln:Int}{n:Str}{s:PS}(k:Z9 s.l=true)(B:Yf N s)(hi:s.i<=s.l.length)(h:(XH ex ln n s).2.bad=false):Qj (XH ex ln n s).1+260*s.i<=n.s.length+1+260*(XH ex ln n s).2.i:=by
 have j:=Ge.sizesN hi
 have e:=Ge.frameN j.hi
 have g:=Ge.ranksN e.hi
 have u:=j.trans (e.trans g)
 have z:=B.ge u
 have D:=Ge.kids y z g.hi
 have r:(YO ex s.sizesN.2.frameN.2.ranksN.2).2.bad=false:=h
 have q:=D.good r
 have A:=g.good q
 have b1:=e.good A
 have w1:=a4d k hi b1
 have w3:=a4n (s:=s.sizesN.2.frameN.2) (by rw[e.l,j.l];exact k) e.hi q
 have w4:=d5q y C (s:=s.sizesN.2.frameN.2.ranksN.2) (by rw[u.l];exact k) z g.hi r
 have e2:=e.le
 show Qj (.mk {He with kind:=6,line:=ln,name:=n,num:=s.sizesN.2.frameN.1,sizes:=s.sizesN.1,ranks:=s.sizesN.2.frameN.2.ranksN.1} (YO ex s.sizesN.2.frameN.2.ranksN.2).1)+260*s.i<=n.s.length+1+260*(YO ex s.sizesN.2.frameN.2.ranksN.2).2.i
 rw[WW,c0m]
 omega
theorem c7j(j:U1 N ex)(B:WX N ex){s:PS}(e:Z9 s.l=true)(A:Yf (N+1) s)(r:(s.peek 0).k=1)(h:(Yz ex s).2.bad=false):Qj (Yz ex s).1+260*s.i<=260*(Yz ex s).2.i:=by
 have hi:=YN (s:=s) (by omega)
 have y:=Ge.step hi
 have h1:=Ge.func1 r
 have z:=y.trans h1
 unfold Yz at h ⊢
 split at h
 ·rename_i q
  rw[if_pos q]
  have C:=UX e (by omega) h
  rw[WW,DR]
  show s.func.1.s.length+1+0+260*s.i<=260*s.func.2.i
  omega
 ·rename_i q
  rw[if_neg q]
  have g:Yf N s.func.2:=(A.step hi).ge h1
  have u:=Ge.callB j (ln:=(s.peek 0).ln) (n:=s.func.1) g h1.hi
  have C:=UX e (by omega) (u.good h)
  have w:=c7u j B (ln:=(s.peek 0).ln) (n:=s.func.1) (s:=s.func.2) (by rw[z.l];exact e) g h1.hi h
  omega
theorem d6h(E:U1 N ex)(z:WX N ex){ln:Int}{s:PS}(u:Z9 s.l=true)(J:Yf N s)(hi:s.i<=s.l.length)(h:(QF ex ln s).2.bad=false):Qj (QF ex ln s).1+260*s.i<=260*(QF ex ln s).2.i:=by
 have e:=Ge.need (w:=⟨[40]⟩) hi
 have y:=Ge.func e.hi
 have g:=Ge.need (w:=⟨[44]⟩) y.hi
 have q:=e.trans (y.trans g)
 have r:=J.ge q
 have k:=E _ r g.hi
 have j:=Ge.need (w:=⟨[44]⟩) k.hi
 have H:=k.trans j
 have C:=r.ge H
 have A:=E _ C j.hi
 have F:=Ge.need (w:=⟨[41]⟩) A.hi
 have D:=F.good h
 have K:=A.good D
 have B:=j.good K
 have I:=k.good B
 have n1:=UX (s:=s.need ⟨[40]⟩) (by rw[e.l];exact u) e.hi (g.good I)
 have w4:=z _ (by rw[q.l];exact u) r g.hi B
 have w6:=z _ (by rw[H.l,q.l];exact u) C j.hi D
 have e1:=e.le
 have e3:=g.le
 have e5:=j.le
 have e7:=F.le
 unfold QF
 dsimp only
 rw[WW,DR]
 simp only[List.map_cons,List.map_nil,List.sum_cons,List.sum_nil]
 omega
theorem d4r(D:U1 N ex)(C:WX N ex){ln:Int}{s:PS}(z:Z9 s.l=true)(B:Yf N s)(hi:s.i<=s.l.length)(h:(Qp ex ln s).2.bad=false):Qj (Qp ex ln s).1+260*s.i<=260*(Qp ex ln s).2.i:=by
 have e:=Ge.need (w:=⟨[40]⟩) hi
 have j:=Ge.func e.hi
 have g:=Ge.need (w:=⟨[44]⟩) j.hi
 have u:=e.trans (j.trans g)
 have y:=B.ge u
 have q:=D _ y g.hi
 have r:=Ge.need (w:=⟨[41]⟩) q.hi
 have k:=r.good h
 have A:=q.good k
 have n1:=UX (s:=s.need ⟨[40]⟩) (by rw[e.l];exact z) e.hi (g.good A)
 have w4:=C _ (by rw[u.l];exact z) y g.hi k
 have e1:=e.le
 have e3:=g.le
 have e5:=r.le
 unfold Qp
 dsimp only
 rw[WW,DR]
 simp only[List.map_cons,List.map_nil,List.sum_cons,List.sum_nil]
 omega
theorem c9r{ln:Int}{s:PS}(k:Z9 s.l=true)(hi:s.i<=s.l.length)(h:(VD ln s).2.bad=false):Qj (VD ln s).1+260*s.i<=260*(VD ln s).2.i:=by
 have e:=Ge.need (w:=⟨[91]⟩) hi
 have j:=Ge.linear e.hi
 have q:=Ge.need (w:=⟨[93]⟩) j.hi
 have g:=(R6 h).2
 have w:=b9o (s:=s.need ⟨[91]⟩) (by rw[e.l];exact k) e.hi (q.good h)
 have e1:=e.le
 unfold VD at g ⊢
 dsimp only at g ⊢
 rw[WW,b8b]
 show Cf (s.need ⟨[91]⟩).linear.1+1+0+260*s.i<=260*((s.need ⟨[91]⟩).linear.2.need ⟨[93]⟩).i
 omega
end
section
variable {N:Nat} {ex:PS->Tm×PS}
theorem d9j(r:U1 N ex)(A:WX N ex){s:PS}(u:Z9 s.l=true)(z:Yf (N+1) s)(hi:s.i<=s.l.length)(h:(YC ex s).2.bad=false):Qj (YC ex s).1+260*s.i<=260*(YC ex s).2.i:=by
 by_cases q1:(s.peek 0).k=3
 ·rw[show YC ex s=(.mk {WS 2 (s.peek 0).ln ⟨Ww⟩with num:=(s.num 2147483647).1} [],(s.num 2147483647).2)from if_pos q1]at h ⊢
  have n:=VA h
  rw[WW,c8x]
  show 3+1+0+260*s.i<=260*(s.num 2147483647).2.i
  omega
 by_cases q2:(s.peek 0).k=1
 ·rw[show YC ex s=Yz ex s from(if_neg q1).trans (if_pos q2)]at h ⊢
  exact c7j r A u z q2 h
 unfold YC at h ⊢
 dsimp only at h ⊢
 rw[if_neg q1,if_neg q2]at h ⊢
 split at h
 ·rename_i q;rw[if_pos q,WW,c8x]
  show 4+1+0+260*s.i<=260*(s.i+1)
  omega
 ·rename_i q;rw[if_neg q]
  split at h
  ·rename_i q;rw[if_pos q,WW,DR]
   show 4+1+0+260*s.i<=260*(s.i+1)
   omega
  ·rename_i q;rw[if_neg q]
   split at h
   ·rename_i q;rw[if_pos q]
    have g:=Ze q
    have j:=Ge.step g
    have D:=z.step g
    have y:=r _ D j.hi
    have C:=Ge.need (w:=⟨[41]⟩) y.hi
    have w:=A s.step u D j.hi (C.good h)
    have F:=C.le
    have E:s.step.i=s.i+1:=rfl
    show Qj (ex s.step).1+260*s.i<=260*((ex s.step).2.need ⟨[41]⟩).i
    omega
   ·rename_i q;rw[if_neg q]
    split at h
    ·rename_i q;rw[if_pos q]
     have g:=Ze q
     have j:=Ge.step g
     have D:=z.step g
     have y:=Ge.listL (B:=Yf N) (fun s t h k=>h.ge k) (fun s h k=>r s h k) D j.hi
     have C:=Ge.need (w:=⟨[93]⟩) y.hi
     have w:=b3r r A (s:=s.step) u D j.hi (C.good h)
     have F:=C.le
     have E:s.step.i=s.i+1:=rfl
     rw[WW,e7k]
     show 1+((listL ex s.step).1.map Qj).sum+260*s.i<=260*((listL ex s.step).2.need ⟨[93]⟩).i
     omega
    ·rename_i q;rw[if_neg q]
     have E:s.step.i=s.i+1:=rfl
     split at h
     ·rename_i q;rw[if_pos q]
      have g:=Ze q
      have w:=d6h r A (ln:=(s.peek 0).ln) (s:=s.step) u (z.step g) (Ge.step g).hi h
      omega
     ·rename_i q;rw[if_neg q]
      split at h
      ·rename_i q;rw[if_pos q]
       have g:=Ze q
       have w:=d4r r A (ln:=(s.peek 0).ln) (s:=s.step) u (z.step g) (Ge.step g).hi h
       omega
      ·rename_i q;rw[if_neg q]
       split at h
       ·rename_i q;rw[if_pos q]
        have g:=Ze q
        have w:=c9r (ln:=(s.peek 0).ln) (s:=s.step) u (Ge.step g).hi h
        omega
       ·rename_i q;rw[if_neg q]
        split at h
        ·rename_i q;rw[if_pos q]
         have g:=Ze q
         have j:=Ge.step g
         have y:=Ge.arr j.hi
         have e2:=y.le
         have w:=d2x (s:=s.step) j.hi h
         rw[WW,c9f]
         show s.step.arr.1.e.s.length+s.step.arr.1.d.length+s.step.arr.1.x.length+1+0+260*s.i<=260*s.step.arr.2.i
         omega
        ·cases h
theorem a4c(w:Str)(u:Bool):(Wy w u).a.s.length<=61:=by
 unfold Wy
 split
 ·rename_i r hr
  have h1:r∈U6:=List.mem_of_find?_eq_some hr
  have h2 : ∀ r∈U6,r.n.length<=61:=by decide
  exact h2 r h1
 ·exact Nat.zero_le _
theorem e1o(r:U1 N ex)(u:WX N ex){un:PS->(Tm×Int)×PS}(hu:Dv N un)(y:WU N un){s:PS}(j:Z9 s.l=true)(k:Yf (N+1) s)(hi:s.i<=s.l.length)(h:(Wt ex un s).2.bad=false):Qj (Wt ex un s).1.1+260*s.i<=260*(Wt ex un s).2.i:=by
 have e1:s.step.i=s.i+1:=rfl
 unfold Wt at h ⊢
 dsimp only at h ⊢
 split at h
 ·rename_i q
  rw[if_pos q]
  have n:=VA h
  rw[WW,c8x]
  show 3+1+0+260*s.i<=260*(s.step.num 2147483648).2.i
  omega
 ·rename_i q
  rw[if_neg q]
  split at h
  ·rename_i e
   rw[if_pos e]
   have g:s.i<s.l.length:=by
    simp only[Bool.or_eq_true]at e
    rcases e with e|e
    ·exact Ze e
    ·exact Ze e
   have w:=y s.step j (k.step g) (Ge.step g).hi h
   have l1:=a4c (s.peek 0).t true
   rw[WW,DR]
   simp only[List.map_cons,List.map_nil,List.sum_cons,List.sum_nil]
   show(Wy (s.peek 0).t true).a.s.length+1+(Qj (un s.step).1.1+0)+260*s.i<=260*(un s.step).2.i
   omega
  ·rename_i e
   rw[if_neg e]
   exact d9j r u j k hi h
theorem b8z(s:PS):s.oper.1.1.s.length<=61:=by
 unfold PS.oper
 split
 ·exact a4c _ _
 ·exact Nat.zero_le _
theorem Fu{e:PS->(Tm×Int)×PS}{lev ln:Int}(z:lev≠0)(hu:Dv (N+1) e)(y:WU (N+1) e): ∀ (n:Nat) {s:PS} {l:Tm},Z9 s.l=true->Yf (N+1) s->s.i<=s.l.length->(opLoop e lev ln n s l).2.bad=false->Qj (opLoop e lev ln n s l).1.1+260*s.i<=Qj l+260*(opLoop e lev ln n s l).2.i
 | 0,s,l,_,_,_,_=>Nat.le_refl _
 | n+1,s,l,hl,hf,hi,h=>by
  rw[opLoop]at h ⊢
  split at h
  ·rename_i q;rw[if_pos q];exact Nat.le_refl _
  ·rename_i q
   rw[if_neg q]
   split at h
   ·rename_i q;rw[if_pos q];exact Nat.le_refl _
   ·rename_i C
    rw[if_neg C]
    have r:=Q4 (s:=s) (by omega)
    have k:=Ge.step r
    have j:=hf.ge k
    have g:=hu _ j k.hi
    have l1:=b8z s
    have e1:s.step.i=s.i+1:=rfl
    split at h
    ·rename_i u
     rw[if_pos u]
     have w:=y s.step hl j k.hi h
     rw[WW,DR]
     simp only[List.map_cons,List.map_nil,List.sum_cons,List.sum_nil]
     show s.oper.1.1.s.length+1+(Qj l+(Qj (e s.step).1.1+0))+260*s.i<=Qj l+260*(e s.step).2.i
     omega
    ·rename_i u
     rw[if_neg u]
     have B:=Ge.opLoop (ln:=ln) z hu n (l:=.mk (WS 6 ln s.oper.1.1) [l,(e s.step).1.1]) (j.ge g) g.hi
     have w:=y s.step hl j k.hi (B.good h)
     have A:=Fu z hu y n (l:=.mk (WS 6 ln s.oper.1.1) [l,(e s.step).1.1]) (by rw[g.l];exact hl) (j.ge g) g.hi h
     rw[WW,DR]at A
     simp only[List.map_cons,List.map_nil,List.sum_cons,List.sum_nil]at A
     omega
theorem EF{un:PS->(Tm×Int)×PS}(hu:Dv (N+1) un)(j:WU (N+1) un): ∀ d:Nat,d<=5->WU (N+1) (Z6 un d)
 | 0,_=>j
 | d+1,hd=>fun s k g hi h=>by
  have i:=Ge.from hu d (by omega)
  have e:=i s g hi
  have q:=Ge.opLoop (ln:=(Z6 un d s).1.2) (lev:=5 - (d:Int)) (by omega) i (s.l.length+1) (l:=(Z6 un d s).1.1) (g.ge e) e.hi
  rw[Z6]at h ⊢
  have w1:=EF hu j d (by omega) s k g hi (q.good h)
  have w2:=Fu (lev:=5 - (d:Int)) (by omega) i (EF hu j d (by omega)) (s.l.length+1) (l:=(Z6 un d s).1.1) (by rw[e.l];exact k) (g.ge e) e.hi h
  omega
theorem e2u(E:U1 N ex)(B:WX N ex){un:PS->(Tm×Int)×PS}(hu:Dv (N+1) un)(M:WU (N+1) un){s:PS}(k:Z9 s.l=true)(A:Yf (N+1) s)(hi:s.i<=s.l.length)(h:(BO ex un s).2.bad=false):Qj (BO ex un s).1+260*s.i<=260*(BO ex un s).2.i:=by
 unfold BO at h ⊢
 dsimp only at h ⊢
 split at h
 ·rename_i q
  rw[if_pos q]
  have g:=Ze q
  have J:=Ge.step g
  have K:=A.step g
  have z:=Ge.name J.hi
  have e:=Ge.need (w:=⟨[61]⟩) z.hi
  have u:=z.trans e
  have y:=K.ge u
  have r:=E _ y e.hi
  have j:=Ge.need (w:=⟨[105,110]⟩) r.hi
  have F:=r.trans j
  have D:=y.ge F
  have I:=E _ D j.hi
  have L:=I.good h
  have C:=j.good L
  have H:=r.good C
  have n1:=Jg (s:=s.step) k (e.good H)
  have w4:=B _ (by rw[u.l];exact k) y e.hi C
  have w6:=B _ (by rw[F.l,u.l];exact k) D j.hi h
  have e1:s.step.i=s.i+1:=rfl
  have e3:=e.le
  have e5:=j.le
  rw[WW,DR]
  simp only[List.map_cons,List.map_nil,List.sum_cons,List.sum_nil]
  omega
 ·rename_i q
  rw[if_neg q]
  exact EF hu M 5 (by omega) s k A hi h
end
theorem OU: ∀ N,WX N (Zw N)∧WU N (Va N)
 | 0=>⟨fun t _ e=>by unfold Yf at e;omega,fun t _ e=>by unfold Yf at e;omega⟩
 | N+1=>by
  obtain⟨l,q⟩:=OU N
  obtain⟨k,hu⟩:=Xq N
  have j:=(Xq (N+1)).2
  have g:WU (N+1) (Va (N+1)):=fun t i e hi h=>by
   rw[XT]at h ⊢
   exact e1o k l hu q i e hi h
  exact⟨fun t i e hi h=>by
   rw[Xc]at h ⊢
   exact e2u k l j g i e hi h,g⟩
theorem a2i{s:PS}(hs:Zc s=true)(q:Z9 s.l=true)(h:s.expr.2.bad=false):tW s.expr.1=true:=by
 have h1:=ZI hs
 have j:Yf 4001 s:=by unfold Yf;omega
 have w:=(OU 4001).1 s q j h1.2 h
 have k:=Ge.expr j h1.2
 have e:=k.hi
 have g:=k.l
 unfold tW
 refine decide_eq_true ?_
 have w:Qj s.expr.1+260*s.i<=260*s.expr.2.i:=w
 have e:s.expr.2.i<=s.expr.2.l.length:=e
 have g:s.expr.2.l=s.l:=g
 rw[g]at e
 omega
end
open Enc (enc dec is)
open EncL (encL decL isL)
theorem c8m: ∀ (s:PS) (a:Unit),Zc s=true->Zb c2i 1 (Zm 1 E8 (ZQ [] [] (Ty s a).1 (Ty s a).2)) EW [] (Yd d4d (Zq a) ([]++[Zn s])):=by
 rintro s ⟨⟩ hs
 show Zb c2i 1 (Zm 1 E8 (ZQ [] [] () s.endp)) EW [] _
 unfold PS.endp
 refine e2k s (WQ (fun h=>JS hs ?_) fun h=> ?_)
 ·rw[if_pos (by rw[List.length_map]at h;omega)];exact Zr a9v
 ·rw[if_neg (by rw[List.length_map]at h;omega)];exact Zr a9v
theorem e3d{s:PS}{K:Unit->PS->Prop}(hs:Zc s=true)(h:K () s.endp):X6 Zq Yg [] [] (fun(s:PS) (_:Unit)=>Zc s) Ty [.ptr 0 0] [Zn s] K:=YY ZO s () rfl rfl hs h
theorem Ge.endp{s:PS}(h:s.i<=s.l.length):Ge s s.endp:=by
 unfold PS.endp
 split
 ·exact Ge.fail h
 ·exact Ge.refl h
theorem c8g(s:List UInt8):Zb a3b 0 (Yb 0 Ng (fun r=>r=Me [.pv (.str s)] [])) Nt [] (Yd b5y [.pv (.str s)] []):=
 e5s s ⟨Zt ((⟨s⟩:Str),()) rfl rfl,Zg ((⟨s⟩:Str),()) rfl rfl⟩
theorem d4o{s:PS}{K:TS->PS->Prop}(hs:Zc s=true)(h:K (Ui s.expr.1) s.expr.2):X6 Zq Yg [] [] (fun(s:PS) (_:Unit)=>Zc s) NK [.ptr 0 0] [Zn s] K:=YY ZO s () rfl rfl hs h
theorem Ge.exprA{s:PS}(hs:Zc s=true):Ge s s.expr.2:=Ge.expr (by have:=ZI hs;unfold Yf;omega) (ZI hs).2
theorem b5n{α:Type}[Enc α]{x:α}{a b:Int}{p:PV}(h:Zh x p):Zh (⟨x,a,b⟩:R3 α Int Int) (.tup [p,.int .i64 a,.int .i64 b]):=by
 refine⟨?_,?_⟩
 ·show(is α p&&true&&true)=true
  rw[h.1];rfl
 ·show(⟨dec p,a,b⟩:R3 α Int Int)=⟨x,a,b⟩
  rw[h.2]
theorem a4l:Zh (Tm.mk He []) (.agg [.int .i64 0,.int .i64 0,.str [],.int .i64 0,.str [],.sl 0 true [],.sl 0 true [],.sl 0 true [],.sl 0 true [],.sl 0 true []]):=a2n (KV (YK rfl) (YK rfl) (YW rfl) (YK rfl) (YW rfl) ZA ZA ZA ZA ZA)
theorem e6h{f:Tm->Bool}{t:Tm}{p:PV}(h:Zh t p)(k:f t=true):preT (fun x:Tm×Unit=>f x.1) [p]=true:=Cy (t,()) (by show(is Tm p&&true)=true;rw[h.1];rfl) (by show((dec p:Tm),())=_;rw[h.2]) k
theorem e7m{β:Type}[Enc β]{f:Tm->β}{t:Tm}{p:PV}{P:β->Prop}(h:Zh t p)(k:P (f t)): ∃ y,AV.pv (Zl (fun x:Tm×Unit=>f x.1) [p])=AV.pv (enc y)∧P y:=QX (t,()) (by show((dec p:Tm),())=_;rw[h.2]) k
theorem c6i: ∀ x:Str×Unit,decide (x.1.s.length<=1048576)=true->Zb b1t 0 (Za OZ (Zh (Zz x.1))) Eg [] (YT d9h (encL x)):=by
 rintro⟨⟨s⟩,⟨⟩⟩ hs
 have hb:=AA s
 have i:Z9 (Vf s).l=true:=(Uq ⟨s⟩).1
 have hl:=ZI hb
 have g:=Ge.exprA hb
 have e:=g.ok hb
 have j:=Ge.endp g.hi
 show Zb b1t 0 (Za OZ (Zh (Zz ⟨s⟩))) Eg [] _
 unfold Zz
 refine e2q s ⟨rfl,a1r (fun h=> ?_) fun h=> ?_⟩
 ·rw[if_pos h];exact b5n a4l
 rw[if_neg (fun k=>k h)]
 refine d4o hb (e3d e (Yq (fun h1=> ?_) fun h1=>Yq (fun h2=> ?_) fun h2=>⟨e6h (Qo (Vf s).expr.1) (d3p (a2i hb i (j.good h1))),e7m (Qo (Vf s).expr.1) (Xj (fun h3=> ?_) fun h3=> ?_)⟩))
 ·rw[if_pos h1];exact b5n a4l
 ·rw[if_neg (by rw[h1];decide),if_pos h2];exact b5n a4l
 ·rw[if_neg (by rw[h1];decide),if_neg (by rw[h2];decide),if_neg (by have h3:Xn (Vf s).expr.1=false:=h3;rw[h3];decide)];exact b5n a4l
 ·rw[if_neg (by rw[h1];decide),if_neg (by rw[h2];decide),if_pos h3];exact b5n (Qo _)
set_option maxRecDepth 100000
noncomputable def c0v:IC:=Wq Proofs.Tryz.f137
def b1m:List IRes:=[(.cell true 2 2)]
abbrev d7e:Nat:=7
noncomputable def d3d:ZM:=Xg []
theorem e5w{G:PV->Prop}(s:List UInt8)(h:G ((.agg [(.int .i64 0),(.sl 2 false [(.agg [(.str s),(.int .i64 1)])])]))):Zb d3d 0 (Za b1m G) c0v [] (YT 7 [.str s]):=Zb.tp (.lit (.lit (.nil))) h
noncomputable def b3f:IC:=Wq Proofs.Tryz.f98
def b5a:List IRes:=[(.tmp 2),(.tmp 3)]
abbrev d4i:Nat:=41
noncomputable def d1v:ZM:=Xg [(95,.pure (preT (fun x:Str×Bool×Unit=>decide (x.1.s.length<=1048576))) (Zl (fun x:Str×Bool×Unit=>Yp x.1 x.2.1))),(123,.pure (preT (fun x:Str×Unit=>decide (x.1.s.length<=281474976710656))) (Zl (fun x:Str×Unit=>Yn x.1)))]
theorem e3i{G:PV->Prop}(s:List UInt8)(h:if (s==[])=true then G ((.tup [(.int .i64 0),(.bool false)]))else(if (decide ((↑(List.length s):Int)>10))=true then G ((.tup [(.int .i64 0),(.bool false)]))else((Go.Pl.preT (fun(x:Str×Bool×Unit)=>decide (List.length (Str.s x.1)<=1048576)) [(.str s),(.bool false)])=true∧(∃ i:Str,AV.pv (Zl (fun(x:Str×Bool×Unit)=>Yp x.1 x.2.1) [(.str s),(.bool false)])=AV.pv (enc i)∧(if (!Str.s i==s)=true then G ((.tup [(.int .i64 0),(.bool false)]))else((decide (0<=0)&&decide (Int.toNat 0<List.length s))=true∧(if ((↑(UInt8.toNat (List.getD s (Int.toNat 0) (0:UInt8))):Int)==48)=true then if (decide ((↑(List.length s):Int)>1))=true then G ((.tup [(.int .i64 0),(.bool false)]))else((Go.Pl.preT (fun(x:Str×Unit)=>decide (List.length (Str.s x.1)<=281474976710656)) [(.str s)])=true∧(∃ g:Int×Er,AV.pv (Zl (fun(x:Str×Unit)=>Yn x.1) [(.str s)])=AV.pv (enc g)∧((Jv (enc g.2)&&Prod.fst (true,PV.bool !XZ (enc g.2)))=true∧(if (!XZ (enc g.2))=true then G ((.tup [(.int .i64 0),(.bool false)]))else(if (decide (g.1>2147483648))=true then G ((.tup [(.int .i64 0),(.bool false)]))else(G ((.tup [(.int .i64 g.1),(.bool true)]))))))))else((Go.Pl.preT (fun(x:Str×Unit)=>decide (List.length (Str.s x.1)<=281474976710656)) [(.str s)])=true∧(∃ e:Int×Er,AV.pv (Zl (fun(x:Str×Unit)=>Yn x.1) [(.str s)])=AV.pv (enc e)∧((Jv (enc e.2)&&Prod.fst (true,PV.bool !XZ (enc e.2)))=true∧(if (!XZ (enc e.2))=true then G ((.tup [(.int .i64 0),(.bool false)]))else(if (decide (e.1>2147483648))=true then G ((.tup [(.int .i64 0),(.bool false)]))else(G ((.tup [(.int .i64 e.1),(.bool true)]))))))))))))))):Zb d1v 0 (Za b5a G) b3f [] (YT 41 [.str s]):=Zb.tp (dm [dv Str,dv (Int×Er)] 126 0x1422202220044161222222000014222022200441610001422222201f42221202222220074222251202222222222200c42222022222222222222201042) h
def a1p:IC:=(Kq [YZ 0 (.alloc (.agg [(.str []),(.str []),(.str []),(.str []),(.str []),(.str []),(.str []),(.str []),(.str []),(.str []),(.str []),(.str []),(.str []),(.str []),(.str []),(.str []),(.str []),(.str []),(.str []),(.str []),(.str []),(.str []),(.str []),(.str []),(.str []),(.str []),(.str []),(.str [])])) 0] (Kq [YZ 1 (.build [(.str []),(.str []),(.str []),(.str []),(.str []),(.str []),(.str []),(.str []),(.str []),(.str []),(.str []),(.str []),(.str []),(.str []),(.str []),(.str []),(.str []),(.str []),(.str []),(.str []),(.str []),(.str []),(.str []),(.str []),(.str []),(.str []),(.str []),(.str [])] [(0,(1,(.c (.str [46,46])))),(1,(1,(.c (.str [61,61])))),(2,(1,(.c (.str [33,61])))),(3,(1,(.c (.str [60,61])))),(4,(1,(.c (.str [62,61])))),(5,(1,(.c (.str [45,62])))),(6,(1,(.c (.str [38,38])))),(7,(1,(.c (.str [124,124])))),(8,(1,(.c (.str [40])))),(9,(1,(.c (.str [41])))),(10,(1,(.c (.str [91])))),(11,(1,(.c (.str [93])))),(12,(1,(.c (.str [123])))),(13,(1,(.c (.str [125])))),(14,(1,(.c (.str [44])))),(15,(1,(.c (.str [58])))),(16,(1,(.c (.str [46])))),(17,(1,(.c (.str [64])))),(18,(1,(.c (.str [35])))),(19,(1,(.c (.str [61])))),(20,(1,(.c (.str [60])))),(21,(1,(.c (.str [62])))),(22,(1,(.c (.str [43])))),(23,(1,(.c (.str [45])))),(24,(1,(.c (.str [42])))),(25,(1,(.c (.str [47])))),(26,(1,(.c (.str [37])))),(27,(1,(.c (.str [33]))))]) 0,o'' (.store 28 (.t 0) (.t 1)) 0] .ret))
def a1d:List IRes:=[(.cell true 28 0)]
abbrev d8a:Nat:=2
noncomputable def b6l:ZM:=Xg []
theorem e4o{G:PV->Prop}(h:G ((.agg [(.str [(46:UInt8),(46:UInt8)]),(.str [(61:UInt8),(61:UInt8)]),(.str [(33:UInt8),(61:UInt8)]),(.str [(60:UInt8),(61:UInt8)]),(.str [(62:UInt8),(61:UInt8)]),(.str [(45:UInt8),(62:UInt8)]),(.str [(38:UInt8),(38:UInt8)]),(.str [(124:UInt8),(124:UInt8)]),(.str [(40:UInt8)]),(.str [(41:UInt8)]),(.str [(91:UInt8)]),(.str [(93:UInt8)]),(.str [(123:UInt8)]),(.str [(125:UInt8)]),(.str [(44:UInt8)]),(.str [(58:UInt8)]),(.str [(46:UInt8)]),(.str [(64:UInt8)]),(.str [(35:UInt8)]),(.str [(61:UInt8)]),(.str [(60:UInt8)]),(.str [(62:UInt8)]),(.str [(43:UInt8)]),(.str [(45:UInt8)]),(.str [(42:UInt8)]),(.str [(47:UInt8)]),(.str [(37:UInt8)]),(.str [(33:UInt8)])]))):Zb b6l 0 (Za a1d G) a1p [] (YT 2 []):=Zb.tp (.nil) h
theorem c4n: ∀ x:Str×Unit,true=true->Zb d3d 0 (Za b1m (Zh (Jq x.1))) c0v [] (YT d7e (encL x)):=by
 rintro⟨⟨s⟩,⟨⟩⟩ _
 exact e5w s (ZJ (x:=Jq ⟨s⟩) rfl)
theorem c6t(ps:List PV)(h:C8 ps=true):Zb b6l 0 (Za a1d (fun p=>p=Pi ps)) a1p [] (YT d8a ps):=by
 unfold C8 at h
 split at h
 ·exact e4o rfl
 ·cases h
theorem b6a{d:List UInt8}(j:d≠[])(hd:d.all digB=true)(l:d.length<=10):Yn ⟨d⟩=(Sm d,⟨false⟩):=by
 cases d with
 | nil=>exact absurd rfl j
 | cons c r=>
  have h1:=hd
  simp only[List.all_cons,Bool.and_eq_true,Wd]at h1
  have hv:=PW (c::r) 0 hd
  have hp:10 ^ (c::r).length<=10 ^ 10:=Nat.pow_le_pow_right (by omega) l
  have h:=GY (c::r) 0 hd (by omega)
  have g:Lib.atoiAll (c::r) = .ok (Qz 0 (c::r):Int):=by
   have k : ¬ (c.toNat=43∨c.toNat=45):=by omega
   have i : ¬ c.toNat=45:=by omega
   simp only[Lib.atoiAll,if_neg k,Lib.parseMag,if_neg (show ¬ (c::r=[]) by simp),h]
   rw[if_neg (by omega),if_neg (fun e=>i e.1),if_neg i]
  simp only[Yn,g]
  rw[b8q _ _ rfl hd]
theorem Rh{p:UInt8->Bool}: ∀ {s:List UInt8},s.takeWhile p=s->s.all p=true
 | [],_=>rfl
 | c::s,h=>by
  rw[List.takeWhile_cons]at h
  split at h
  ·rename_i q
   rw[List.all_cons,q,Rh (List.cons.inj h).2];rfl
  ·cases h
theorem Tw{p:UInt8->Bool}: ∀ {s:List UInt8},s.all p=true->s.takeWhile p=s
 | [],_=>rfl
 | c::s,h=>by
  rw[List.all_cons,Bool.and_eq_true]at h
  rw[List.takeWhile_cons,if_pos h.1,Tw h.2]
theorem RA{n:Int}{b:Bool}:Zh ((n,b):Int×Bool) (.tup [.int .i64 n,.bool b]):=⟨rfl,rfl⟩
theorem d0e: ∀ x:Str×Unit,decide (x.1.s.length<=1048576)=true->Zb d1v 0 (Za b5a (Zh (X5 x.1))) b3f [] (YT d4i (encL x)):=by
 rintro⟨⟨s⟩,⟨⟩⟩ hs
 have hw:s.length<=1048576:=of_decide_eq_true hs
 have no:AL s=false->X5 ⟨s⟩=(0,false):=fun h=>by unfold X5;rw[h];rfl
 refine e3i s (Yr (fun g=> ?_) fun g=>WQ (fun h1=> ?_) fun h1=>⟨Zt ((⟨s⟩:Str),false,()) rfl hs,Zg ((⟨s⟩:Str),false,()) rfl (Xj (fun h2=> ?_) fun h2=> ?_)⟩)
 ·have g:s=[]:=g
  subst g
  exact RA
 ·rw[show X5 ((⟨s⟩:Str),()).1=_ from no (by unfold AL;rw[decide_eq_false (show ¬ s.length<=10 by omega)];simp)]
  exact RA
 ·have h2:((Yp ⟨s⟩ false).s==s)=false:=h2
  have hd:s.all digB=false:=by
   cases e:s.all digB with
   | false=>rfl
   | true=>
    have u:(Yp ⟨s⟩ false).s=s:=Tw (p:=fun c=>digB c||(false&&lowB c)) (by
     rw[show(fun c=>digB c||(false&&lowB c))=digB from funext fun c=>by simp]
     exact e)
    rw[u]at h2
    simp at h2
  rw[show X5 ((⟨s⟩:Str),()).1=_ from no (by unfold AL;rw[hd];simp)]
  exact RA
 ·have g:s≠[]:=g
  have h2:((Yp ⟨s⟩ false).s==s)=true:=h2
  have hd:s.all digB=true:=by
   have h3:(Yp ⟨s⟩ false).s=s:=by simpa using h2
   have:=Rh (p:=fun c=>digB c||(false&&lowB c)) (s:=s) h3
   rw[show(fun c=>digB c||(false&&lowB c))=digB from funext fun c=>by simp]at this
   exact this
  have k:s.length<=10:=by omega
  have hp:0<s.length:=List.length_pos_iff.2 g
  have l:s.isEmpty=false:=by cases s with|nil=>exact absurd rfl g|cons _ _=>rfl
  have ha:=b6a g hd k
  have last:(decide (s.head? = some 48)&&decide (1<s.length))=false->preT (fun(x:Str×Unit)=>decide (List.length (Str.s (Prod.fst x))<=281474976710656)) [(.str s)]=true∧ ∃ i:Int×Er,AV.pv (Zl (fun(x:Str×Unit)=>Yn (Prod.fst x)) [(.str s)])=AV.pv (enc i)∧((Jv (enc (Prod.snd i))&&Prod.fst (true,PV.bool !XZ (enc (Prod.snd i))))=true∧(if (!XZ (enc (Prod.snd i)))=true then Zh (X5 ⟨s⟩) (.tup [.int .i64 0,.bool false])else if decide (Prod.fst i>2147483648)=true then Zh (X5 ⟨s⟩) (.tup [.int .i64 0,.bool false])else Zh (X5 ⟨s⟩) (.tup [.int .i64 (Prod.fst i),.bool true]))):=fun j=>by
   refine⟨Zt ((⟨s⟩:Str),()) rfl (decide_eq_true (by show s.length<=281474976710656;omega)),Zg ((⟨s⟩:Str),()) rfl ?_⟩
   rw[show Yn ((⟨s⟩:Str),()).1=(Sm s,⟨false⟩)from ha]
   refine⟨rfl,Y6 (show ¬ (!XZ (enc (⟨false⟩:Er)))=true by decide) (WQ (fun h3=> ?_) fun h3=> ?_)⟩
   ·rw[no (by unfold AL;rw[decide_eq_false (show ¬ Sm s<=2147483648 by omega),Bool.and_false])]
    exact RA
   ·rw[show X5 ⟨s⟩=(Sm s,true) by
     unfold X5 AL
     rw[l,decide_eq_true k,hd,j,decide_eq_true (show Sm s<=2147483648 by omega)]
     rfl]
    exact RA
  refine⟨by simp;omega,Yr (fun h3=>WQ (fun q=> ?_) fun q=>last (by rw[decide_eq_false (show ¬ 1<s.length by omega),Bool.and_false])) fun h3=>last ?_⟩
  ·have j:s.head? = some 48:=by
    cases s with
    | nil=>exact absurd rfl g
    | cons c r=>
     have h3:(c.toNat:Int)=48:=h3
     have:c=48:=UInt8.toNat_inj.1 (by show c.toNat=48;omega)
     rw[this];rfl
   rw[show X5 ((⟨s⟩:Str),()).1=_ from no (by unfold AL;rw[decide_eq_true j,decide_eq_true (show 1<s.length by omega)];simp)]
   exact RA
  ·have j:s.head? ≠ some 48:=by
    cases s with
    | nil=>exact absurd rfl g
    | cons c r=>
     have h3:(c.toNat:Int)≠48:=h3
     intro e
     have e:c=48:=by simpa using e
     rw[e]at h3
     exact h3 rfl
   rw[decide_eq_false j];rfl
def RS.tok(s:RS)(k:Nat):Tok:=s.l.getD (s.i+k) ⟨0,⟨[]⟩,0,0⟩
def RS.is(s:RS)(w:Str):Bool:= !s.bad&&(decide (s.i<s.l.length)&&(decide ((s.tok 0).t=w)&&(decide ((s.tok 0).k=2)||decide ((s.tok 0).k=4))))
def RS.step(s:RS):RS:=⟨s.l,s.i+1,s.bad,s.wide⟩
def RS.fail(s:RS):RS:=⟨s.l,s.i,true,s.wide⟩
def RS.wid(s:RS):RS:=⟨s.l,s.i,s.bad,true⟩
def RS.take(s:RS)(w:Str):Bool×RS:=if s.is w then(true,s.step)else(false,s)
def RS.need(s:RS)(w:Str):RS:=if s.is w then s.step else s.fail
def RS.kind(s:RS)(k:Int):Bool:= !s.bad&&(decide (s.i<s.l.length)&&decide ((s.tok 0).k=k))
def RS.line(s:RS):Int:=if s.i<s.l.length then(s.tok 0).ln else 0
def RS.name(s:RS):Str×RS:=if s.kind 1 then((s.tok 0).t,s.step)else(⟨[]⟩,s.fail)
def d2p{α:Type}(one:RS->α×RS):Nat->RS->List α->List α×RS
 | 0,s,o=>(o,s)
 | n+1,s,o=>if s.is ⟨[44]⟩then d2p one n (one s.step).2 (o++[(one s.step).1])else(o,s)
def BM{α:Type}(one:RS->α×RS)(s:RS):List α×RS:=d2p one (s.l.length+1) (one s).2 [(one s).1]
def RS.num(s:RS)(m:Int):Int×RS:=if s.kind 3 then(if (X5 (s.tok 0).t).1<=m then((X5 (s.tok 0).t).1,s.step)else(0,s.fail))else(0,s.fail)
def RS.chk(s:RS)(x:Lin×Int):Lin×RS:=if !s.bad&&(decide (x.2≠0) || !ZC x.1)then(⟨0,[]⟩,s.wid)else(x.1,s)
def RS.itemN(s:RS)(c:Int):Lin×RS:=s.name.2.chk (Wz (Jq s.name.1) c)
def RS.item(s:RS):Lin×RS:=
 if s.kind 3 then(if (s.num 2147483648).2.kind 1 then(s.num 2147483648).2.itemN (s.num 2147483648).1 else(s.num 2147483648).2.chk (⟨(s.num 2147483648).1,[]⟩,0))
 else s.itemN 1
def sgM:Bool->Int
 | true=> -1
 | false=>1
def d8g:Nat->RS->Lin->Bool->Lin×RS
 | 0,s,l,m=>(l,s)
 | n+1,s,l,m=>
  if s.item.2.bad then(⟨0,[]⟩,s.item.2)
  else
   let b:=s.item.2.chk (ZG l s.item.1 (sgM m))
   if b.2.is ⟨[43]⟩then d8g n b.2.step b.1 false
   else if b.2.is ⟨[45]⟩then d8g n b.2.step b.1 true
   else b
def RS.size(s:RS):Lin×RS:=d8g (s.l.length+1) (s.take ⟨[45]⟩).2 ⟨0,[]⟩ (s.take ⟨[45]⟩).1
def RS.isRow(s:RS):Bool:=s.kind 1&&(decide (s.i+1<s.l.length)&&decide ((s.tok 1).t=⟨[46,46]⟩))
def RS.dims(s:RS)(w:Str):List Lin×RS:=if s.is w then BM RS.size s.step else([],s)
def RS.elem(s:RS):Str×RS:=if s.is ⟨Ww⟩then(⟨Ww⟩,s.step)else if s.is ⟨Xy⟩then(⟨Xy⟩,s.step)else(⟨[]⟩,s.fail)
def RS.func(s:RS):Str×RS:=if s.name.2.is ⟨[46]⟩then(⟨s.name.1.s++([46]++s.name.2.step.name.1.s)⟩,s.name.2.step.name.2)else(s.name.1,s.name.2)
def RS.oper(s:RS)(lev:Int):Str×Bool:=if s.kind 4 then((Wy (s.tok 0).t false).a,(Wy (s.tok 0).t false).c&&decide ((Wy (s.tok 0).t false).b=lev))else(⟨[]⟩,false)
def d2u:Nat->RS->List Int->List Int×RS
 | 0,s,o=>(o,s)
 | n+1,s,o=>if s.kind 3 then d2u n (s.num 2147483648).2 (o++[(s.num 2147483648).1])else(o,s)
def d8p:Nat->RS->List Int->List Int×RS
 | 0,s,o=>(o,s)
 | n+1,s,o=>
  if s.kind 3||s.is ⟨[45]⟩then(if s.is ⟨[45]⟩then d8p n (s.step.num 2147483648).2 (o++[IntKind.i64.wrap (-(s.step.num 2147483648).1)])else d8p n (s.num 2147483648).2 (o++[(s.num 2147483648).1]))
  else(o,s)
def RS.con0(s:RS):RS:=(if s.kind 1 then s.step else s).need ⟨[91]⟩
def RS.con1(s:RS):List Int×RS:=d2u (s.l.length+1) s.con0 []
def RS.con2(s:RS):List Int×RS:=d8p (s.l.length+1) (s.con1.2.need ⟨[58]⟩) []
def RS.con(s:RS)(ln:Int):Tm×RS:=
 if s.kind 1&&decide ((s.tok 0).t≠⟨[98]⟩)then(.mk {Lv 3 ln with elem:=⟨Ww⟩} [],s.fail)
 else(.mk {Lv 3 ln with elem:=⟨if s.kind 1 then Xy else Ww⟩,dims:=s.con1.1,data:=s.con2.1} [],s.con2.2.need ⟨[93]⟩)
def RS.sizesN(s:RS):List Lin×RS:=if s.is ⟨[91]⟩then((BM RS.size s.step).1,(BM RS.size s.step).2.need ⟨[93]⟩)else([],s)
def RS.frameN(s:RS):Int×RS:=if s.is ⟨[123]⟩then((s.step.num 2147483648).1,(s.step.num 2147483648).2.need ⟨[125]⟩)else(0,s)
def RS.numM(s:RS):Int×RS:=s.num 2147483648
def RS.ranksN(s:RS):List Int×RS:=if s.is ⟨[64]⟩then((BM RS.numM (s.step.need ⟨[40]⟩)).1,(BM RS.numM (s.step.need ⟨[40]⟩)).2.need ⟨[41]⟩)else([],s)
def b3q(ex:RS->Tm×RS)(w:Str)(s:RS):List Tm×RS:=((BM ex s).1,(BM ex s).2.need w)
def d2j(ex:RS->Tm×RS)(s:RS):List Tm×RS:=if (s.need ⟨[40]⟩).is ⟨[41]⟩then([],(s.need ⟨[40]⟩).step)else b3q ex ⟨[41]⟩ (s.need ⟨[40]⟩)
def RS.plain(s:RS)(n:Str):Bool:=(!s.bad&&decide ((s.l.getD (s.i - 1) ⟨0,⟨[]⟩,0,0⟩).t=n))&&(!(s.is ⟨[91]⟩)&&(!(s.is ⟨[123]⟩)&&(!(s.is ⟨[64]⟩)&& !(s.is ⟨[40]⟩))))
def d7w(ex:RS->Tm×RS)(ln:Int)(n:Str)(s:RS):Tm×RS:=
 (.mk {He with kind:=6,line:=ln,name:=n,num:=s.sizesN.2.frameN.1,sizes:=s.sizesN.1,ranks:=s.sizesN.2.frameN.2.ranksN.1} (d2j ex s.sizesN.2.frameN.2.ranksN.2).1,(d2j ex s.sizesN.2.frameN.2.ranksN.2).2)
def e0h(ex:RS->Tm×RS)(ln:Int)(s:RS):Tm×RS:=if s.func.2.plain s.func.1 then(.mk (WS 1 ln s.func.1) [],s.func.2)else d7w ex ln s.func.1 s.func.2
def b6f(ex:RS->Tm×RS):Nat->RS->List Tm->List Tm×RS
 | 0,s,o=>(o,s)
 | k+1,s,o=>if s.bad then(o,s)else b6f ex k (ex (s.need ⟨[44]⟩)).2 (o++[(ex (s.need ⟨[44]⟩)).1])
def e5d(ex:RS->Tm×RS)(ln:Int)(s:RS):Tm×RS:=
 if s.is ⟨[102,111,108,100]⟩then
  let a:=(s.step.need ⟨[40]⟩).func
  let b:=b6f ex 2 a.2 []
  (.mk (WS 8 ln a.1) b.1,b.2.need ⟨[41]⟩)
 else
  let a:=((s.need ⟨[115,99,97,110]⟩).need ⟨[40]⟩).func
  let b:=b6f ex 1 a.2 []
  (.mk (WS 9 ln a.1) b.1,b.2.need ⟨[41]⟩)
def d8w(ln:Int)(s:RS):Tm×RS:=(.mk {Lv 4 ln with sizes:=[(s.need ⟨[91]⟩).size.1]} [],(s.need ⟨[91]⟩).size.2.need ⟨[93]⟩)
def e4x(ex:RS->Tm×RS)(s:RS):Tm×RS:=
 let ln:=s.line
 if s.kind 3 then(.mk {WS 2 ln ⟨Ww⟩with num:=(s.num 2147483647).1} [],(s.num 2147483647).2)
 else if s.is ⟨[116,114,117,101]⟩then(.mk {WS 2 ln ⟨Xy⟩with num:=1} [],s.step)
 else if s.is ⟨[102,97,108,115,101]⟩then(.mk (WS 2 ln ⟨Xy⟩) [],s.step)
 else if s.kind 1 then e0h ex ln s
 else if s.is ⟨[40]⟩then((ex s.step).1,(ex s.step).2.need ⟨[41]⟩)
 else if s.is ⟨[91]⟩then(.mk (Lv 7 ln) (b3q ex ⟨[93]⟩ s.step).1,(b3q ex ⟨[93]⟩ s.step).2)
 else if s.is ⟨[35]⟩then s.step.con ln
 else if s.is ⟨[115,105,122,101]⟩then d8w ln s.step
 else e5d ex ln s
def e3l(ex un:RS->Tm×RS)(s:RS):Tm×RS:=
 let ln:=s.line
 if s.is ⟨[45]⟩then
  if s.step.kind 3 then(.mk {WS 2 ln ⟨Ww⟩with num:=IntKind.i64.wrap (-(s.step.num 2147483648).1)} [],(s.step.num 2147483648).2)
  else(.mk (WS 6 ln ⟨[110,101,103]⟩) [(un s.step).1],(un s.step).2)
 else if s.is ⟨[33]⟩then(.mk (WS 6 ln ⟨[110,111,116]⟩) [(un s.step).1],(un s.step).2)
 else e4x ex s
def opR(e:RS->Tm×RS)(lev ln:Int):Nat->RS->Tm->Tm×RS
 | 0,s,l=>(l,s)
 | n+1,s,l=>
  if (s.oper lev).2 then opR e lev ln n (if ((e s.step).2.oper lev).2&&decide (lev=3)then(e s.step).2.fail else(e s.step).2) (.mk (WS 6 ln (s.oper lev).1) [l,(e s.step).1])
  else(l,s)
def a5t(un:RS->Tm×RS):Nat->RS->Tm×RS
 | 0,s=>un s
 | d+1,s=>opR (a5t un d) (5 - (d:Int)) s.line (s.l.length+1) (a5t un d s).2 (a5t un d s).1
def exR(ex un:RS->Tm×RS)(s:RS):Tm×RS:=
 if s.is ⟨[108,101,116]⟩then
  let ln:=s.line
  let a:=s.step.name
  let b:=ex (a.2.need ⟨[61]⟩)
  let c:=ex (b.2.need ⟨[105,110]⟩)
  (.mk (WS 5 ln a.1) [b.1,c.1],c.2)
 else a5t un 5 s
def Te:Nat->(RS->Tm×RS)×(RS->Tm×RS)
 | 0=>(fun s=>(.mk He [],s),fun s=>(.mk He [],s))
 | N+1=>(exR (Te N).1 (e3l (Te N).1 (Te N).2),e3l (Te N).1 (Te N).2)
def e7h(N:Nat):RS->Tm×RS:=(Te N).1
def RS.expr(s:RS):Tm×RS:=e7h 4001 s
def r3S(r:R3 Tm Int Int):R3 TS Int Int:=⟨Ui r.a,r.b,r.c⟩
end Go.Pl
namespace Go.Pl
open Go.RowKit
open Enc (enc dec is)
open EncL (encL decL isL)
end Go.Pl
namespace Go.Pl
open Go.RowKit
open Enc (enc dec is)
open EncL (encL decL isL)
theorem b8j{args:List AV}{os:List AObj}(h:Dx args os=true): ∃ s:List UInt8,args=[.pv (.str s)]∧os=[]:=by
 unfold Dx at h
 split at h
 ·exact⟨_,rfl,rfl⟩
 ·cases h
theorem c8c: ∀ args os,Dx args os=true->Zb a3b os.length (Yb os.length Ng (fun r=>r=Me args os)) Nt [] (Yd b5y args os):=fun args os h=>by
 obtain⟨s,rfl,rfl⟩:=b8j h
 exact c8g s
section
mutual
theorem L9: ∀ t:Tm,L6 t t=true
 | .mk n ks=>by rw[L6,decide_eq_true rfl,TW ks];rfl
theorem TW: ∀ ts:List Tm,Ch ts ts=true
 | []=>rfl
 | k::ks=>by rw[Ch,L9 k,TW ks];rfl
end
end
theorem c5v(r:R3 Tm Int Int):(enc r:PV)=enc (r3S r):=by
 obtain⟨a,b,c⟩:=r
 show PV.tup [enc a,enc b,enc c]=PV.tup [enc (Ui a),enc b,enc c]
 rw[a0o]
theorem KJ(s:Str):tW (Zz s).a=true:=by
 unfold Zz
 split
 ·rfl
 ·split
  ·rfl
  ·split
   ·rfl
   ·split
    ·rename_i h1 h2 h3 h4
     have hb:=AA s.s
     have g:Z9 (Vf s.s).l=true:=(Uq ⟨s.s⟩).1
     have h:=Ge.exprA hb
     have e:=Ge.endp h.hi
     exact a2i hb g (e.good (by simpa using h2))
    ·rfl
end Go.Pl
namespace Go.Pl
open Go.RowKit
section
def UpL(l:List Tok):Prop:=l.Pairwise (fun a b=>a.ln<=b.ln)∧ ∀ t∈l,1<=t.ln∧0<=t.o
theorem UpL.nil:UpL []:=⟨.nil,fun t h=>by cases h⟩
theorem a3c: ∀ (f:Nat) (s:List UInt8) (i:Nat) (ln:Int) (o:List Tok),1<=ln->UpL o->(∀ t∈o,t.ln<=ln)->UpL (GL f s i ln o).a
 | 0,s,i,ln,o,h1,h2,h3=>h2
 | f+1,s,i,ln,o,h1,h2,h3=>by
  rw[GL]
  generalize he:ln+((Lib.countByte ((s.drop i).take (V3 ⟨s.drop i⟩).toNat) 10:Nat):Int)=ln'
  have hge:ln<=ln':=by omega
  split
  ·exact h2
  ·split
   ·exact UpL.nil
   ·split
    ·exact UpL.nil
    ·refine a3c f s _ ln' _ (by omega) ⟨?_,?_⟩ ?_
     ·refine List.pairwise_append.2 ⟨h2.1,List.pairwise_singleton _ _,fun a ha b hb=> ?_⟩
      rw[List.mem_singleton]at hb
      subst hb
      have:=h3 a ha
      show a.ln<=ln'
      omega
     ·intro t ht
      rcases List.mem_append.1 ht with ht|ht
      ·exact h2.2 t ht
      ·rw[List.mem_singleton]at ht
       subst ht
       exact⟨show 1<=ln' by omega,Int.natCast_nonneg _⟩
     ·intro t ht
      rcases List.mem_append.1 ht with ht|ht
      ·have:=h3 t ht;omega
      ·rw[List.mem_singleton]at ht
       subst ht
       exact Int.le_refl _
theorem c5c(s:Str):UpL (ZR s).a:=by
 unfold ZR
 split
 ·exact UpL.nil
 ·exact a3c _ _ _ _ _ (Int.le_refl _) UpL.nil (fun t h=>by cases h)
end
theorem Ge.exprS{s:PS}(h:Zc s=true):Ge s s.expr.2:=by
 have e:=ZI h
 exact Ge.expr (by unfold Yf;omega) e.2
def blB(c:UInt8):Bool:=c==32||(c==9||c==10)
def Yw:Nat->List UInt8->Nat
 | 0,_=>0
 | f+1,r=>match r with
  | []=>0
  | c::u=>if blB c then Yw f u+1
   else if List.isPrefixOf [47,47] (c::u)then(if Lib.indexByte (c::u) 10<0 then(c::u).length else(Lib.indexByte (c::u) 10).toNat+Yw f ((c::u).drop (Lib.indexByte (c::u) 10).toNat))
   else 0
theorem R4(c:UInt8):blB c=true ↔ c=32∨c=9∨c=10:=by
 unfold blB
 simp only[Bool.or_eq_true,beq_iff_eq]
theorem Hu: ∀ (f:Nat) (s:List UInt8) (n:Nat),n<=s.length->VC f s n=n+Yw f (s.drop n)
 | 0,s,n,h=>rfl
 | f+1,s,n,h=>by
  rw[VC]
  rcases Nat.lt_or_ge n s.length with h1|h1
  ·have e:s.drop n=s[n]::s.drop (n+1):=List.drop_eq_getElem_cons h1
   have g:s.getD n 0=s[n]:=by rw[List.getD_eq_getElem?_getD,List.getElem?_eq_getElem h1];rfl
   rw[if_neg (by omega),e,g,Yw]
   by_cases hb:s[n]=32∨s[n]=9∨s[n]=10
   ·rw[if_pos hb,if_pos ((R4 _).2 hb),Hu f s (n+1) h1]
    omega
   ·rw[if_neg hb,if_neg (fun k=>hb ((R4 _).1 k))]
    split
    ·rename_i hp
     rw[<- e]
     have i:=Sg 10 (s.drop n)
     rw[List.length_drop]at i
     split
     ·rename_i hi
      rw[List.length_drop]
      omega
     ·rename_i hi
      rw[Hu f s _ (by omega),List.drop_drop]
      omega
    ·rfl
  ·rw[if_pos h1,List.drop_eq_nil_of_le h1]
   rfl
theorem b7f(r:List UInt8):(V3 ⟨r⟩).toNat=Yw (r.length+1) r:=by
 unfold V3
 rw[Int.toNat_natCast]
 have:=Hu (r.length+1) r 0 (Nat.zero_le _)
 rw[this,List.drop_zero,Nat.zero_add]
theorem Qs: ∀ (f:Nat) (r:List UInt8),Yw f r<=r.length:=fun f r=>by
 have h1:=Hu f r 0 (Nat.zero_le _)
 have h2:=(KQ f r 0 (Nat.zero_le _)).2
 rw[h1,List.drop_zero]at h2
 omega
def YP:Nat->List UInt8->Nat->Int->List Tok->R3 (List Tok) Int Int
 | 0,r,i,ln,o=>⟨o,0,0⟩
 | f+1,r,i,ln,o=>
  let k:=Yw (r.length+1) r
  let e:=ln+Lib.countByte (r.take k) 10
  if k=r.length then⟨o,0,0⟩
  else if (Zx ⟨r.drop k⟩).1=0 then⟨[],(i+k:Nat),6⟩
  else if o.length=4000 then⟨[],(i+k:Nat),3⟩
  else YP f (r.drop (k+(Zx ⟨r.drop k⟩).2.s.length)) (i+k+(Zx ⟨r.drop k⟩).2.s.length) e (o++[⟨(Zx ⟨r.drop k⟩).1,(Zx ⟨r.drop k⟩).2,e,(i+k:Nat)⟩])
theorem b3l: ∀ (f:Nat) (s:List UInt8) (i:Nat) (ln:Int) (o:List Tok),i<=s.length->GL f s i ln o=YP f (s.drop i) i ln o
 | 0,s,i,ln,o,h=>rfl
 | f+1,s,i,ln,o,h=>by
  have hk:=Qs ((s.drop i).length+1) (s.drop i)
  rw[GL,YP,b7f,List.length_drop]at *
  generalize hk':Yw (s.length - i+1) (s.drop i)=k at *
  rw[List.drop_drop,List.drop_drop]
  have e:(i+k=s.length)=(k=s.length - i):=propext ⟨fun _=>by omega,fun _=>by omega⟩
  simp only[e]
  split
  ·rfl
  ·split
   ·rfl
   ·split
    ·rfl
    ·have g:=UD ⟨s.drop (i+k)⟩
     have g:(Zx ⟨s.drop (i+k)⟩).2.s.length<=(s.drop (i+k)).length:=g
     rw[List.length_drop]at g
     rw[b3l f s _ _ _ (by omega),Nat.add_assoc]
theorem Nf(s:List UInt8)(h:s.length<=20000):ZR ⟨s⟩=YP (s.length+1) s 0 1 []:=by
 unfold ZR
 rw[if_neg (by show ¬ 20000<s.length;omega),b3l _ _ _ _ _ (Nat.zero_le _),List.drop_zero]
theorem b2v{p:UInt8->Bool}{w r0:List UInt8}(h:(w++r0).takeWhile p=w){c:UInt8}{r:List UInt8}(hc:p c=false):(w++c::r).takeWhile p=w:=by
 have ha : ∀ x∈w,p x=true:=by
  intro x e
  have h2:=List.all_takeWhile (p:=p) (l:=w++r0)
  rw[h]at h2
  exact List.all_eq_true.1 h2 x e
 rw[List.takeWhile_append_of_pos ha,List.takeWhile_cons,if_neg (by rw[hc];decide),List.append_nil]
theorem CF{c:UInt8}: ∀ {x w r:List UInt8},c ∉ x->x <+: w++c::r->x <+: w
 | [],w,r,_,_=>List.nil_prefix
 | y::x,[],r,hc,h=>by
  rw[List.nil_append,List.cons_prefix_cons]at h
  exact absurd (by rw[h.1];simp) hc
 | y::x,a::w,r,hc,h=>by
  rw[List.cons_append,List.cons_prefix_cons]at h
  rw[List.cons_prefix_cons]
  exact⟨h.1,CF (fun k=>hc (by simp[k])) h.2⟩
theorem Fz{c:UInt8}{k:Int}{w r0 r:List UInt8}(g:k≠0): ∀ (l:List (List UInt8)),(∀ x∈l,c ∉ x)->Zk l (w++r0)=(k,⟨w⟩)->Zk l (w++c::r)=(k,⟨w⟩)
 | [],_,h=>by
  have:(0:Int)=k:=congrArg Prod.fst h
  exact absurd this.symm g
 | x::l,hl,h=>by
  rw[Zk]at h ⊢
  split at h
  ·have e:x=w:=congrArg (fun q:Int×Str=>q.2.s) h
   rw[if_pos (by rw[List.isPrefixOf_iff_prefix,e];exact List.prefix_append _ _)]
   exact h
  ·rename_i hn
   rw[if_neg (fun q=>hn ?_)]
   ·exact Fz g l (fun y i=>hl y (by simp[i])) h
   ·rw[List.isPrefixOf_iff_prefix]at q ⊢
    exact(CF (hl x (by simp)) q).trans (List.prefix_append _ _)
theorem Ae: ∀ (l:List (List UInt8)) {u:List UInt8} {k:Int} {w:List UInt8},k≠0->Zk l u=(k,⟨w⟩)->w∈l∧w <+: u
 | [],u,k,w,hk,h=>by
  have:(0:Int)=k:=congrArg Prod.fst h
  exact absurd this.symm hk
 | x::l,u,k,w,hk,h=>by
  rw[Zk]at h
  split at h
  ·rename_i hp
   have e:x=w:=congrArg (fun q:Int×Str=>q.2.s) h
   rw[<- e]
   exact⟨by simp,List.isPrefixOf_iff_prefix.1 hp⟩
  ·have:=Ae l hk h
   exact⟨by simp[this.1],this.2⟩
def d6w(c:UInt8):Prop:=c=10∨c=32
def PL(R:Str):Int×Str:=if Jt.contains R.s then(2,R)else if nameI R.s then(1,R)else(0,⟨[]⟩)
def Fw(R:Str):Int×Str:=if (X5 R).2 then(3,R)else(0,⟨[]⟩)
theorem UT(a:UInt8)(u:List UInt8):Zx ⟨a::u⟩=if lowB a then PL (Yp ⟨a::u⟩ true)else if digB a then Fw (Yp ⟨a::u⟩ false)else Zk Zf (a::u):=rfl
theorem PO{R w:Str}{k:Int}(e:k≠0)(h:PL R=(k,w)):R=w:=by
 unfold PL at h
 split at h
 ·exact congrArg Prod.snd h
 ·split at h
  ·exact congrArg Prod.snd h
  ·exact absurd (show(0:Int)=k from congrArg Prod.fst h).symm e
theorem PN{R w:Str}{k:Int}(e:k≠0)(h:Fw R=(k,w)):R=w:=by
 unfold Fw at h
 split at h
 ·exact congrArg Prod.snd h
 ·exact absurd (show(0:Int)=k from congrArg Prod.fst h).symm e
theorem a8y{w r0:List UInt8}{k:Int}(i:w≠[])(g:k≠0)(h:Zx ⟨w++r0⟩=(k,⟨w⟩)){c:UInt8}(hc:d6w c)(r:List UInt8):Zx ⟨w++c::r⟩=(k,⟨w⟩):=by
 have hd : ∀ b:Bool,(digB c||(b&&lowB c))=false:=fun b=>by rcases hc with rfl|rfl <;> cases b <;> decide
 cases w with
 | nil=>exact absurd rfl i
 | cons a w=>
  have run : ∀ b:Bool,Yp ⟨a::(w++r0)⟩ b=⟨a::w⟩->Yp ⟨a::(w++c::r)⟩ b=⟨a::w⟩:=fun b e=>by
   have e:((a::w)++r0).takeWhile (fun c=>digB c||(b&&lowB c))=a::w:=congrArg Str.s e
   exact congrArg Str.mk (b2v e (hd b))
  rw[List.cons_append,UT]at h ⊢
  by_cases q:lowB a=true
  ·rw[if_pos q]at h ⊢
   have e:=PO g h
   rw[run true e]
   rw[e]at h
   exact h
  ·rw[if_neg q]at h ⊢
   by_cases q1:digB a=true
   ·rw[if_pos q1]at h ⊢
    have e:=PN g h
    rw[run false e]
    rw[e]at h
    exact h
   ·rw[if_neg q1]at h ⊢
    refine Fz (w:=a::w) (r0:=r0) g Zf ?_ h
    rcases hc with rfl|rfl <;> decide
theorem Rc{u:List UInt8}{k:Int}{w:List UInt8}(g:k≠0)(h:Zx ⟨u⟩=(k,⟨w⟩)):(∃ r0,u=w++r0)∧ ∃ a v,w=a::v∧(lowB a=true∨digB a=true∨w∈Zf):=by
 cases u with
 | nil=>
  have:(0:Int)=k:=congrArg Prod.fst h
  exact absurd this.symm g
 | cons a u=>
  have j : ∀ b:Bool,(digB a||(b&&lowB a))=true->Yp ⟨a::u⟩ b=⟨w⟩->(∃ r0,a::u=w++r0)∧ ∃ v,w=a::v:=fun b ha e=>by
   have e:(a::u).takeWhile (fun c=>digB c||(b&&lowB c))=w:=congrArg Str.s e
   refine⟨⟨(a::u).dropWhile (fun c=>digB c||(b&&lowB c)),?_⟩,?_⟩
   ·rw[<- e,List.takeWhile_append_dropWhile]
   ·rw[List.takeWhile_cons,if_pos ha]at e
    exact⟨_,e.symm⟩
  rw[UT]at h
  by_cases q:lowB a=true
  ·rw[if_pos q]at h
   obtain⟨h1,v,h2⟩:=j true (by rw[q];simp) (PO g h)
   exact⟨h1,a,v,h2,Or.inl q⟩
  ·rw[if_neg q]at h
   by_cases q1:digB a=true
   ·rw[if_pos q1]at h
    obtain⟨h1,v,h2⟩:=j false (by rw[q1];rfl) (PN g h)
    exact⟨h1,a,v,h2,Or.inr (Or.inl q1)⟩
   ·rw[if_neg q1]at h
    obtain⟨h1,h2⟩:=Ae Zf g h
    have i : ∀ x∈Zf,x≠[]:=by decide
    cases w with
    | nil=>exact absurd rfl (i _ h1)
    | cons b v=>
     obtain⟨r0,hr⟩:=h2
     exact⟨⟨r0,hr.symm⟩,b,v,rfl,Or.inr (Or.inr h1)⟩
structure Gd (t:Tok):Prop where
 k:t.k≠0
 ne:t.t.s≠[]
 ft : ∀ c r,d6w c->Zx ⟨t.t.s++c::r⟩=(t.k,t.t)
 st : ∀ c r f,d6w c->Yw f (t.t.s++c::r)=0
theorem U0{a:UInt8}{u:List UInt8}(h1:blB a=false)(h2:List.isPrefixOf [47,47] (a::u)=false): ∀ f,Yw f (a::u)=0
 | 0=>rfl
 | f+1=>by rw[Yw,if_neg (by rw[h1];decide),if_neg (by rw[h2];decide)]
theorem c0c{a:UInt8}(h:lowB a=true∨digB a=true):blB a=false∧a≠47:=by
 have g:blB a=false ↔ a≠32∧a≠9∧a≠10:=by
  rw[<- Bool.not_eq_true,R4]
  constructor
  ·intro h;exact⟨fun e=>h (Or.inl e),fun e=>h (Or.inr (Or.inl e)),fun e=>h (Or.inr (Or.inr e))⟩
  ·rintro⟨h1,h2,h3⟩ (e|e|e)
   ·exact h1 e
   ·exact h2 e
   ·exact h3 e
 rw[g]
 unfold lowB digB at h
 refine⟨⟨?_,?_,?_⟩,?_⟩ <;> (rintro rfl;rcases h with h|h <;> revert h <;> decide)
theorem BK{u:List UInt8}{ln o:Int}(g:(Zx ⟨u⟩).1≠0):Gd ⟨(Zx ⟨u⟩).1,(Zx ⟨u⟩).2,ln,o⟩:=by
 obtain⟨⟨r0,hr⟩,a,v,hw,hc⟩:=Rc (u:=u) (w:=(Zx ⟨u⟩).2.s) g rfl
 have ne:(Zx ⟨u⟩).2.s≠[]:=by rw[hw];simp
 refine⟨g,ne,fun c r h=> ?_,fun c r f h=> ?_⟩
 ·exact a8y (r0:=r0) ne g (by rw[<- hr]) h r
 ·show Yw f ((Zx ⟨u⟩).2.s++c::r)=0
  rcases hc with hc|hc|hc
  ·obtain⟨h1,h2⟩:=c0c (Or.inl hc)
   rw[hw]
   refine U0 h1 ?_ f
   rw[List.isPrefixOf,show((47:UInt8)==a)=false from beq_eq_false_iff_ne.2 (Ne.symm h2)];rfl
  ·obtain⟨h1,h2⟩:=c0c (Or.inr hc)
   rw[hw]
   refine U0 h1 ?_ f
   rw[List.isPrefixOf,show((47:UInt8)==a)=false from beq_eq_false_iff_ne.2 (Ne.symm h2)];rfl
  ·generalize (Zx ⟨u⟩).2.s=w at *
   have hs : ∀ x∈Zf,∀ a v,x=a::v->blB a=false∧(a=47->v=[]):=by
    intro x i a v e
    subst e
    have : ∀ y∈Zf,(match y with|[]=>true|a::v=> !(blB a)&&(!(a==47)||v.isEmpty))=true:=by decide
    have:=this _ i
    simp only[Bool.and_eq_true,Bool.not_eq_true',Bool.or_eq_true,List.isEmpty_iff]at this
    exact⟨this.1,fun e=>this.2.resolve_left (by rw[e];decide)⟩
   obtain⟨h1,h2⟩:=hs w hc a v hw
   rw[hw]
   refine U0 h1 ?_ f
   by_cases ha:a=47
   ·rw[h2 ha,ha]
    rcases h with rfl|rfl <;> rfl
   ·rw[List.isPrefixOf,show((47:UInt8)==a)=false from beq_eq_false_iff_ne.2 (Ne.symm ha)];rfl
def R9(l:List Tok):Nat:=(l.map fun t=>t.t.s.length).sum
theorem Lu: ∀ (f:Nat) (r:List UInt8) (i:Nat) (ln:Int) (o:List Tok),(∀ t∈o,Gd t)->(∀ t∈(YP f r i ln o).a,Gd t)∧R9 (YP f r i ln o).a<=R9 o+r.length∧(∀ t∈(YP f r i ln o).a,t∈o∨t.ln<=ln+r.length)
 | 0,r,i,ln,o,h=>⟨h,Nat.le_add_right _ _,fun t ht=>Or.inl ht⟩
 | f+1,r,i,ln,o,h=>by
  have hk:=Qs (r.length+1) r
  rw[YP]
  generalize Yw (r.length+1) r=k at *
  split
  ·exact⟨h,Nat.le_add_right _ _,fun t ht=>Or.inl ht⟩
  ·split
   ·exact⟨fun t ht=>(by cases ht),Nat.zero_le _,fun t ht=>(by cases ht)⟩
   ·rename_i h1 h2
    split
    ·exact⟨fun t ht=>(by cases ht),Nat.zero_le _,fun t ht=>(by cases ht)⟩
    ·have e:=UD ⟨r.drop k⟩
     have e:(Zx ⟨r.drop k⟩).2.s.length<=(r.drop k).length:=e
     rw[List.length_drop]at e
     have hc:List.count 10 (r.take k)<=k:=Nat.le_trans List.count_le_length (by rw[List.length_take];omega)
     have hc:((Lib.countByte (r.take k) 10:Nat):Int)<=k:=by show((List.count 10 (r.take k):Nat):Int)<=k;omega
     have g:=Lu f (r.drop (k+(Zx ⟨r.drop k⟩).2.s.length)) (i+k+(Zx ⟨r.drop k⟩).2.s.length) (ln+Lib.countByte (r.take k) 10) (o++[⟨(Zx ⟨r.drop k⟩).1,(Zx ⟨r.drop k⟩).2,ln+Lib.countByte (r.take k) 10,(i+k:Nat)⟩]) (by
      intro t ht
      rcases List.mem_append.1 ht with ht|ht
      ·exact h t ht
      ·rw[List.mem_singleton]at ht
       subst ht
       exact BK h2)
     obtain⟨q,j,l⟩:=g
     refine⟨q,?_,fun t ht=> ?_⟩
     ·refine Nat.le_trans j ?_
      unfold R9
      rw[List.map_append,List.sum_append,List.length_drop]
      simp only[List.map_cons,List.map_nil,List.sum_cons,List.sum_nil]
      omega
     ·rcases l t ht with h3|h3
      ·rcases List.mem_append.1 h3 with h3|h3
       ·exact Or.inl h3
       ·rw[List.mem_singleton]at h3
        subst h3
        right
        show ln+((Lib.countByte (r.take k) 10:Nat):Int)<=ln+r.length
        omega
      ·right
       rw[List.length_drop]at h3
       omega
theorem Ac(s:List UInt8):(∀ t∈(ZR ⟨s⟩).a,Gd t)∧R9 (ZR ⟨s⟩).a<=s.length∧ ∀ t∈(ZR ⟨s⟩).a,t.ln<=1+s.length:=by
 by_cases h:s.length<=20000
 ·rw[Nf s h]
  obtain⟨h1,h2,h3⟩:=Lu (s.length+1) s 0 1 [] (fun t ht=>by cases ht)
  refine⟨h1,by simpa [R9]using h2,fun t ht=> ?_⟩
  rcases h3 t ht with h3|h3
  ·cases h3
  ·exact h3
 ·have e:ZR ⟨s⟩=⟨[],0,3⟩:=by unfold ZR;rw[if_pos (by show 20000<s.length;omega)]
  rw[e]
  exact⟨fun t ht=>(by cases ht),Nat.zero_le _,fun t ht=>(by cases ht)⟩
def spL(lead trail:List UInt8):List Tok->List UInt8
 | []=>[]
 | t::ts=>lead++(t.t.s++(trail++spL lead trail ts))
def e4q(x y:Tok):Prop:=y.k=x.k∧y.t=x.t
inductive FT:List Tok->List Tok->Prop where
 | nil:FT [] []
 | cons {x y:Tok} {a b:List Tok}:e4q x y->FT a b->FT (x::a) (y::b)
theorem FT.len{a b:List Tok}(h:FT a b):b.length=a.length:=by
 induction h with
 | nil=>rfl
 | cons _ _ ih=>rw[List.length_cons,List.length_cons,ih]
theorem FT.get{a b:List Tok}(h:FT a b)(d:Tok): ∀ k,k<a.length->e4q (a.getD k d) (b.getD k d):=by
 induction h with
 | nil=>intro k e;cases e
 | cons hs _ ih=>
  intro k e
  cases k with
  | zero=>exact hs
  | succ k=>exact ih k (Nat.lt_of_succ_lt_succ e)
theorem OP{lead trail:List UInt8}: ∀ (ts:List Tok),(∀ t∈ts,Gd t)->(spL lead trail ts).length<=R9 ts*(1+lead.length+trail.length)∧ts.length<=R9 ts
 | [],_=>⟨Nat.zero_le _,Nat.le_refl _⟩
 | t::ts,h=>by
  obtain⟨h1,h2⟩:=OP (lead:=lead) (trail:=trail) ts (fun t ht=>h t (by simp[ht]))
  have g:0<t.t.s.length:=List.length_pos_iff.2 (h t (by simp)).ne
  have e:R9 (t::ts)=t.t.s.length+R9 ts:=rfl
  have i:t.t.s.length*(1+lead.length+trail.length)=t.t.s.length+t.t.s.length*(lead.length+trail.length):=by rw[Nat.add_assoc,Nat.mul_add,Nat.mul_one]
  have k:lead.length+trail.length<=t.t.s.length*(lead.length+trail.length):=Nat.le_mul_of_pos_left _ g
  refine⟨?_,by rw[e,List.length_cons];omega⟩
  rw[e,spL,List.length_append,List.length_append,List.length_append,Nat.add_mul,i]
  omega
theorem Dz{a:UInt8}{u:List UInt8}{f:Nat}(h:blB a=true):Yw (f+1) (a::u)=Yw f u+1:=by rw[Yw,if_pos h]
theorem Ej(c:UInt8)(r:List UInt8): ∀ u:List UInt8,(0<=Lib.indexByte u c->Lib.indexByte (u++r) c=Lib.indexByte u c)∧(Lib.indexByte u c<0->Lib.indexByte (u++c::r) c=u.length)
 | []=>⟨fun h=>by rw[Lib.indexByte]at h;exact absurd h (by decide),fun _=>by rw[List.nil_append,Lib.indexByte,if_pos (beq_self_eq_true c)];rfl⟩
 | a::u=>by
  obtain⟨h1,h2⟩:=Ej c r u
  have hb:=Sg c u
  refine⟨fun h=> ?_,fun h=> ?_⟩
  ·rw[Lib.indexByte]at h
   rw[List.cons_append,Lib.indexByte,Lib.indexByte]
   split
   ·rfl
   ·rename_i q
    rw[if_neg q]at h
    have hn:0<=Lib.indexByte u c:=by
     split at h
     ·exact absurd h (by decide)
     ·rename_i e
      have e:Lib.indexByte u c ≠ -1:=by simpa using e
      omega
    rw[h1 hn]
  ·rw[Lib.indexByte]at h
   rw[List.cons_append,Lib.indexByte]
   split at h
   ·exact absurd h (by decide)
   ·rename_i q
    rw[if_neg q]
    have hn:Lib.indexByte u c<0:=by
     split at h
     ·rename_i e
      have e:Lib.indexByte u c = -1:=by simpa using e
      omega
     ·rename_i e
      have e:Lib.indexByte u c ≠ -1:=by simpa using e
      omega
    rw[h2 hn,if_neg (by simp),List.length_cons]
    rfl
theorem c5q{c:UInt8}{u:List UInt8}(hp:List.isPrefixOf [47,47] (c::u)=true):c=47:=by
 rw[List.isPrefixOf,Bool.and_eq_true,beq_iff_eq]at hp
 exact hp.1.symm
theorem b7m{c:UInt8}{u:List UInt8}(hp:List.isPrefixOf [47,47] (c::u)=true)(hi : ¬ Lib.indexByte (c::u) 10<0):0<(Lib.indexByte (c::u) 10).toNat∧(Lib.indexByte (c::u) 10).toNat<(c::u).length:=by
 have h1:=b9v (c:=10) (l:=c::u) (by rw[c5q hp];exact(by decide:(47:UInt8)≠10)) (by simp) (by omega)
 have h2:=Sg 10 (c::u)
 omega
theorem UY: ∀ (f g:Nat) (r:List UInt8),r.length<f->r.length<g->Yw f r=Yw g r
 | 0,_,r,h,_=>by omega
 | _+1,0,r,_,h=>by omega
 | f+1,g+1,[],_,_=>rfl
 | f+1,g+1,c::u,h1,h2=>by
  rw[List.length_cons]at h1 h2
  rw[Yw,Yw]
  split
  ·rw[UY f g u (by omega) (by omega)]
  ·split
   ·rename_i hp
    split
    ·rfl
    ·rename_i hi
     obtain⟨p1,p2⟩:=b7m hp hi
     rw[UY f g _ (by rw[List.length_drop,List.length_cons];omega) (by rw[List.length_drop,List.length_cons];omega)]
   ·rfl
theorem c4k{c:UInt8}{u r:List UInt8}:List.isPrefixOf [47,47] (c::u++10::r)=List.isPrefixOf [47,47] (c::u):=by
 have:List.isPrefixOf [47,47] (c::u++10::r)=true ↔ List.isPrefixOf [47,47] (c::u)=true:=by
  rw[List.isPrefixOf_iff_prefix,List.isPrefixOf_iff_prefix]
  exact⟨CF (by decide),fun h=>h.trans (List.prefix_append _ _)⟩
 cases h:List.isPrefixOf [47,47] (c::u)with
 | true=>exact this.2 h
 | false=>
  cases h2:List.isPrefixOf [47,47] (c::u++10::r)with
  | false=>rfl
  | true=>rw[this.1 h2]at h;cases h
theorem JW(v:List UInt8): ∀ (f F:Nat) (u:List UInt8),u.length<f->(u++10::v).length<F ->
  (Yw f u<u.length->Yw F (u++10::v)=Yw f u)∧(Yw f u=u.length->Yw F (u++10::v)=u.length+1+Yw (v.length+1) v)
 | 0,_,u,h,_=>by omega
 | _+1,0,u,_,h=>by omega
 | f+1,F+1,[],h1,h2=>by
  refine⟨fun h=>by simp at h,fun _=> ?_⟩
  rw[List.nil_append,Dz rfl,UY F (v.length+1) v (by simp at h2;omega) (by omega)]
  simp
  omega
 | f+1,F+1,c::u,h1,h2=>by
  rw[List.length_cons]at h1
  have k:(u++10::v).length+1<F+1:=h2
  rw[List.cons_append,Yw,Yw]
  by_cases q:blB c=true
  ·rw[if_pos q,if_pos q,List.length_cons]
   obtain⟨g,i⟩:=JW v f F u (by omega) (by omega)
   exact⟨fun h=>by rw[g (by omega)],fun h=>by rw[i (by omega)];omega⟩
  ·rw[if_neg q,if_neg q,<- List.cons_append,c4k]
   by_cases hp:List.isPrefixOf [47,47] (c::u)=true
   ·rw[if_pos hp,if_pos hp]
    obtain⟨r,x2⟩:=Ej 10 (10::v) (c::u)
    obtain⟨_,s⟩:=Ej 10 v (c::u)
    by_cases hi:Lib.indexByte (c::u) 10<0
    ·rw[if_pos hi,s hi,if_neg (by omega)]
     refine⟨fun h=>absurd h (by omega),fun _=> ?_⟩
     have e:((c::u).length:Int).toNat=(c::u).length:=Int.toNat_natCast _
     rw[e,List.drop_left]
     cases F with
     | zero=>omega
     | succ F=>rw[Dz rfl,UY F (v.length+1) v (by rw[List.length_append,List.length_cons]at k;omega) (by omega)];omega
    ·rw[if_neg hi,r (by omega),if_neg hi]
     obtain⟨z,l⟩:=b7m hp hi
     generalize (Lib.indexByte (c::u) 10).toNat=j at z l ⊢
     rw[List.drop_append_of_le_length (by omega)]
     obtain⟨g,i⟩:=JW v f F ((c::u).drop j) (by rw[List.length_drop,List.length_cons];omega) (by rw[List.length_append,List.length_drop,List.length_cons,List.length_cons]at *;omega)
     have y:((c::u).drop j).length=(c::u).length - j:=List.length_drop
     rw[y]at g i
     exact⟨fun h=>by rw[g (by omega)],fun h=>by rw[i (by omega)];omega⟩
   ·rw[if_neg hp,if_neg hp]
    exact⟨fun _=>rfl,fun h=>by simp at h⟩
theorem Gi{p:UInt8->Bool}{c:UInt8}(hc:p c=false)(v:List UInt8): ∀ y:List UInt8,(y++c::v).takeWhile p=y.takeWhile p
 | []=>by rw[List.nil_append,List.takeWhile_cons,if_neg (by rw[hc];decide)];rfl
 | a::y=>by rw[List.cons_append,List.takeWhile_cons,List.takeWhile_cons,Gi hc v y]
theorem FE{c:UInt8}(v:List UInt8): ∀ (l:List (List UInt8)) (y:List UInt8),(∀ x∈l,c ∉ x)->Zk l (y++c::v)=Zk l y
 | [],y,_=>rfl
 | x::l,y,h=>by
  rw[Zk,Zk,FE v l y (fun z g=>h z (by simp[g]))]
  have:List.isPrefixOf x (y++c::v)=List.isPrefixOf x y:=by
   have k:List.isPrefixOf x (y++c::v)=true ↔ List.isPrefixOf x y=true:=by
    rw[List.isPrefixOf_iff_prefix,List.isPrefixOf_iff_prefix]
    exact⟨CF (h x (by simp)),fun h=>h.trans (List.prefix_append _ _)⟩
   cases e:List.isPrefixOf x y with
   | true=>exact k.2 e
   | false=>
    cases i:List.isPrefixOf x (y++c::v)with
    | false=>rfl
    | true=>rw[k.1 i]at e;cases e
  rw[this]
theorem a6z(v:List UInt8){y:List UInt8}(e:y≠[]):Zx ⟨y++10::v⟩=Zx ⟨y⟩:=by
 cases y with
 | nil=>exact absurd rfl e
 | cons a y=>
  have run : ∀ b:Bool,Yp ⟨a::(y++10::v)⟩ b=Yp ⟨a::y⟩ b:=fun b=>congrArg Str.mk (Gi (p:=fun c=>digB c||(b&&lowB c)) (c:=10) (by cases b <;> decide) v (a::y))
  rw[List.cons_append,UT,UT,run,run,<- List.cons_append,FE v Zf (a::y) (by decide)]
theorem c0s{y:List UInt8}(g:(Zx ⟨y⟩).1≠0):(10:UInt8) ∉ (Zx ⟨y⟩).2.s:=by
 cases y with
 | nil=>exact absurd rfl g
 | cons a y=>
  have run : ∀ b:Bool,(10:UInt8) ∉ (Yp ⟨a::y⟩ b).s:=fun b h=>by
   have h2:=List.all_eq_true.1 (List.all_takeWhile (p:=fun c=>digB c||(b&&lowB c)) (l:=a::y)) _ h
   cases b <;> exact absurd h2 (by decide)
  rw[UT]at g ⊢
  by_cases q:lowB a=true
  ·rw[if_pos q]at g ⊢
   have e:Yp ⟨a::y⟩ true=(PL (Yp ⟨a::y⟩ true)).2:=PO (R:=Yp ⟨a::y⟩ true) g rfl
   rw[<- e]
   exact run true
  ·rw[if_neg q]at g ⊢
   by_cases q1:digB a=true
   ·rw[if_pos q1]at g ⊢
    have e:Yp ⟨a::y⟩ false=(Fw (Yp ⟨a::y⟩ false)).2:=PN (R:=Yp ⟨a::y⟩ false) g rfl
    rw[<- e]
    exact run false
   ·rw[if_neg q1]at g ⊢
    obtain⟨h1,_⟩:=Ae Zf (u:=a::y) (w:=(Zk Zf (a::y)).2.s) g rfl
    have : ∀ x∈Zf,(10:UInt8) ∉ x:=by decide
    exact this _ h1
theorem MN(v:List UInt8): ∀ (f:Nat) (F:Nat) (u:List UInt8) (i:Nat) (ln:Int) (o:List Tok),u.length<f->(u++10::v).length<F->(YP f u i ln o).c=0-> ∃ l,v.length<l∧YP F (u++10::v) i ln o=YP l v (i+u.length+1) (ln+List.count 10 u+1) (YP f u i ln o).a
 | 0,_,u,i,ln,o,h,_,_=>by omega
 | _+1,0,u,i,ln,o,_,h,_=>by omega
 | f+1,F+1,u,i,ln,o,h1,h2,hc=>by
  obtain⟨D,K⟩:=JW v (u.length+1) ((u++10::v).length+1) u (by omega) (by omega)
  have hk:=Qs (u.length+1) u
  rw[YP]at hc
  rw[show YP (f+1) u i ln o=_ from by rw[YP]]
  generalize hkk:Yw (u.length+1) u=k at *
  by_cases q:k=u.length
  ·rw[if_pos q]
   refine⟨F+1,by rw[List.length_append,List.length_cons]at h2;omega,?_⟩
   have hv:=Qs (v.length+1) v
   rw[YP,YP,K q]
   generalize Yw (v.length+1) v=w at *
   have hd : ∀ n,(u++10::v).drop (u.length+1+n)=v.drop n:=fun n=>by
    rw[Nat.add_assoc,<- List.drop_drop,List.drop_left,Nat.add_comm 1 n]
    rfl
   have ht:((Lib.countByte ((u++10::v).take (u.length+1+w)) 10:Nat):Int)=List.count 10 u+1+Lib.countByte (v.take w) 10:=by
    have e:(u++10::v).take (u.length+1+w)=u++10::v.take w:=by
     rw[Nat.add_assoc,List.take_length_add_append,Nat.add_comm 1 w]
     rfl
    rw[e]
    show((List.count 10 (u++10::v.take w):Nat):Int)=List.count 10 u+1+((List.count 10 (v.take w):Nat):Int)
    rw[List.count_append,List.count_cons_self]
    omega
   have j:(u.length+1+w=(u++10::v).length)=(w=v.length):=propext (by rw[List.length_append,List.length_cons];omega)
   have g:ln+(List.count 10 u+1+((Lib.countByte (v.take w) 10:Nat):Int))=ln+List.count 10 u+1+Lib.countByte (v.take w) 10:=by omega
   have z:i+(u.length+1+w)=i+u.length+1+w:=by omega
   have B : ∀ m,(u++10::v).drop (u.length+1+w+m)=v.drop (w+m):=fun m=>by rw[Nat.add_assoc (u.length+1)];exact hd _
   simp only[hd,B,ht,j,g,z]
  ·have y:k<u.length:=by omega
   rw[if_neg q]at hc ⊢
   have A:(u++10::v).drop k=u.drop k++10::v:=List.drop_append_of_le_length (by omega)
   have C:u.drop k≠[]:=by
    intro e
    have:=congrArg List.length e
    rw[List.length_drop]at this
    simp at this
    omega
   have E:=a6z v C
   have r:(u++10::v).take k=u.take k:=List.take_append_of_le_length (by omega)
   by_cases q1:(Zx ⟨u.drop k⟩).1=0
   ·rw[if_pos q1]at hc;exact absurd (show(6:Int)=0 from hc) (by decide)
   rw[if_neg q1]at hc ⊢
   by_cases q2:o.length=4000
   ·rw[if_pos q2]at hc;exact absurd (show(3:Int)=0 from hc) (by decide)
   rw[if_neg q2]at hc ⊢
   have j:=UD ⟨u.drop k⟩
   have j:(Zx ⟨u.drop k⟩).2.s.length<=(u.drop k).length:=j
   rw[List.length_drop]at j
   have hpos:0<(Zx ⟨u.drop k⟩).2.s.length:=List.length_pos_iff.2 (BK (ln:=0) (o:=0) q1).ne
   rw[YP,D y,A,E,r,if_neg (show ¬ k=(u++10::v).length by rw[List.length_append];omega),if_neg q1,if_neg q2,List.drop_append_of_le_length (by omega)]
   obtain⟨l,J,e⟩:=MN v f F (u.drop (k+(Zx ⟨u.drop k⟩).2.s.length)) (i+k+(Zx ⟨u.drop k⟩).2.s.length) (ln+Lib.countByte (u.take k) 10) _ (by rw[List.length_drop];omega) (by rw[List.length_append,List.length_drop,List.length_cons]at *;omega) hc
   refine⟨l,J,?_⟩
   have H:u.drop k=(Zx ⟨u.drop k⟩).2.s++u.drop (k+(Zx ⟨u.drop k⟩).2.s.length):=by
    obtain⟨⟨I,hr⟩,_⟩:=Rc (u:=u.drop k) (w:=(Zx ⟨u.drop k⟩).2.s) q1 rfl
    have:u.drop (k+(Zx ⟨u.drop k⟩).2.s.length)=I:=by
     rw[<- List.drop_drop]
     generalize (Zx ⟨u.drop k⟩).2.s=w at hr ⊢
     rw[hr,List.drop_left]
    rw[this]
    exact hr
   have hcn:List.count 10 u=List.count 10 (u.take k)+List.count 10 (u.drop (k+(Zx ⟨u.drop k⟩).2.s.length)):=by
    have e1:List.count 10 u=List.count 10 (u.take k)+List.count 10 (u.drop k):=by rw[<- List.count_append,List.take_append_drop]
    have e2:List.count 10 (u.drop k)=List.count 10 (Zx ⟨u.drop k⟩).2.s+List.count 10 (u.drop (k+(Zx ⟨u.drop k⟩).2.s.length)):=by rw[<- List.count_append,<- H]
    have e3:List.count 10 (Zx ⟨u.drop k⟩).2.s=0:=List.count_eq_zero.2 (c0s q1)
    omega
   rw[e,List.length_drop,show i+k+(Zx ⟨u.drop k⟩).2.s.length+(u.length - (k+(Zx ⟨u.drop k⟩).2.s.length))+1=i+u.length+1 by omega]
   have g:ln+((Lib.countByte (u.take k) 10:Nat):Int)+List.count 10 (u.drop (k+(Zx ⟨u.drop k⟩).2.s.length))+1=ln+List.count 10 u+1:=by
    show ln+((List.count 10 (u.take k):Nat):Int)+_+1=_
    omega
   rw[g]
def e2a(x y:Tok):Prop:=y.k=x.k∧y.t=x.t∧y.ln=x.ln
inductive FL:List Tok->List Tok->Prop where
 | nil:FL [] []
 | cons {x y:Tok} {a b:List Tok}:e2a x y->FL a b->FL (x::a) (y::b)
theorem FL.len{a b:List Tok}(h:FL a b):b.length=a.length:=by
 induction h with
 | nil=>rfl
 | cons _ _ ih=>rw[List.length_cons,List.length_cons,ih]
theorem FL.get{a b:List Tok}(h:FL a b)(d:Tok): ∀ k,k<a.length->e2a (a.getD k d) (b.getD k d):=by
 induction h with
 | nil=>intro k e;cases e
 | cons hs _ ih=>
  intro k e
  cases k with
  | zero=>exact hs
  | succ k=>exact ih k (Nat.lt_of_succ_lt_succ e)
theorem a5v: ∀ (f:Nat) (u:List UInt8) (i j:Nat) (ln:Int) (p o:List Tok),u.length<f->p.length+u.length<4000->o.length+u.length<4000->(YP f u i ln p).c=0-> ∃ T e,YP f u i ln p=⟨p++T,0,0⟩∧YP f u j ln o=⟨o++e,0,0⟩∧FL T e
 | 0,u,i,j,ln,p,o,h,_,_,_=>by omega
 | f+1,u,i,j,ln,p,o,h,hp,ho,hc=>by
  have hk:=Qs (u.length+1) u
  rw[YP]at hc
  rw[YP,YP]
  generalize Yw (u.length+1) u=k at *
  by_cases q:k=u.length
  ·rw[if_pos q,if_pos q]
   exact⟨[],[],by rw[List.append_nil],by rw[List.append_nil],.nil⟩
  ·rw[if_neg q]at hc ⊢
   rw[if_neg q]
   by_cases q1:(Zx ⟨u.drop k⟩).1=0
   ·rw[if_pos q1]at hc;exact absurd (show(6:Int)=0 from hc) (by decide)
   rw[if_neg q1]at hc ⊢
   rw[if_neg q1]
   rw[if_neg (show ¬ p.length=4000 by omega)]at hc ⊢
   rw[if_neg (show ¬ o.length=4000 by omega)]
   have g:=UD ⟨u.drop k⟩
   have g:(Zx ⟨u.drop k⟩).2.s.length<=(u.drop k).length:=g
   rw[List.length_drop]at g
   have hpos:0<(Zx ⟨u.drop k⟩).2.s.length:=List.length_pos_iff.2 (BK (ln:=0) (o:=0) q1).ne
   obtain⟨T,e,r,l,F⟩:=a5v f (u.drop (k+(Zx ⟨u.drop k⟩).2.s.length)) (i+k+(Zx ⟨u.drop k⟩).2.s.length) (j+k+(Zx ⟨u.drop k⟩).2.s.length) (ln+Lib.countByte (u.take k) 10)
    (p++[⟨(Zx ⟨u.drop k⟩).1,(Zx ⟨u.drop k⟩).2,ln+Lib.countByte (u.take k) 10,(i+k:Nat)⟩]) (o++[⟨(Zx ⟨u.drop k⟩).1,(Zx ⟨u.drop k⟩).2,ln+Lib.countByte (u.take k) 10,(j+k:Nat)⟩])
    (by rw[List.length_drop];omega) (by rw[List.length_append,List.length_drop];simp only[List.length_cons,List.length_nil];omega) (by rw[List.length_append,List.length_drop];simp only[List.length_cons,List.length_nil];omega) hc
   rw[r,l,List.append_assoc,List.append_assoc]
   exact⟨_,_,rfl,rfl,.cons ⟨rfl,rfl,rfl⟩ F⟩
theorem Vs(f:Nat)(r:List UInt8)(i:Nat)(ln:Int)(o:List Tok):YP f (32::r) i ln o=YP f r (i+1) ln o:=by
 cases f with
 | zero=>rfl
 | succ f=>
  have e:Yw ((32::r).length+1) (32::r)=Yw (r.length+1) r+1:=Dz rfl
  rw[YP,YP,e]
  generalize Yw (r.length+1) r=k
  have hd : ∀ n,(32::r).drop (k+1+n)=r.drop (k+n):=fun n=>by rw[show k+1+n=(k+n)+1 by omega];rfl
  have hc:Lib.countByte ((32::r).take (k+1)) 10=Lib.countByte (r.take k) 10:=by
   show List.count 10 (32::r.take k)=List.count 10 (r.take k)
   rw[List.count_cons_of_ne (by decide)]
  have h:(k+1=(32::r).length)=(k=r.length):=propext (by rw[List.length_cons];omega)
  have hi:i+(k+1)=i+1+k:=by omega
  have g:(32::r).drop (k+1)=r.drop k:=rfl
  simp only[hd,hc,h,hi,g]
theorem Xt{f:Nat}{a:UInt8}{w r:List UInt8}{k:Int}{i:Nat}{ln:Int}{o:List Tok}(h1:blB a=false)(h2:List.isPrefixOf [47,47] (a::(w++r))=false)(h:Zx ⟨a::(w++r)⟩=(k,⟨a::w⟩))(g:k≠0)(ho:o.length<4000):
  YP (f+1) (a::(w++r)) i ln o=YP f r (i+(w.length+1)) ln (o++[⟨k,⟨a::w⟩,ln,i⟩]):=by
 rw[YP,U0 h1 h2,List.drop_zero,h,if_neg (by simp),if_neg g,if_neg (by omega)]
 have e:(a::(w++r)).drop (0+(a::w).length)=r:=by
  rw[Nat.zero_add,<- List.cons_append,List.drop_left]
 rw[e]
 have:ln+((Lib.countByte ((a::(w++r)).take 0) 10:Nat):Int)=ln:=by
  show ln+((0:Nat):Int)=ln
  omega
 rw[this]
 rfl
section
structure Ctx0 (pre post:List UInt8) (P Q:List Tok):Prop where
 hp : ∀ F r,YP (F+P.length) (pre++r) 0 1 []=YP F r pre.length 1 P
 hq : ∀ F i ln o,post.length<F->o.length<3990-> ∃ Q',FT Q Q'∧YP F post i ln o=⟨o++Q',0,0⟩
 lp:P.length<=pre.length∧pre.length<=20
 lq:post.length<=20
theorem c6b{pre post:List UInt8}{P Q:List Tok}(K:Ctx0 pre post P Q){u:List UInt8}(hu:u.length<=200)(hc:(ZR ⟨u⟩).c=0): ∃ e Q',ZR ⟨pre++(u++10::post)⟩=⟨P++(e++Q'),0,0⟩∧FL (ZR ⟨u⟩).a e∧FT Q Q':=by
 have l1:=K.lp
 have l2:=K.lq
 have g:(pre++(u++10::post)).length<=20000:=by
  rw[List.length_append,List.length_append,List.length_cons];omega
 rw[Nf u (by omega)]at hc ⊢
 obtain⟨T,e,k,l,F⟩:=a5v (u.length+1) u 0 pre.length 1 [] P (by omega) (by simp;omega) (by omega) hc
 rw[Nf _ g]
 obtain⟨G,q⟩ : ∃ G,(pre++(u++10::post)).length+1=G+P.length:=⟨(pre++(u++10::post)).length+1 - P.length,by rw[List.length_append];omega⟩
 have i:(u++10::post).length<G:=by rw[List.length_append]at q;omega
 rw[q,K.hp]
 obtain⟨F',h,r⟩:=MN post (u.length+1) G u pre.length 1 P (by omega) i (by rw[l])
 rw[r,l]
 have lt:=F.len
 have lT:T.length<=200:=by
  have h1:=Ac u
  have s:(YP (u.length+1) u 0 1 []).a=T:=by rw[k];rfl
  rw[Nf u (by omega),s]at h1
  have h2:=(OP (lead:=[]) (trail:=[]) _ h1.1).2
  have h3:=h1.2.1
  omega
 obtain⟨Q',FQ,j⟩:=K.hq F' (pre.length+u.length+1) (1+List.count 10 u+1) (P++e) h (by rw[List.length_append];omega)
 refine⟨e,Q',?_,?_,FQ⟩
 ·rw[show((1:Int)+(List.count 10 u:Nat)+1)=1+List.count 10 u+1 from rfl]at j
  rw[j,List.append_assoc]
 ·rw[k,List.nil_append];exact F
theorem Uu{a:UInt8}{r:List UInt8}(h1:lowB a=false)(h2:digB a=false)(h:Zk Zf (a::r)=(4,⟨[a]⟩)):Zx ⟨a::([]++r)⟩=(4,⟨[a]⟩):=by
 rw[List.nil_append,UT,if_neg (by rw[h1];decide),if_neg (by rw[h2];decide)]
 exact h
theorem K8{a c:UInt8}(h1:lowB a=false)(h2:digB a=true)(hc:(digB c||(false&&lowB c))=false)(ht:[a].takeWhile (fun c=>digB c||(false&&lowB c))=[a])(g:Fw ⟨[a]⟩=(3,⟨[a]⟩))(r:List UInt8):Zx ⟨a::([]++(c::r))⟩=(3,⟨[a]⟩):=by
 have e:Yp ⟨a::([]++(c::r))⟩ false=⟨[a]⟩:=congrArg Str.mk ((Gi (p:=fun c=>digB c||(false&&lowB c)) hc r [a]).trans ht)
 rw[UT,if_neg (by rw[h1];decide),if_pos h2,e]
 exact g
theorem H8{k:Int}{a c:UInt8}{w:List UInt8}(h1:lowB a=true)(hc:(digB c||(true&&lowB c))=false)(ht:(a::w).takeWhile (fun c=>digB c||(true&&lowB c))=a::w)(g:PL ⟨a::w⟩=(k,⟨a::w⟩))(r:List UInt8):Zx ⟨a::(w++(c::r))⟩=(k,⟨a::w⟩):=by
 have e:Yp ⟨a::(w++(c::r))⟩ true=⟨a::w⟩:=congrArg Str.mk ((Gi (p:=fun c=>digB c||(true&&lowB c)) hc r (a::w)).trans ht)
 rw[UT,if_pos h1,e]
 exact g
theorem e4l:Fw ⟨[49]⟩=(3,⟨[49]⟩):=by kernel_rfl
theorem e7r:Fw ⟨[50]⟩=(3,⟨[50]⟩):=by kernel_rfl
theorem e6z:Fw ⟨[51]⟩=(3,⟨[51]⟩):=by kernel_rfl
theorem e5n:PL ⟨[108,101,116]⟩=(2,⟨[108,101,116]⟩):=by kernel_rfl
theorem e7l:PL ⟨[105,110]⟩=(2,⟨[105,110]⟩):=by kernel_rfl
theorem fwx:PL ⟨[120]⟩=(1,⟨[120]⟩):=by kernel_rfl
theorem fwf:PL ⟨[102]⟩=(1,⟨[102]⟩):=by kernel_rfl
def SF(k:Int)(w:List UInt8)(i:Nat):Tok:=⟨k,⟨w⟩,1,i⟩
theorem NL(F:Nat)(r:List UInt8)(i:Nat)(o:List Tok)(ho:o.length<4000):YP (F+1) (40::r) i 1 o=YP F r (i+1) 1 (o++[SF 4 [40] i]):=
 Xt (w:=[]) rfl rfl (Uu rfl rfl rfl) (by decide) ho
theorem PT(F:Nat)(i:Nat)(ln:Int)(o:List Tok)(h:0<F):YP F [] i ln o=⟨o,0,0⟩:=by
 obtain⟨F,rfl⟩ : ∃ G,F=G+1:=⟨F - 1,by omega⟩
 rw[YP]
 rfl
theorem a4h(F:Nat)(r:List UInt8)(i:Nat)(ln:Int)(o:List Tok)(ho:o.length<4000):YP (F+1) (41::r) i ln o=YP F r (i+1) ln (o++[⟨4,⟨[41]⟩,ln,i⟩]):=
 Xt (w:=[]) rfl rfl (Uu rfl rfl rfl) (by decide) ho
theorem Om(F i:Nat)(ln:Int)(o:List Tok)(e:[(41:UInt8)].length<F)(ho:o.length<3990): ∃ Q',FT [SF 4 [41] 0] Q'∧YP F [41] i ln o=⟨o++Q',0,0⟩:=by
 obtain⟨F,rfl⟩ : ∃ G,F=G+2:=⟨F - 2,by simp at e;omega⟩
 refine⟨[⟨4,⟨[41]⟩,ln,i⟩],.cons ⟨rfl,rfl⟩ .nil,?_⟩
 rw[a4h _ _ _ _ _ (by omega),PT _ _ _ _ (by omega)]
attribute [local irreducible] YP
theorem e3w:Ctx0 [40] [41] [SF 4 [40] 0] [SF 4 [41] 0]:=by
 refine⟨fun F r=> ?_,Om,by decide,by decide⟩
 exact NL F r 0 [] (by decide)
theorem e2m:Ctx0 [49,32,42,32,40] [41] [SF 3 [49] 0,SF 4 [42] 2,SF 4 [40] 4] [SF 4 [41] 0]:=by
 refine⟨fun F r=> ?_,Om,by decide,by decide⟩
 show YP (F+3) (49::([]++(32::42::32::40::r))) 0 1 []=_
 rw[Xt (w:=[]) rfl rfl (K8 rfl rfl rfl rfl e4l _) (by decide) (by decide),Vs]
 show YP (F+2) (42::([]++(32::40::r))) 2 1 _=_
 rw[Xt (w:=[]) rfl rfl (Uu rfl rfl rfl) (by decide) (by decide),Vs,NL _ _ _ _ (by decide)]
 rfl
theorem e5y:Ctx0 [108,101,116,32,120,32,61,32,49,32,105,110,32] [] [SF 2 [108,101,116] 0,SF 1 [120] 4,SF 4 [61] 6,SF 3 [49] 8,SF 2 [105,110] 10] []:=by
 refine⟨fun F r=> ?_,fun F i ln o hF ho=>⟨[],.nil,by rw[List.append_nil];exact PT _ _ _ _ (by omega)⟩,by decide,by decide⟩
 show YP (F+5) (108::([101,116]++(32::120::32::61::32::49::32::105::110::32::r))) 0 1 []=_
 rw[Xt (w:=[101,116]) rfl rfl (H8 rfl rfl rfl e5n _) (by decide) (by decide),Vs]
 show YP (F+4) (120::([]++(32::61::32::49::32::105::110::32::r))) 4 1 _=_
 rw[Xt (w:=[]) rfl rfl (H8 rfl rfl rfl fwx _) (by decide) (by decide),Vs]
 show YP (F+3) (61::([]++(32::49::32::105::110::32::r))) 6 1 _=_
 rw[Xt (w:=[]) rfl rfl (Uu rfl rfl rfl) (by decide) (by decide),Vs]
 show YP (F+2) (49::([]++(32::105::110::32::r))) 8 1 _=_
 rw[Xt (w:=[]) rfl rfl (K8 rfl rfl rfl rfl e4l _) (by decide) (by decide),Vs]
 show YP (F+1) (105::([110]++(32::r))) 10 1 _=_
 rw[Xt (w:=[110]) rfl rfl (H8 rfl rfl rfl e7l _) (by decide) (by decide),Vs]
 rfl
theorem e4h:Ctx0 [102,40,50,44,32] [44,32,51,41] [SF 1 [102] 0,SF 4 [40] 1,SF 3 [50] 2,SF 4 [44] 3] [SF 4 [44] 0,SF 3 [51] 0,SF 4 [41] 0]:=by
 refine⟨fun F r=> ?_,fun F i ln o e ho=> ?_,by decide,by decide⟩
 ·show YP (F+4) (102::([]++(40::50::44::32::r))) 0 1 []=_
  rw[Xt (w:=[]) rfl rfl (H8 rfl rfl rfl fwf _) (by decide) (by decide)]
  show YP (F+3) (40::(50::44::32::r)) 1 1 _=_
  rw[NL _ _ _ _ (by decide)]
  show YP (F+2) (50::([]++(44::32::r))) 2 1 _=_
  rw[Xt (w:=[]) rfl rfl (K8 rfl rfl rfl rfl e7r _) (by decide) (by decide)]
  show YP (F+1) (44::([]++(32::r))) 3 1 _=_
  rw[Xt (w:=[]) rfl rfl (Uu rfl rfl rfl) (by decide) (by decide),Vs]
  rfl
 ·obtain⟨F,rfl⟩ : ∃ G,F=G+5:=⟨F - 5,by simp at e;omega⟩
  refine⟨[⟨4,⟨[44]⟩,ln,i⟩,⟨3,⟨[51]⟩,ln,(i+2:Nat)⟩,⟨4,⟨[41]⟩,ln,(i+3:Nat)⟩],.cons ⟨rfl,rfl⟩ (.cons ⟨rfl,rfl⟩ (.cons ⟨rfl,rfl⟩ .nil)),?_⟩
  show YP (F+4+1) (44::([]++[32,51,41])) i ln o=_
  rw[Xt (w:=[]) rfl rfl (Uu rfl rfl rfl) (by decide) (by omega),Vs]
  show YP (F+3+1) (51::([]++[41])) (i+1+1) ln _=_
  rw[Xt (w:=[]) rfl rfl (K8 rfl rfl rfl rfl e6z _) (by decide) (by rw[List.length_append];simp;omega),a4h _ _ _ _ _ (by rw[List.length_append,List.length_append];simp;omega),PT _ _ _ _ (by omega)]
  rw[List.append_assoc,List.append_assoc]
  rfl
end
section
mutual
def zT(z:Int->Int):Tm->Tm
 | .mk n ks=>.mk {n with line:=z n.line} (Jc z ks)
def Jc(z:Int->Int):List Tm->List Tm
 | []=>[]
 | k::ks=>zT z k::Jc z ks
end
theorem a6g(z:Int->Int)(a b:List Tm):Jc z (a++b)=Jc z a++Jc z b:=by
 induction a with
 | nil=>rfl
 | cons x a ih=>show zT z x::Jc z (a++b)=zT z x::(Jc z a++Jc z b);rw[ih]
def M9(y:Tok)(w:List UInt8):Bool:=(decide (y.k=2)||decide (y.k=4))&&decide (y.t=⟨w⟩)
structure Calm (y:Tok):Prop where
 dot:M9 y [46]=false
 sq:M9 y [91]=false
 br:M9 y [123]=false
 at_:M9 y [64]=false
 par:M9 y [40]=false
 op:y.k=4->(Wy y.t false).b=0
structure Cm where
 A:List Tok
 B:List Tok
 d:Nat
 n:Nat
 zA:Int
 zB:Int
 z:Int->Int
 oz:Int->Int
 Wk:Int->Prop
 E:Prop
def Cm.a(c:Cm)(k:Nat):Tok:=c.A.getD k ⟨0,⟨[]⟩,0,c.zA⟩
def Cm.b(c:Cm)(k:Nat):Tok:=c.B.getD k ⟨0,⟨[]⟩,0,c.zB⟩
structure Al (c:Cm) (x y:Tok):Prop where
 k:y.k=x.k
 t:y.t=x.t
 ln:c.z y.ln=c.z x.ln
 o:c.oz y.o=c.oz x.o
structure CmOK (c:Cm):Prop where
 al : ∀ k,k<c.n->Al c (c.a k) (c.b (c.d+k))
 wk : ∀ p,c.n<=p->p<=c.A.length-> ¬ c.Wk (c.a p).o
 en:c.E->c.n=c.A.length∧Calm (c.b (c.d+c.n))
 lx:Z9 c.A=true
 ly:Z9 c.B=true
 la:c.A.length<=4000
 lb:c.B.length<=4000
structure Rl (c:Cm) (s t:PS):Prop where
 la:s.l=c.A
 lb:t.l=c.B
 za:s.sz=c.zA
 zb:t.sz=c.zB
 i:t.i=c.d+s.i
 sb:s.bad=false
 tb:t.bad=false
 big:t.big=s.big
 hs:s.i<=s.l.length
 ht:t.i<=t.l.length
def Q0{α β:Type}(c:Cm)(V:α->β->Prop)(a:α×PS)(b:β×PS):Prop:=
 (a.2.bad=false->a.2.i<c.n->Rl c a.2 b.2∧V a.1 b.1)∧(a.2.bad=true->c.Wk a.2.wr->b.2.bad=true∧c.oz b.2.wr=c.oz a.2.wr)
def Y1{α β:Type}(c:Cm)(V:α->β->Prop)(a:α×PS)(b:β×PS):Prop:=
 (a.2.bad=false->(a.2.i<c.n∨c.E∧a.2.i=c.n)->Rl c a.2 b.2∧V a.1 b.1)∧(a.2.bad=true->c.Wk a.2.wr->b.2.bad=true∧c.oz b.2.wr=c.oz a.2.wr)
def TT(_ _:Unit):Prop:=True
section
variable {α β γ δ:Type} {c:Cm} {s t:PS} {V:α->β->Prop} {W:γ->δ->Prop} {a:α×PS} {b:β×PS} {a':γ×PS} {b':δ×PS}
theorem Y1.out(h:Y1 c V a b):Q0 c V a b:=⟨fun h1 h2=>h.1 h1 (Or.inl h2),h.2⟩
theorem Rl.outE(h:Rl c s t){x:α}{y:β}(v:V x y):Y1 c V (x,s) (y,t):=⟨fun _ _=>⟨h,v⟩,fun k=>by have k:s.bad=true:=k;rw[h.sb]at k;cases k⟩
theorem Ge.wk(hc:CmOK c){u:PS}(g:Ge s u)(j:s.l=c.A)(e:s.sz=c.zA)(sb:s.bad=false)(hn:c.n<=s.i)(h:u.bad=true): ¬ c.Wk u.wr:=by
 obtain⟨p,h1,h2,h3⟩:=g.at_ sb h
 rw[j]at h2 h3
 rw[e]at h3
 rw[h3]
 exact hc.wk p (by omega) h2
theorem Q0.bind(hc:CmOK c)(h:Q0 c V a b)(y:a.2.l=c.A)(u:a.2.sz=c.zA)(g:Ge a.2 a'.2)(j:Ge b.2 b'.2)(k:Rl c a.2 b.2->V a.1 b.1->a.2.i<c.n->Q0 c W a' b'):Q0 c W a' b':=by
 cases e:a.2.bad with
 | true=>
  refine⟨fun h1=>(by rw[g.bad e]at h1;cases h1),fun h1 h2=> ?_⟩
  rw[g.keep e]at h2 ⊢
  have h3:=h.2 e h2
  exact⟨j.bad h3.1,by rw[j.keep h3.1];exact h3.2⟩
 | false=>
  by_cases q:a.2.i<c.n
  ·have r:=h.1 e q
   exact k r.1 r.2 q
  ·refine⟨fun _ h2=>absurd h2 (by have:=g.le;omega),fun h1 h2=>absurd h2 (g.wk hc y u e (by omega) h1)⟩
theorem Y1.bind(hc:CmOK c)(h:Q0 c V a b)(y:a.2.l=c.A)(u:a.2.sz=c.zA)(g:Ge a.2 a'.2)(j:Ge b.2 b'.2)(hd:c.E->a.2.bad=false->a.2.i=c.n->a'.2.bad=true)(k:Rl c a.2 b.2->V a.1 b.1->a.2.i<c.n->Y1 c W a' b'):Y1 c W a' b':=by
 cases e:a.2.bad with
 | true=>
  refine⟨fun h1=>(by rw[g.bad e]at h1;cases h1),fun h1 h2=> ?_⟩
  rw[g.keep e]at h2 ⊢
  have h3:=h.2 e h2
  exact⟨j.bad h3.1,by rw[j.keep h3.1];exact h3.2⟩
 | false=>
  by_cases q:a.2.i<c.n
  ·have r:=h.1 e q
   exact k r.1 r.2 q
  ·refine⟨fun h1 h2=> ?_,fun h1 h2=>absurd h2 (g.wk hc y u e (by omega) h1)⟩
   have:=g.le
   rcases h2 with h2|⟨h2,h3⟩
   ·omega
   ·rw[hd h2 e (by omega)]at h1;cases h1
theorem Y1.bindE(hc:CmOK c)(h:Y1 c V a b)(y:a.2.l=c.A)(u:a.2.sz=c.zA)(g:Ge a.2 a'.2)(j:Ge b.2 b'.2)(k:Rl c a.2 b.2->V a.1 b.1->(a.2.i<c.n∨c.E∧a.2.i=c.n)->Y1 c W a' b'):Y1 c W a' b':=by
 cases e:a.2.bad with
 | true=>
  refine⟨fun h1=>(by rw[g.bad e]at h1;cases h1),fun h1 h2=> ?_⟩
  rw[g.keep e]at h2 ⊢
  have h3:=h.2 e h2
  exact⟨j.bad h3.1,by rw[j.keep h3.1];exact h3.2⟩
 | false=>
  by_cases q:a.2.i<c.n∨c.E∧a.2.i=c.n
  ·have r:=h.1 e q
   exact k r.1 r.2 q
  ·refine⟨fun h1 h2=> ?_,fun h1 h2=>absurd h2 (g.wk hc y u e (by omega) h1)⟩
   have:=g.le
   exfalso
   apply q
   rcases h2 with h2|⟨h2,h3⟩
   ·left;omega
   ·rcases Nat.lt_or_ge a.2.i c.n with h4|h4
    ·exact Or.inl h4
    ·exact Or.inr ⟨h2,by omega⟩
theorem Rl.pk(hc:CmOK c)(h:Rl c s t){j:Nat}(hi:s.i+j<c.n):Al c (s.peek j) (t.peek j):=by
 have e:s.peek j=c.a (s.i+j):=by unfold PS.peek Cm.a;rw[h.la,h.za]
 have g:t.peek j=c.b (c.d+(s.i+j)):=by unfold PS.peek Cm.b;rw[h.lb,h.zb,h.i,Nat.add_assoc]
 rw[e,g]
 exact hc.al _ hi
theorem Rl.nx(hc:CmOK c)(h:Rl c s t)(hi:s.i<c.n)(w:Str):t.next w=s.next w:=by
 have k:=h.pk hc (j:=0) hi
 unfold PS.next
 rw[k.k,k.t]
theorem Rl.stepR(h:Rl c s t)(h1:s.i<s.l.length)(h2:t.i<t.l.length):Rl c s.step t.step:=⟨h.la,h.lb,h.za,h.zb,by show t.i+1=c.d+(s.i+1);have:=h.i;omega,h.sb,h.tb,h.big,h1,h2⟩
theorem Rl.step(hc:CmOK c)(h:Rl c s t)(hi:s.i<c.n)(e:(s.peek 0).k≠0):Rl c s.step t.step:=
 h.stepR (YN e) (YN (by rw[(h.pk hc (j:=0) hi).k];exact e))
theorem Rl.stepN(hc:CmOK c)(h:Rl c s t)(hi:s.i<c.n){w:Str}(hn:s.next w=true):Rl c s.step t.step:=
 h.stepR (Ze hn) (Ze (by rw[h.nx hc hi];exact hn))
theorem Rl.failE(hc:CmOK c)(h:Rl c s t)(hi:s.i<c.n)(x:α)(y:β):Y1 c V (x,s.fail) (y,t.fail):=by
 refine⟨fun k=>(by cases k),fun _ _=>⟨rfl,?_⟩⟩
 show c.oz (if t.bad then t.wr else(t.peek 0).o)=c.oz (if s.bad then s.wr else(s.peek 0).o)
 rw[h.sb,h.tb]
 exact(h.pk hc (j:=0) hi).o
theorem Y1.dead(hc:CmOK c)(h:Rl c s t)(g:Ge s a.2)(hn:c.n<=s.i)(hd:c.E->s.i=c.n->a.2.bad=true):Y1 c V a b:=by
 refine⟨fun h1 h2=> ?_,fun h1 h2=>absurd h2 (g.wk hc h.la h.za h.sb hn h1)⟩
 have:=g.le
 rcases h2 with h2|⟨h2,h3⟩
 ·omega
 ·rw[hd h2 (by omega)]at h1;cases h1
theorem Q0.dead(hc:CmOK c)(h:Rl c s t)(g:Ge s a.2)(hn:c.n<=s.i):Q0 c V a b:=
 ⟨fun _ h2=>absurd h2 (by have:=g.le;omega),fun h1 h2=>absurd h2 (g.wk hc h.la h.za h.sb hn h1)⟩
theorem Y1.map{ε ζ:Type}{U:ε->ζ->Prop}(o:Y1 c V a b){x:ε}{y:ζ}(k:V a.1 b.1->U x y):Y1 c U (x,a.2) (y,b.2):=⟨fun h1 h2=>⟨(o.1 h1 h2).1,k (o.1 h1 h2).2⟩,o.2⟩
theorem bdO(hc:CmOK c)(h:Rl c s t)(g:Ge s a.2)(o:Q0 c V a b)(i:Ge a.2 a'.2)(e:Ge b.2 b'.2)(k:Rl c a.2 b.2->V a.1 b.1->Q0 c W a' b'):Q0 c W a' b':=Q0.bind hc o (g.l.trans h.la) (g.sz.trans h.za) i e fun r v _=>k r v
theorem bdS(hc:CmOK c)(h:Rl c s t)(g:Ge s a.2)(o:Q0 c V a b)(j:Ge a.2 a'.2)(e:Ge b.2 b'.2)(hd:c.E->a.2.bad=false->a.2.i=c.n->a'.2.bad=true)(k:Rl c a.2 b.2->V a.1 b.1->Y1 c W a' b'):Y1 c W a' b':=Y1.bind hc o (g.l.trans h.la) (g.sz.trans h.za) j e hd fun r v _=>k r v
theorem NU(hc:CmOK c)(h:Rl c s t)(g:Ge s a.2)(o:Y1 c V a b)(i:Ge a.2 a'.2)(e:Ge b.2 b'.2)(k:Rl c a.2 b.2->V a.1 b.1->Y1 c W a' b'):Y1 c W a' b':=Y1.bindE hc o (g.l.trans h.la) (g.sz.trans h.za) i e fun r v _=>k r v
theorem Vg{u:PS}(h:u.l.length<=u.i)(w:Str):u.next w=false:=by
 unfold PS.next
 rw[WE (by omega)]
 rfl
theorem VZ{u:PS}(h:u.l.length<=u.i)(w:Str):(u.need w).bad=true:=by
 unfold PS.need
 rw[if_neg (by rw[Vg h];decide)]
 rfl
theorem WT(hc:CmOK c)(h:Rl c s t){u:PS}(g:Ge s u)(e:c.E)(hi:u.i=c.n):u.l.length<=u.i:=by
 rw[g.l,h.la,hi,(hc.en e).1]
 exact Nat.le_refl _
theorem YH(hc:CmOK c)(h:Rl c s t)(w:Str):Y1 c TT ((),s.need w) ((),t.need w):=by
 by_cases hi:s.i<c.n
 ·unfold PS.need
  rw[h.nx hc hi]
  split
  ·exact(h.stepN hc hi ‹_›).outE trivial
  ·exact h.failE hc hi () ()
 ·exact Y1.dead hc h (a:=((),s.need w)) (Ge.need h.hs) (by omega) fun g e=>VZ (WT hc h (Ge.refl h.hs) g e) w
theorem Gg(hc:CmOK c)(h:Rl c s t):Y1 c Eq s.name t.name:=by
 by_cases hi:s.i<c.n
 ·have k:=h.pk hc (j:=0) hi
  unfold PS.name
  rw[k.k]
  split
  ·rename_i q
   exact(h.step hc hi (by rw[q];decide)).outE k.t.symm
  ·exact h.failE hc hi _ _
 ·refine Y1.dead hc h (Ge.name h.hs) (by omega) fun g e=> ?_
  have e1:=WT hc h (Ge.refl h.hs) g e
  unfold PS.name
  rw[WE (by omega)]
  rfl
theorem JH(hc:CmOK c)(h:Rl c s t)(m:Int):Y1 c Eq (s.num m) (t.num m):=by
 by_cases hi:s.i<c.n
 ·have k:=h.pk hc (j:=0) hi
  unfold PS.num
  rw[k.k,k.t]
  split
  ·rename_i q
   exact(h.step hc hi (by rw[q.1];decide)).outE rfl
  ·exact h.failE hc hi _ _
 ·refine Y1.dead hc h (Ge.num h.hs) (by omega) fun g e=> ?_
  have e1:=WT hc h (Ge.refl h.hs) g e
  unfold PS.num
  rw[WE (by omega),if_neg (fun q=>by have:=q.1;simp at this)]
  rfl
theorem Rl.nb(h:Rl c s t): ¬ s.bad=true:=by rw[h.sb];decide
theorem Rl.nt(h:Rl c s t): ¬ t.bad=true:=by rw[h.tb];decide
theorem Rl.wide(h:Rl c s t)(b:Bool):Rl c (s.wide b) (t.wide b):=⟨h.la,h.lb,h.za,h.zb,h.i,h.sb,h.tb,by show(t.big||b)=(s.big||b);rw[h.big],h.hs,h.ht⟩
end
end
section
section
variable {c:Cm} {s t:PS}
theorem PG(hc:CmOK c)(h:Rl c s t):Q0 c Eq s.item t.item:=by
 by_cases hi:s.i<c.n
 ·have k:=h.pk hc (j:=0) hi
  have g : ∀ r:PS,r.i<=r.l.length->Ge r (if (r.peek 0).k=1∧r.bad=false then r.name.2.note (Wz (Jq r.name.1) (0:Int))else((⟨0,[]⟩:Lin),r)).2:=fun r hr=>by
   split
   ·exact(Ge.name hr).trans (Ge.note (Ge.name hr).hi)
   ·exact Ge.refl hr
  have q : ∀ s:PS,s.i<=s.l.length->Ge (s.num 2147483648).2 (if ((s.num 2147483648).2.peek 0).k=1∧(s.num 2147483648).2.bad=false then(s.num 2147483648).2.name.2.note (Wz (Jq (s.num 2147483648).2.name.1) (s.num 2147483648).1)else(⟨(s.num 2147483648).1,[]⟩,(s.num 2147483648).2)).2:=fun s hs=>by
   have u:=Ge.num (m:=2147483648) hs
   split
   ·exact(Ge.name u.hi).trans (Ge.note (Ge.name u.hi).hi)
   ·exact Ge.refl u.hi
  unfold PS.item
  rw[k.k]
  split
  ·exact((Gg hc h).map (fun e=>by rw[e])).out
  ·refine bdO hc h (Ge.num h.hs) (JH hc h 2147483648).out (q s h.hs) (q t h.ht) fun r v=> ?_
   by_cases hj:(s.num 2147483648).2.i<c.n
   ·have y:=r.pk hc (j:=0) hj
    rw[y.k,r.sb,r.tb]
    split
    ·refine bdO hc r (Ge.name r.hs) (Gg hc r).out (Ge.note (Ge.name r.hs).hi) (Ge.note (Ge.name r.ht).hi) fun A z=> ?_
     rw[v,z]
     exact(Rl.outE (A.wide _) rfl).out
    ·exact(r.outE (by rw[v])).out
   ·exact Q0.dead hc r (q s h.hs) (by omega)
 ·exact Q0.dead hc h (Ge.item h.hs) (by omega)
theorem Sc(hc:CmOK c): ∀ (n m:Nat) {s t:PS} {l:Lin},Rl c s t->Yf n s->Yf m t->Q0 c Eq (linLoop n s l) (linLoop m t l)
 | 0,_,s,t,l,h,f1,f2=>by unfold Yf at f1;omega
 | _+1,0,s,t,l,h,f1,f2=>by unfold Yf at f2;omega
 | n+1,m+1,s,t,l,h,f1,f2=>by
  by_cases hi:s.i<c.n
  ·rw[linLoop,linLoop,if_neg h.nb,if_neg h.nt,h.nx hc hi,h.nx hc hi]
   have go : ∀ {w:Str} (k:Int),s.next w=true->Q0 c Eq (linLoop n (s.step.item.2.note (ZG l s.step.item.1 k)).2 (ZG l s.step.item.1 k).1) (linLoop m (t.step.item.2.note (ZG l t.step.item.1 k)).2 (ZG l t.step.item.1 k).1):=fun {w} k q=>by
    have g:=h.stepN hc hi q
    have u:t.next w=true:=by rw[h.nx hc hi];exact q
    have e:=Ge.item g.hs
    have j:=Ge.item g.ht
    refine bdO hc g e (PG hc g) ((Ge.note e.hi).trans (Ge.linLoop n (Ge.note (x:=ZG l s.step.item.1 k) e.hi).hi)) ((Ge.note j.hi).trans (Ge.linLoop m (Ge.note (x:=ZG l t.step.item.1 k) j.hi).hi)) fun r v=> ?_
    rw[v]
    exact Sc hc n m (r.wide _) (((f1.step (Ze q)).ge e).ge (Ge.note e.hi)) (((f2.step (Ze u)).ge j).ge (Ge.note j.hi))
   split
   ·exact go 1 ‹_›
   ·split
    ·exact go (-1) ‹_›
    ·exact((h.wide _).outE rfl).out
  ·exact Q0.dead hc h (Ge.linLoop _ h.hs) (by omega)
theorem d1i(hc:CmOK c)(h:Rl c s t):Q0 c Eq s.lin0 t.lin0:=by
 by_cases hi:s.i<c.n
 ·unfold PS.lin0
  rw[h.nx hc hi]
  split
  ·rename_i q
   have e:=h.stepN hc hi q
   have g:=Ge.item e.hs
   have j:=Ge.item e.ht
   refine bdO hc e g (PG hc e) (Ge.note g.hi) (Ge.note j.hi) fun r v=> ?_
   rw[v]
   exact((r.wide _).outE rfl).out
  ·exact PG hc h
 ·exact Q0.dead hc h (Ge.lin0 h.hs) (by omega)
theorem WC{s u:PS}(g:Ge s u):Yf (s.l.length+1) u:=by unfold Yf;rw[g.l];omega
theorem Ro(hc:CmOK c)(h:Rl c s t):Q0 c Eq s.linear t.linear:=by
 have e:=Ge.lin0 h.hs
 have g:=Ge.lin0 h.ht
 refine bdO hc h e (d1i hc h) (Ge.linLoop _ e.hi) (Ge.linLoop _ g.hi) fun r v=> ?_
 unfold PS.linear
 rw[v]
 exact Sc hc _ _ r (WC e) (WC g)
section
variable {α β:Type} {one:PS->α×PS} {one':PS->β×PS} {V:α->β->Prop} {VL:List α->List β->Prop} {P P':PS->Prop}
theorem Fj(hc:CmOK c)(g : ∀ s u,P s->Ge s u->P u)(e : ∀ s u,P' s->Ge s u->P' u)(A : ∀ s,P s->s.i<=s.l.length->Ge s (one s).2)(D : ∀ s,P' s->s.i<=s.l.length->Ge s (one' s).2)
  (ho : ∀ s t,P s->P' t->Rl c s t->Q0 c V (one s) (one' t)) (E : ∀ o o' x y,VL o o'->V x y->VL (o++[x]) (o'++[y])) : ∀ (n m:Nat) {s t:PS} {o:List α} {o':List β},P s->P' t->Rl c s t->Yf n s->Yf m t->VL o o'->Q0 c VL (moreL one n s o) (moreL one' m t o')
 | 0,_,s,t,o,o',p,p',h,f1,f2,v=>by unfold Yf at f1;omega
 | _+1,0,s,t,o,o',p,p',h,f1,f2,v=>by unfold Yf at f2;omega
 | n+1,m+1,s,t,o,o',p,p',h,f1,f2,v=>by
  by_cases hi:s.i<c.n
  ·rw[moreL,moreL,if_neg h.nb,if_neg h.nt,h.nx hc hi]
   split
   ·rename_i q
    have F:t.next ⟨[44]⟩=true:=by rw[h.nx hc hi];exact q
    have k:=h.stepN hc hi q
    have C:=Ge.step (Ze q)
    have B:=Ge.step (Ze F)
    have j:=A _ (g _ _ p C) k.hs
    have z:=D _ (e _ _ p' B) k.ht
    refine bdO hc k j (ho _ _ (g _ _ p C) (e _ _ p' B) k) (Ge.moreL g A n (g _ _ (g _ _ p C) j) j.hi) (Ge.moreL e D m (e _ _ (e _ _ p' B) z) z.hi) fun r w=> ?_
    exact Fj hc g e A D ho E n m (g _ _ (g _ _ p C) j) (e _ _ (e _ _ p' B) z) r ((f1.step (Ze q)).ge j) ((f2.step (Ze F)).ge z) (E _ _ _ _ v w)
   ·exact(h.outE v).out
  ·exact Q0.dead hc h (Ge.moreL g A (n+1) p h.hs) (by omega)
theorem AP(hc:CmOK c)(j : ∀ s u,P s->Ge s u->P u)(e : ∀ s u,P' s->Ge s u->P' u)(z : ∀ s,P s->s.i<=s.l.length->Ge s (one s).2)(A : ∀ s,P' s->s.i<=s.l.length->Ge s (one' s).2)
  (ho : ∀ s t,P s->P' t->Rl c s t->Q0 c V (one s) (one' t)) (B : ∀ o o' x y,VL o o'->V x y->VL (o++[x]) (o'++[y])) (C : ∀ x y,V x y->VL [x] [y]) {s t:PS} (p:P s) (q:P' t) (h:Rl c s t):Q0 c VL (listL one s) (listL one' t):=by
 have g:=z _ p h.hs
 have k:=A _ q h.ht
 refine bdO hc h g (ho _ _ p q h) (Ge.moreL j z _ (j _ _ p g) g.hi) (Ge.moreL e A _ (e _ _ q k) k.hi) fun r w=> ?_
 exact Fj hc j e z A ho B _ _ (j _ _ p g) (e _ _ q k) r (WC g) (WC k) (C _ _ w)
end
theorem ME{α:Type}{one:PS->α×PS}(hc:CmOK c)(g : ∀ s,s.i<=s.l.length->Ge s (one s).2)(ho : ∀ s t,Rl c s t->Q0 c Eq (one s) (one t))(h:Rl c s t):Q0 c Eq (listL one s) (listL one t):=
 AP (P:=fun _=>True) (P':=fun _=>True) (VL:=Eq) hc (fun _ _ _ _=>trivial) (fun _ _ _ _=>trivial) (fun s _ h=>g s h) (fun s _ h=>g s h) (fun s t _ _ r=>ho s t r) (fun o o' x y e j=>by rw[e,j]) (fun x y e=>by rw[e]) trivial trivial h
theorem Fh(hc:CmOK c): ∀ (n m:Nat) {s t:PS} {o:List Int},Rl c s t->Yf n s->Yf m t->Q0 c Eq (numsP n s o) (numsP m t o)
 | 0,_,s,t,l,h,f1,f2=>by unfold Yf at f1;omega
 | _+1,0,s,t,l,h,f1,f2=>by unfold Yf at f2;omega
 | n+1,m+1,s,t,o,h,f1,f2=>by
  by_cases hi:s.i<c.n
  ·have k:=h.pk hc (j:=0) hi
   rw[numsP,numsP,k.k]
   split
   ·rename_i q
    have e:=Ge.num (m:=2147483648) h.hs
    have g:=Ge.num (m:=2147483648) h.ht
    refine bdO hc h e (JH hc h 2147483648).out (Ge.numsP n e.hi) (Ge.numsP m g.hi) fun r v=> ?_
    rw[v]
    have e1:s.i+1<=(s.num 2147483648).2.i:=by
     have:=VA (s:=s) (m:=2147483648) r.sb;omega
    have e2:t.i+1<=(t.num 2147483648).2.i:=by
     have:=VA (s:=t) (m:=2147483648) r.tb;omega
    have i1:=YN (s:=s) (by rw[q];decide)
    have i2:=YN (s:=t) (by rw[k.k,q];decide)
    refine Fh hc n m r ?_ ?_
    ·unfold Yf at f1 ⊢;rw[e.l];omega
    ·unfold Yf at f2 ⊢;rw[g.l];omega
   ·exact(h.outE rfl).out
  ·exact Q0.dead hc h (Ge.numsP _ h.hs) (by omega)
theorem Rl.sgs(hc:CmOK c)(h:Rl c s t)(hi:s.i<c.n):Rl c s.sgs t.sgs∧t.sgn=s.sgn:=by
 unfold PS.sgs PS.sgn
 rw[h.nx hc hi]
 split
 ·exact⟨h.stepN hc hi ‹_›,rfl⟩
 ·exact⟨h,rfl⟩
theorem a2x(hc:CmOK c): ∀ (n m:Nat) {s t:PS} {o:List Int},Rl c s t->Yf n s->Yf m t->Q0 c Eq (datP n s o) (datP m t o)
 | 0,_,s,t,l,h,f1,f2=>by unfold Yf at f1;omega
 | _+1,0,s,t,l,h,f1,f2=>by unfold Yf at f2;omega
 | n+1,m+1,s,t,o,h,f1,f2=>by
  by_cases hi:s.i<c.n
  ·rw[datP,datP,if_neg h.nb,if_neg h.nt,h.nx hc hi]
   split
   ·exact(h.outE rfl).out
   ·obtain⟨r0,y⟩:=h.sgs hc hi
    have j:=Ge.sgs h.hs
    have k:=Ge.sgs h.ht
    have e:=Ge.num (m:=2147483648) r0.hs
    have g:=Ge.num (m:=2147483648) r0.ht
    refine bdO hc r0 e (JH hc r0 2147483648).out (Ge.datP n e.hi) (Ge.datP m g.hi) fun r v=> ?_
    rw[v,y]
    have n1:=VA (s:=s.sgs) (m:=2147483648) r.sb
    have n2:=VA (s:=t.sgs) (m:=2147483648) r.tb
    have l1:=j.le
    have l2:=k.le
    have q:=e.hi
    have u:=g.hi
    refine a2x hc n m r ?_ ?_
    ·unfold Yf at f1 ⊢;rw[(j.trans e).l]at q ⊢;omega
    ·unfold Yf at f2 ⊢;rw[(k.trans g).l]at u ⊢;omega
  ·exact Q0.dead hc h (Ge.datP _ h.hs) (by omega)
theorem d4n(hc:CmOK c)(h:Rl c s t):Y1 c Eq s.arr t.arr:=by
 have A:=Ge.ar1 h.hs
 have b1:=Ge.ar1 h.ht
 have z:Ge s.ar1 s.ar2.2:=Ge.numsP _ A.hi
 have H:Ge t.ar1 t.ar2.2:=Ge.numsP _ b1.hi
 have r:Ge s.ar2.2 (s.ar2.2.need ⟨[58]⟩):=Ge.need z.hi
 have B:Ge t.ar2.2 (t.ar2.2.need ⟨[58]⟩):=Ge.need H.hi
 have g:Ge (s.ar2.2.need ⟨[58]⟩) s.ar3.2:=Ge.datP _ r.hi
 have C:Ge (t.ar2.2.need ⟨[58]⟩) t.ar3.2:=Ge.datP _ B.hi
 have D:Ge s.ar3.2 s.arr.2:=Ge.need g.hi
 have F:Ge t.ar3.2 t.arr.2:=Ge.need C.hi
 have dead : ∀ {u:PS},Ge s u->Ge u s.ar3.2->c.E->u.i=c.n->s.arr.2.bad=true:=fun I O y e=>by
  refine VZ ?_ _
  have:=WT hc h I y e
  have k:=(I.trans O).l
  have:=O.le
  rw[I.l]at *
  rw[k]
  omega
 by_cases hi:s.i<c.n
 ·have k:=h.pk hc (j:=0) hi
  have L:t.arB=s.arB:=by unfold PS.arB;rw[k.k,k.t]
  have J:Rl c (if s.arB then s.step else s) (if t.arB then t.step else t):=by
   rw[L]
   split
   ·rename_i q
    refine h.step hc hi ?_
    unfold PS.arB at q
    simp only[Bool.and_eq_true,decide_eq_true_eq]at q
    rw[q.1];decide
   ·exact h
  have g0:=Ge.ar0 h.hs
  refine NU (a:=((),s.ar1)) (b:=((),t.ar1)) hc J (Ge.need J.hs) (YH hc J ⟨[91]⟩) (z.trans (r.trans (g.trans D))) (H.trans (B.trans (C.trans F))) fun K _=> ?_
  refine bdS (a:=s.ar2) (b:=t.ar2) hc K z (Fh hc _ _ K (WC A) (WC b1)) (r.trans (g.trans D)) (B.trans (C.trans F)) (fun y _ e=>dead (A.trans z) (r.trans g) y e) fun M Q=> ?_
  refine NU (a:=((),s.ar2.2.need ⟨[58]⟩)) (b:=((),t.ar2.2.need ⟨[58]⟩)) hc M r (YH hc M _) (g.trans D) (C.trans F) fun N _=> ?_
  refine bdS (a:=s.ar3) (b:=t.ar3) hc N g (a2x hc _ _ N (WC (A.trans (z.trans r))) (WC (b1.trans (H.trans B)))) D F (fun y _ e=>dead (A.trans (z.trans (r.trans g))) (Ge.refl g.hi) y e) fun T S=> ?_
  unfold PS.arr
  rw[L,Q,S]
  exact(YH hc T ⟨[93]⟩).map (fun _=>rfl)
 ·exact Y1.dead hc h (Ge.arr h.hs) (by omega) fun y e=>dead (Ge.refl h.hs) (Ge.ar3 h.hs) y e
end
end
section
def VT(c:Cm)(a b:Tm):Prop:=zT c.z a=zT c.z b
def VTs(c:Cm)(a b:List Tm):Prop:=Jc c.z a=Jc c.z b
def VU(c:Cm)(a b:Tm×Int):Prop:=VT c a.1 b.1∧c.z a.2=c.z b.2
def SX(c:Cm)(N M:Nat)(ex ex':PS->Tm×PS):Prop:= ∀ s t,Yf N s->Yf M t->Rl c s t->Y1 c (VT c) (ex s) (ex' t)
def SU(c:Cm)(N M:Nat)(un e:PS->(Tm×Int)×PS):Prop:= ∀ s t,Yf N s->Yf M t->Rl c s t->Y1 c (VU c) (un s) (e t)
def In(c:Cm)(s:PS):Prop:=s.i<c.n∨c.E∧s.i=c.n
section
variable {c:Cm} {s t:PS}
theorem Uz{n g:Nd}{ks e:List Tm}(h:({n with line:=c.z n.line}:Nd)={g with line:=c.z g.line})(i:VTs c ks e):VT c (.mk n ks) (.mk g e):=by
 have i:Jc c.z ks=Jc c.z e:=i
 show zT c.z _=zT c.z _
 rw[zT,zT,h,i]
theorem XQ{x y:Tm}{a b:List Tm}(h:VT c x y)(k:VTs c a b):VTs c (x::a) (y::b):=by
 have h:zT c.z x=zT c.z y:=h
 have k:Jc c.z a=Jc c.z b:=k
 show Jc c.z (x::a)=Jc c.z (y::b)
 rw[Jc,Jc,h,k]
theorem a4q{x y:Tm}{a b:List Tm}(k:VTs c a b)(h:VT c x y):VTs c (a++[x]) (b++[y]):=by
 have h:zT c.z x=zT c.z y:=h
 have k:Jc c.z a=Jc c.z b:=k
 show Jc c.z _=Jc c.z _
 rw[a6g,a6g,k]
 show _++[zT c.z x]=_++[zT c.z y]
 rw[h]
theorem Rl.nxE(hc:CmOK c)(h:Rl c s t)(q:In c s){w:List UInt8}(j:c.E->M9 (c.b (c.d+c.n)) w=false):t.next ⟨w⟩=s.next ⟨w⟩:=by
 rcases q with q|⟨g,q⟩
 ·exact h.nx hc q _
 ·rw[Vg (WT hc h (Ge.refl h.hs) g q)]
  have e:t.peek 0=c.b (c.d+c.n):=by unfold PS.peek Cm.b;rw[h.lb,h.zb,h.i,q];rfl
  have k:=j g
  rw[<- e]at k
  exact k
theorem In.lt(hc:CmOK c)(h:Rl c s t)(q:In c s){w:Str}(hn:s.next w=true):s.i<c.n:=by
 rcases q with q|⟨e,q⟩
 ·exact q
 ·rw[Vg (WT hc h (Ge.refl h.hs) e q)]at hn;cases hn
theorem bdI{α β γ δ:Type}{V:α->β->Prop}{W:γ->δ->Prop}{a:α×PS}{b:β×PS}{a':γ×PS}{e:δ×PS}(hc:CmOK c)(h:Rl c s t)(g:Ge s a.2)(o:Y1 c V a b)(j:Ge a.2 a'.2)(i:Ge b.2 e.2)(k:Rl c a.2 b.2->V a.1 b.1->In c a.2->Y1 c W a' e):Y1 c W a' e:=Y1.bindE hc o (g.l.trans h.la) (g.sz.trans h.za) j i k
theorem Ge.func2{s:PS}(h:s.i<=s.l.length):Ge s.name.2 s.func.2:=by
 have h1:=Ge.name h
 unfold PS.func
 split
 ·have h2:=Ge.step (Ze ‹_›)
  exact h2.trans (Ge.name h2.hi)
 ·exact Ge.refl h1.hi
theorem PH(hc:CmOK c)(h:Rl c s t):Y1 c Eq s.func t.func:=by
 refine bdI hc h (Ge.name h.hs) (Gg hc h) (Ge.func2 h.hs) (Ge.func2 h.ht) fun r v q=> ?_
 unfold PS.func
 rw[r.nxE hc q (w:=[46]) (fun e=>(hc.en e).2.dot)]
 split
 ·rename_i hn
  have g:=r.stepN hc (q.lt hc r hn) hn
  exact(Gg hc g).map (fun e=>by rw[v,e])
 ·exact r.outE v
theorem Rl.plain(hc:CmOK c)(h:Rl c s t)(q:In c s)(n:Str):t.plain n=s.plain n:=by
 unfold PS.plain
 rw[h.nxE hc q (w:=[91]) (fun e=>(hc.en e).2.sq),h.nxE hc q (w:=[123]) (fun e=>(hc.en e).2.br),h.nxE hc q (w:=[64]) (fun e=>(hc.en e).2.at_),h.nxE hc q (w:=[40]) (fun e=>(hc.en e).2.par)]
theorem a9h(hc:CmOK c)(h:Rl c s t):Q0 c Eq s.sizesN t.sizesN:=by
 by_cases hi:s.i<c.n
 ·unfold PS.sizesN
  rw[h.nx hc hi]
  split
  ·rename_i q
   have e:=h.stepN hc hi q
   have g:=Ge.list (one:=PS.linear) (fun s h=>Ge.linear h) e.hs
   have j:=Ge.list (one:=PS.linear) (fun s h=>Ge.linear h) e.ht
   refine bdO hc e g (ME (one:=PS.linear) hc (fun s h=>Ge.linear h) (fun s t r=>Ro hc r) e) (Ge.need g.hi) (Ge.need j.hi) fun r v=> ?_
   exact((YH hc r ⟨[93]⟩).map (fun _=>v)).out
  ·exact(h.outE rfl).out
 ·exact Q0.dead hc h (Ge.sizesN h.hs) (by omega)
theorem b0o(hc:CmOK c)(h:Rl c s t):Q0 c Eq s.frameN t.frameN:=by
 by_cases hi:s.i<c.n
 ·unfold PS.frameN
  rw[h.nx hc hi]
  split
  ·rename_i q
   have e:=h.stepN hc hi q
   have g:=Ge.num (m:=2147483648) e.hs
   have j:=Ge.num (m:=2147483648) e.ht
   refine bdO hc e g (JH hc e _).out (Ge.need g.hi) (Ge.need j.hi) fun r v=> ?_
   exact((YH hc r ⟨[125]⟩).map (fun _=>v)).out
  ·exact(h.outE rfl).out
 ·exact Q0.dead hc h (Ge.frameN h.hs) (by omega)
theorem a6w(hc:CmOK c)(h:Rl c s t):Q0 c Eq s.ranksN t.ranksN:=by
 by_cases hi:s.i<c.n
 ·unfold PS.ranksN
  rw[h.nx hc hi]
  split
  ·rename_i q
   have e:=h.stepN hc hi q
   have k:=Ge.need (w:=⟨[40]⟩) e.hs
   have u:=Ge.need (w:=⟨[40]⟩) e.ht
   have g:=Ge.list (one:=PS.numM) (fun s h=>Ge.num h) k.hi
   have j:=Ge.list (one:=PS.numM) (fun s h=>Ge.num h) u.hi
   refine bdO (a:=((),s.step.need ⟨[40]⟩)) (b:=((),t.step.need ⟨[40]⟩)) hc e k (YH hc e _).out (g.trans (Ge.need g.hi)) (j.trans (Ge.need j.hi)) fun l _=> ?_
   refine bdO hc l g (ME (one:=PS.numM) hc (fun s h=>Ge.num h) (fun s t r=>(JH hc r _).out) l) (Ge.need g.hi) (Ge.need j.hi) fun r v=> ?_
   exact((YH hc r ⟨[41]⟩).map (fun _=>v)).out
  ·exact(h.outE rfl).out
 ·exact Q0.dead hc h (Ge.ranksN h.hs) (by omega)
theorem b6z{ex:PS->Tm×PS}{u:PS}(h:u.l.length<=u.i):(YO ex u).2.bad=true:=by
 unfold YO
 rw[if_pos (VZ h _)]
 refine VZ ?_ _
 unfold PS.need
 rw[if_neg (by rw[Vg h];decide)]
 exact Nat.le_refl _
variable {N M:Nat} {ex ex':PS->Tm×PS}
theorem Ge.kids2(e:U1 N ex){s:PS}(g:Yf N s)(h:s.i<=s.l.length):Ge (s.need ⟨[40]⟩) (YO ex s).2:=by
 have h1:=Ge.need (w:=⟨[40]⟩) h
 unfold YO
 split
 ·exact Ge.need h1.hi
 ·split
  ·exact Ge.need h1.hi
  ·have h2:=Ge.listL (B:=Yf N) (fun s t h k=>h.ge k) (fun s h k=>e s h k) (g.ge h1) h1.hi
   exact h2.trans (Ge.need h2.hi)
theorem d0l(hc:CmOK c)(A:U1 N ex)(g:U1 M ex')(J:SX c N M ex ex')(f:Yf N s)(z:Yf M t)(h:Rl c s t):Y1 c (VTs c) (YO ex s) (YO ex' t):=by
 have q:=Ge.need (w:=⟨[40]⟩) h.hs
 have C:=Ge.need (w:=⟨[40]⟩) h.ht
 have E:=Ge.kids2 A f h.hs
 have L:=Ge.kids2 g z h.ht
 refine NU (a:=((),s.need ⟨[40]⟩)) (b:=((),t.need ⟨[40]⟩)) hc h q (YH hc h _) E L fun r _=> ?_
 have r:Rl c (s.need ⟨[40]⟩) (t.need ⟨[40]⟩):=r
 have j:=Ge.listL (B:=Yf N) (fun s t h k=>h.ge k) (fun s h k=>A s h k) (f.ge q) q.hi
 have F:=Ge.listL (B:=Yf M) (fun s t h k=>h.ge k) (fun s h k=>g s h k) (z.ge C) C.hi
 by_cases hi:(s.need ⟨[40]⟩).i<c.n
 ·unfold YO
  rw[if_neg r.nb,if_neg r.nt,r.nx hc hi]
  split
  ·exact(YH hc r ⟨[41]⟩).map (fun _=>rfl)
  ·refine bdS (V:=VTs c) hc r j (AP (P:=Yf N) (P':=Yf M) (V:=VT c) hc (fun s u a b=>a.ge b) (fun s u a b=>a.ge b) (fun s a b=>A s a b) (fun s a b=>g s a b) (fun s t a b r=>(J s t a b r).out) (fun o o' x y e H=>a4q e H) (fun x y e=>XQ e rfl) (f.ge q) (z.ge C) r) (Ge.need j.hi) (Ge.need F.hi) (fun D _ e=>VZ (WT hc r j D e) _) fun K v=> ?_
   exact(YH hc K ⟨[41]⟩).map (fun _=>v)
 ·refine Y1.dead hc r E (by omega) fun D e=> ?_
  have I:=WT hc r (Ge.refl r.hs) D e
  unfold YO
  rw[if_neg r.nb,if_neg (by rw[Vg I];decide)]
  refine VZ ?_ _
  have:=j.le
  rw[j.l]
  omega
theorem c0w(hc:CmOK c)(K:U1 N ex)(B:U1 M ex')(O:SX c N M ex ex'){ln A:Int}(T:c.z ln=c.z A){n:Str}(f:Yf N s)(I:Yf M t)(h:Rl c s t):Y1 c (VT c) (XH ex ln n s) (XH ex' A n t):=by
 have q:=Ge.sizesN h.hs
 have b1:=Ge.sizesN h.ht
 have j:=Ge.frameN q.hi
 have C:=Ge.frameN b1.hi
 have g:=Ge.ranksN j.hi
 have y:=Ge.ranksN C.hi
 have F:=Ge.kids K (f.ge (q.trans (j.trans g))) g.hi
 have D:=Ge.kids B (I.ge (b1.trans (C.trans y))) y.hi
 have dead : ∀ {u:PS},Ge s u->Ge u s.sizesN.2.frameN.2.ranksN.2->c.E->u.i=c.n->(XH ex ln n s).2.bad=true:=fun {u} g1 g2 r e=>by
  refine b6z ?_
  have:=WT hc h g1 r e
  have k:=g2.l
  have:=g2.le
  rw[k]
  omega
 refine bdS hc h q (a9h hc h) (j.trans (g.trans F)) (C.trans (y.trans D)) (fun r _ e=>dead q (j.trans g) r e) fun H Q=> ?_
 refine bdS hc H j (b0o hc H) (g.trans F) (y.trans D) (fun r _ e=>dead (q.trans j) g r e) fun J L=> ?_
 refine bdS hc J g (a6w hc J) F D (fun r _ e=>dead (q.trans (j.trans g)) (Ge.refl g.hi) r e) fun P S=> ?_
 unfold XH
 rw[Q,L,S]
 refine(d0l hc K B O (f.ge (q.trans (j.trans g))) (I.ge (b1.trans (C.trans y))) P).map (fun e=>Uz ?_ e)
 exact congrArg (fun l=>({He with kind:=6,line:=l,name:=n,num:=t.sizesN.2.frameN.1,sizes:=t.sizesN.1,ranks:=t.sizesN.2.frameN.2.ranksN.1}:Nd)) T
theorem c3z(hc:CmOK c)(D:U1 N ex)(e:U1 M ex')(E:SX c N M ex ex')(f:Yf (N+1) s)(B:Yf (M+1) t)(h:Rl c s t)(hi:s.i<c.n)(z:(s.peek 0).k=1):Y1 c (VT c) (Yz ex s) (Yz ex' t):=by
 have k:=h.pk hc (j:=0) hi
 have g:(t.peek 0).k=1:=by rw[k.k];exact z
 have C:=YN (s:=s) (by rw[z];decide)
 have A:=YN (s:=t) (by rw[g];decide)
 have u:=Ge.func1 z
 have y:=Ge.func1 g
 have H:Ge s.func.2 (Yz ex s).2:=by
  unfold Yz
  split
  ·exact Ge.refl u.hi
  ·exact Ge.callB D ((f.step C).ge u) u.hi
 have F:Ge t.func.2 (Yz ex' t).2:=by
  unfold Yz
  split
  ·exact Ge.refl y.hi
  ·exact Ge.callB e ((B.step A).ge y) y.hi
 refine bdI hc h (Ge.func h.hs) (PH hc h) H F fun r v q=> ?_
 unfold Yz
 rw[r.plain hc q,v]
 split
 ·exact r.outE (Uz (congrArg (fun l=>WS 1 l t.func.1) k.ln.symm) rfl)
 ·exact c0w hc D e E k.ln.symm ((f.step C).ge u) ((B.step A).ge y) r
theorem c5i(hc:CmOK c)(V:U1 N ex)(y:U1 M ex')(K:SX c N M ex ex'){ln A:Int}(X:c.z ln=c.z A)(f:Yf N s)(C:Yf M t)(h:Rl c s t):Y1 c (VT c) (QF ex ln s) (QF ex' A t):=by
 have F:=Ge.need (w:=⟨[40]⟩) h.hs
 have b1:=Ge.need (w:=⟨[40]⟩) h.ht
 have D:=Ge.func F.hi
 have H:=Ge.func b1.hi
 have u:=Ge.need (w:=⟨[44]⟩) D.hi
 have E:=Ge.need (w:=⟨[44]⟩) H.hi
 have I:=F.trans (D.trans u)
 have J:=b1.trans (H.trans E)
 have i:=V _ (f.ge I) u.hi
 have B:=y _ (C.ge J) E.hi
 have e:=Ge.need (w:=⟨[44]⟩) i.hi
 have q:=Ge.need (w:=⟨[44]⟩) B.hi
 have P:=I.trans (i.trans e)
 have S:=J.trans (B.trans q)
 have g:=V _ (f.ge P) e.hi
 have k:=y _ (C.ge S) q.hi
 have j:=Ge.need (w:=⟨[41]⟩) g.hi
 have r:=Ge.need (w:=⟨[41]⟩) k.hi
 refine NU (a:=((),s.need ⟨[40]⟩)) (b:=((),t.need ⟨[40]⟩)) hc h F (YH hc h _) (D.trans (u.trans (i.trans (e.trans (g.trans j))))) (H.trans (E.trans (B.trans (q.trans (k.trans r))))) fun T _=> ?_
 refine NU hc T D (PH hc T) (u.trans (i.trans (e.trans (g.trans j)))) (E.trans (B.trans (q.trans (k.trans r)))) fun O Z=> ?_
 refine NU (a:=((),(s.need ⟨[40]⟩).func.2.need ⟨[44]⟩)) (b:=((),(t.need ⟨[40]⟩).func.2.need ⟨[44]⟩)) hc O u (YH hc O _) (i.trans (e.trans (g.trans j))) (B.trans (q.trans (k.trans r))) fun U _=> ?_
 refine NU hc U i (K _ _ (f.ge I) (C.ge J) U) (e.trans (g.trans j)) (q.trans (k.trans r)) fun L v4=> ?_
 refine NU (a:=((),(ex ((s.need ⟨[40]⟩).func.2.need ⟨[44]⟩)).2.need ⟨[44]⟩)) (b:=((),(ex' ((t.need ⟨[40]⟩).func.2.need ⟨[44]⟩)).2.need ⟨[44]⟩)) hc L e (YH hc L _) (g.trans j) (k.trans r) fun Q _=> ?_
 refine NU hc Q g (K _ _ (f.ge P) (C.ge S) Q) j r fun W Y=> ?_
 refine(YH hc W ⟨[41]⟩).map (fun _=>Uz ?_ (XQ v4 (XQ Y rfl)))
 rw[Z]
 exact congrArg (fun l=>WS 8 l (t.need ⟨[40]⟩).func.1) X
theorem c7z(hc:CmOK c)(P:U1 N ex)(B:U1 M ex')(K:SX c N M ex ex'){ln e:Int}(Q:c.z ln=c.z e)(f:Yf N s)(C:Yf M t)(h:Rl c s t):Y1 c (VT c) (Qp ex ln s) (Qp ex' e t):=by
 have A:=Ge.need (w:=⟨[40]⟩) h.hs
 have b1:=Ge.need (w:=⟨[40]⟩) h.ht
 have q:=Ge.func A.hi
 have y:=Ge.func b1.hi
 have i:=Ge.need (w:=⟨[44]⟩) q.hi
 have j:=Ge.need (w:=⟨[44]⟩) y.hi
 have D:=A.trans (q.trans i)
 have E:=b1.trans (y.trans j)
 have g:=P _ (f.ge D) i.hi
 have k:=B _ (C.ge E) j.hi
 have r:=Ge.need (w:=⟨[41]⟩) g.hi
 have u:=Ge.need (w:=⟨[41]⟩) k.hi
 refine NU (a:=((),s.need ⟨[40]⟩)) (b:=((),t.need ⟨[40]⟩)) hc h A (YH hc h _) (q.trans (i.trans (g.trans r))) (y.trans (j.trans (k.trans u))) fun F _=> ?_
 refine NU hc F q (PH hc F) (i.trans (g.trans r)) (j.trans (k.trans u)) fun H J=> ?_
 refine NU (a:=((),(s.need ⟨[40]⟩).func.2.need ⟨[44]⟩)) (b:=((),(t.need ⟨[40]⟩).func.2.need ⟨[44]⟩)) hc H i (YH hc H _) (g.trans r) (k.trans u) fun I _=> ?_
 refine NU hc I g (K _ _ (f.ge D) (C.ge E) I) r u fun O L=> ?_
 refine(YH hc O ⟨[41]⟩).map (fun _=>Uz ?_ (XQ L rfl))
 rw[J]
 exact congrArg (fun l=>WS 9 l (t.need ⟨[40]⟩).func.1) Q
theorem c2x(hc:CmOK c){ln g:Int}(B:c.z ln=c.z g)(h:Rl c s t):Y1 c (VT c) (VD ln s) (VD g t):=by
 have u:=Ge.need (w:=⟨[91]⟩) h.hs
 have b1:=Ge.need (w:=⟨[91]⟩) h.ht
 have i:=Ge.linear u.hi
 have k:=Ge.linear b1.hi
 have r:=Ge.need (w:=⟨[93]⟩) i.hi
 have q:=Ge.need (w:=⟨[93]⟩) k.hi
 refine NU (a:=((),s.need ⟨[91]⟩)) (b:=((),t.need ⟨[91]⟩)) hc h u (YH hc h _) (i.trans r) (k.trans q) fun j _=> ?_
 refine bdS hc j i (Ro hc j) r q (fun A _ e=>VZ (WT hc j i A e) _) fun C y=> ?_
 refine(YH hc C ⟨[93]⟩).map (fun _=>Uz ?_ rfl)
 rw[y]
 exact congrArg (fun l=>({Lv 4 l with sizes:=[(t.need ⟨[91]⟩).linear.1]}:Nd)) B
theorem LZ{u:PS}(h:u.l.length<=u.i):(YC ex u).2.bad=true:=by
 have e:(u.peek 0).k=0:=by rw[WE (by omega)]
 unfold YC
 dsimp only
 have nx : ∀ w:Str,¬ u.next w=true:=fun w=>by rw[Vg h];decide
 rw[e,if_neg (by decide),if_neg (by decide),if_neg (nx _),if_neg (nx _),if_neg (nx _),if_neg (nx _),if_neg (nx _),if_neg (nx _),if_neg (nx _),if_neg (nx _)]
 rfl
theorem d0q(hc:CmOK c)(D:U1 N ex)(z:U1 M ex')(F:SX c N M ex ex')(f:Yf (N+1) s)(K:Yf (M+1) t)(h:Rl c s t):Y1 c (VT c) (YC ex s) (YC ex' t):=by
 by_cases hi:s.i<c.n
 ·have k:=h.pk hc (j:=0) hi
  have l:=k.ln.symm
  have st : ∀ {w:Str},s.next w=true->Rl c s.step t.step∧Yf N s.step∧Yf M t.step:=fun {w} q=>
   ⟨h.stepN hc hi q,f.step (Ze q),K.step (Ze (s:=t) (w:=w) (by rw[h.nx hc hi];exact q))⟩
  unfold YC
  dsimp only
  rw[k.k]
  by_cases q:(s.peek 0).k=3
  ·rw[if_pos q,if_pos q]
   exact(JH hc h 2147483647).map (fun e=>Uz (by rw[e];exact congrArg (fun l=>({WS 2 l ⟨Ww⟩with num:=(t.num 2147483647).1}:Nd)) l) rfl)
  rw[if_neg q,if_neg q]
  by_cases q:(s.peek 0).k=1
  ·rw[if_pos q,if_pos q]
   exact c3z hc D z F f K h hi q
  rw[if_neg q,if_neg q]
  have nx:=h.nx hc hi
  by_cases q:s.next ⟨[116,114,117,101]⟩=true
  ·rw[if_pos q,if_pos (show t.next ⟨[116,114,117,101]⟩=true from by rw[nx];exact q)]
   exact(st q).1.outE (Uz (congrArg (fun l=>({WS 2 l ⟨Xy⟩with num:=1}:Nd)) l) rfl)
  rw[if_neg q,if_neg (show ¬ t.next ⟨[116,114,117,101]⟩=true from by rw[nx];exact q)]
  by_cases q:s.next ⟨[102,97,108,115,101]⟩=true
  ·rw[if_pos q,if_pos (show t.next ⟨[102,97,108,115,101]⟩=true from by rw[nx];exact q)]
   exact(st q).1.outE (Uz (congrArg (fun l=>WS 2 l ⟨Xy⟩) l) rfl)
  rw[if_neg q,if_neg (show ¬ t.next ⟨[102,97,108,115,101]⟩=true from by rw[nx];exact q)]
  by_cases q:s.next ⟨[40]⟩=true
  ·rw[if_pos q,if_pos (show t.next ⟨[40]⟩=true from by rw[nx];exact q)]
   obtain⟨g,C,A⟩:=st q
   have E:=D _ C g.hs
   have H:=z _ A g.ht
   refine NU hc g E (F _ _ C A g) (Ge.need E.hi) (Ge.need H.hi) fun I v=> ?_
   exact(YH hc I ⟨[41]⟩).map (fun _=>v)
  rw[if_neg q,if_neg (show ¬ t.next ⟨[40]⟩=true from by rw[nx];exact q)]
  by_cases q:s.next ⟨[91]⟩=true
  ·rw[if_pos q,if_pos (show t.next ⟨[91]⟩=true from by rw[nx];exact q)]
   obtain⟨g,C,A⟩:=st q
   have E:=Ge.listL (B:=Yf N) (fun s t h k=>h.ge k) (fun s h k=>D s h k) C g.hs
   have H:=Ge.listL (B:=Yf M) (fun s t h k=>h.ge k) (fun s h k=>z s h k) A g.ht
   refine bdS (V:=VTs c) hc g E (AP (P:=Yf N) (P':=Yf M) (V:=VT c) hc (fun s u a b=>a.ge b) (fun s u a b=>a.ge b) (fun s a b=>D s a b) (fun s a b=>z s a b) (fun s t a b r=>(F s t a b r).out) (fun o o' x y e L=>a4q e L) (fun x y e=>XQ e rfl) C A g) (Ge.need E.hi) (Ge.need H.hi) (fun J _ e=>VZ (WT hc g E J e) _) fun I v=> ?_
   exact(YH hc I ⟨[93]⟩).map (fun _=>Uz (congrArg (fun l=>Lv 7 l) l) v)
  rw[if_neg q,if_neg (show ¬ t.next ⟨[91]⟩=true from by rw[nx];exact q)]
  by_cases q:s.next ⟨[102,111,108,100]⟩=true
  ·rw[if_pos q,if_pos (show t.next ⟨[102,111,108,100]⟩=true from by rw[nx];exact q)]
   obtain⟨g,C,A⟩:=st q
   exact c5i hc D z F l C A g
  rw[if_neg q,if_neg (show ¬ t.next ⟨[102,111,108,100]⟩=true from by rw[nx];exact q)]
  by_cases q:s.next ⟨[115,99,97,110]⟩=true
  ·rw[if_pos q,if_pos (show t.next ⟨[115,99,97,110]⟩=true from by rw[nx];exact q)]
   obtain⟨g,C,A⟩:=st q
   exact c7z hc D z F l C A g
  rw[if_neg q,if_neg (show ¬ t.next ⟨[115,99,97,110]⟩=true from by rw[nx];exact q)]
  by_cases q:s.next ⟨[115,105,122,101]⟩=true
  ·rw[if_pos q,if_pos (show t.next ⟨[115,105,122,101]⟩=true from by rw[nx];exact q)]
   exact c2x hc l (st q).1
  rw[if_neg q,if_neg (show ¬ t.next ⟨[115,105,122,101]⟩=true from by rw[nx];exact q)]
  by_cases q:s.next ⟨[35]⟩=true
  ·rw[if_pos q,if_pos (show t.next ⟨[35]⟩=true from by rw[nx];exact q)]
   exact(d4n hc (st q).1).map (fun e=>Uz (by rw[e];exact congrArg (fun l=>({Lv 3 l with elem:=t.step.arr.1.e,dims:=t.step.arr.1.d,data:=t.step.arr.1.x}:Nd)) l) rfl)
  rw[if_neg q,if_neg (show ¬ t.next ⟨[35]⟩=true from by rw[nx];exact q)]
  exact h.failE hc hi _ _
 ·exact Y1.dead hc h (Ge.prim D f h.hs) (by omega) fun J e=>LZ (WT hc h (Ge.refl h.hs) J e)
end
end
section
section
variable {c:Cm} {s t:PS} {N M:Nat} {ex ex':PS->Tm×PS} {un un':PS->(Tm×Int)×PS}
theorem a5m{u:PS}(h:u.l.length<=u.i):(Wt ex un u).2.bad=true:=by
 unfold Wt
 dsimp only
 rw[Vg h,Vg h,Bool.false_and,Bool.or_false,if_neg (by decide),if_neg (by decide)]
 exact LZ h
theorem c2c{s:PS}(hu:Dv N un)(g:Yf (N+1) s)(hn:s.next ⟨[45]⟩=true∨s.next ⟨[33]⟩=true):Ge s.step (Wt ex un s).2:=by
 have hi:s.i<s.l.length:=by rcases hn with h|h <;> exact Ze h
 have e:=Ge.step hi
 unfold Wt
 dsimp only
 split
 ·exact Ge.num e.hi
 ·rw[if_pos (by rcases hn with h|h <;> simp[h])]
  exact hu _ (g.step hi) e.hi
theorem d9z(hc:CmOK c)(I:U1 N ex)(C:U1 M ex')(P:SX c N M ex ex')(hu:Dv N un)(hu':Dv M un')(J:SU c N M un un')(Q:WU N un)(f:Yf (N+1) s)(E:Yf (M+1) t)(h:Rl c s t):Y1 c (VU c) (Wt ex un s) (Wt ex' un' t):=by
 have g:=Ge.una I hu f h.hs
 by_cases hi:s.i<c.n
 ·have k:=h.pk hc (j:=0) hi
  have l:=k.ln.symm
  by_cases hn:s.next ⟨[45]⟩=true∨s.next ⟨[33]⟩=true
  ·have A:s.i<s.l.length:=by rcases hn with h|h <;> exact Ze h
   have u:Rl c s.step t.step:=by rcases hn with q|q <;> exact h.stepN hc hi q
   have y:t.next ⟨[45]⟩=true∨t.next ⟨[33]⟩=true:=by rw[h.nx hc hi,h.nx hc hi];exact hn
   have O:t.i<t.l.length:=by rcases y with h|h <;> exact Ze h
   have F:=c2c (ex:=ex) hu f hn
   by_cases hj:s.i+1<c.n
   ·have K:=h.pk hc (j:=1) hj
    unfold Wt
    dsimp only
    rw[h.nx hc hi,h.nx hc hi,K.k]
    split
    ·exact(JH hc u 2147483648).map (fun e=>⟨Uz (by rw[e];exact congrArg (fun l=>({WS 2 l ⟨Ww⟩with num:=IntKind.i64.wrap (-(t.step.num 2147483648).1)}:Nd)) l) rfl,l⟩)
    ·rw[if_pos (by rcases hn with h|h <;> simp[h]),if_pos (by rcases hn with h|h <;> simp[h])]
     refine(J _ _ (f.step A) (E.step O) u).map (fun e=>⟨Uz ?_ (XQ e.1 rfl),l⟩)
     rw[k.t]
     exact congrArg (fun l=>WS 6 l (Wy (s.peek 0).t true).a) l
   ·refine⟨fun b1 r=> ?_,fun b1 r=>absurd r (F.wk hc h.la h.za h.sb (show c.n<=s.i+1 by omega) b1)⟩
    exfalso
    have H:=F.le
    have H:s.i+1<=(Wt ex un s).2.i:=H
    rcases r with r|⟨B,r⟩
    ·omega
    ·have el:s.l.length=s.i+1:=by rw[h.la,<- (hc.en B).1];omega
     have L:(s.peek 1).k=0:=by rw[WE (by omega)]
     unfold Wt at b1
     dsimp only at b1
     rw[L,decide_eq_false (show ¬ (0:Int)=3 by decide),Bool.and_false,if_neg (by decide),if_pos (by rcases hn with h|h <;> simp[h])]at b1
     have w:=Q s.step (by show Z9 s.l=true;rw[h.la];exact hc.lx) (f.step A) u.hs b1
     have p:=a4p (un s.step).1.1
     have D:=hu _ (f.step A) u.hs
     have z:=D.hi
     rw[D.l]at z
     have z:(un s.step).2.i<=s.l.length:=z
     have e2:s.step.i=s.i+1:=rfl
     omega
  ·have h1:s.next ⟨[45]⟩=false:=by cases e:s.next ⟨[45]⟩ <;> simp_all
   have h2:s.next ⟨[33]⟩=false:=by cases e:s.next ⟨[33]⟩ <;> simp_all
   unfold Wt
   dsimp only
   rw[h.nx hc hi,h.nx hc hi,h1,h2,Bool.false_and,Bool.false_and,Bool.or_false,if_neg (by decide),if_neg (by decide),if_neg (by decide),if_neg (by decide)]
   exact(d0q hc I C P f E h).map (fun e=>⟨e,l⟩)
 ·exact Y1.dead hc h g (by omega) fun B e=>a5m (WT hc h (Ge.refl h.hs) B e)
theorem Rl.oper(hc:CmOK c)(h:Rl c s t)(q:s.i<c.n):t.oper.1=s.oper.1:=by
 have k:=h.pk hc (j:=0) q
 unfold PS.oper
 rw[k.k,k.t]
 split <;> rfl
theorem b3x{u:PS}(h:u.l.length<=u.i):u.oper.1.2=0:=by
 unfold PS.oper
 rw[WE (by omega)]
 rfl
theorem b0k(hc:CmOK c)(h:Rl c s t)(g:c.E)(q:s.i=c.n):t.oper.1.2=0:=by
 have e:t.peek 0=c.b (c.d+c.n):=by unfold PS.peek Cm.b;rw[h.lb,h.zb,h.i,q];rfl
 unfold PS.oper
 rw[e]
 split
 ·exact(hc.en g).2.op ‹_›
 ·rfl
theorem Re(hc:CmOK c){I j:PS->(Tm×Int)×PS}{lev:Int}(g:lev≠0)(E:Dv (N+1) I)(k:Dv (M+1) j)(D:SU c (N+1) (M+1) I j): ∀ (n m:Nat) {s t:PS} {l l':Tm} {ln i:Int},Rl c s t->Yf (N+1) s->Yf (M+1) t->Yf n s->Yf m t->In c s->VT c l l'->c.z ln=c.z i->Y1 c (VU c) (opLoop I lev ln n s l) (opLoop j lev i m t l')
 | 0,_,s,t,l,l',ln,i,h,f,f',f1,f2,q,v,e=>by unfold Yf at f1;omega
 | _+1,0,s,t,l,l',ln,i,h,f,f',f1,f2,q,v,e=>by unfold Yf at f2;omega
 | n+1,m+1,s,t,l,l',ln,i,h,f,f',f1,f2,q,v,e=>by
  rw[opLoop,opLoop,if_neg h.nb,if_neg h.nt]
  rcases q with q|⟨K,q⟩
  ·have J:=h.oper hc q
   rw[J]
   split
   ·exact h.outE ⟨v,e⟩
   ·rename_i q2
    have H:=Q4 (s:=s) (by omega)
    have F:=Q4 (s:=t) (by rw[J];omega)
    have u:=h.stepR H F
    have y:=f.ge (Ge.step H)
    have B:=f'.ge (Ge.step F)
    have A:=E _ y u.hs
    have C:=k _ B u.ht
    split
    ·exact(D _ _ y B u).map (fun w=>⟨Uz (congrArg (fun l=>WS 6 l s.oper.1.1) e) (XQ v (XQ w.1 rfl)),e⟩)
    ·refine bdI hc u A (D _ _ y B u) (Ge.opLoop g E n (y.ge A) A.hi) (Ge.opLoop g k m (B.ge C) C.hi) fun r w L=> ?_
     exact Re hc g E k D n m r (y.ge A) (B.ge C) ((f1.step H).ge A) ((f2.step F).ge C) L (Uz (congrArg (fun l=>WS 6 l s.oper.1.1) e) (XQ v (XQ w.1 rfl))) e
  ·rw[if_pos (by rw[b3x (WT hc h (Ge.refl h.hs) K q)];exact g.symm),if_pos (by rw[b0k hc h K q];exact g.symm)]
   exact h.outE ⟨v,e⟩
theorem a3n(hc:CmOK c)(z:Dv (N+1) un)(j:Dv (M+1) un')(y:SU c (N+1) (M+1) un un'): ∀ d:Nat,d<=5->SU c (N+1) (M+1) (Z6 un d) (Z6 un' d)
 | 0,_=>y
 | d+1,hd=>fun s t f l h=>by
  have u:=Ge.from z d (by omega)
  have e:=Ge.from j d (by omega)
  have i:=u s f h.hs
  have k:=e t l h.ht
  have g:=a3n hc z j y d (by omega)
  rw[Z6,Z6]
  refine bdI hc h i (g s t f l h) (Ge.opLoop (by omega) u _ (f.ge i) i.hi) (Ge.opLoop (by omega) e _ (l.ge k) k.hi) fun r v q=> ?_
  exact Re hc (by omega) u e g _ _ r (f.ge i) (l.ge k) (WC i) (WC k) q v.1 v.2
theorem c9k{e:PS->(Tm×Int)×PS}{lev ln:Int}{n:Nat}{u:PS}{l:Tm}(h:u.bad=true):(opLoop e lev ln n u l).2.bad=true:=by
 cases n with
 | zero=>exact h
 | succ n=>rw[opLoop,if_pos h];exact h
theorem MK{u:PS}(h:(un u).2.bad=true): ∀ d:Nat,(Z6 un d u).2.bad=true
 | 0=>h
 | d+1=>by rw[Z6];exact c9k (MK h d)
theorem e5m(hc:CmOK c)(P:U1 N ex)(A:U1 M ex')(S:SX c N M ex ex')(X:Dv (N+1) un)(K:Dv (M+1) un')(su:SU c (N+1) (M+1) un un')(he : ∀ u:PS,u.l.length<=u.i->(un u).2.bad=true)(f:Yf (N+1) s)(Q:Yf (M+1) t)(h:Rl c s t):Y1 c (VT c) (BO ex un s) (BO ex' un' t):=by
 by_cases hi:s.i<c.n
 ·have k:=h.pk hc (j:=0) hi
  have l:=k.ln.symm
  unfold BO
  dsimp only
  rw[h.nx hc hi]
  split
  ·rename_i q
   have q':t.next ⟨[108,101,116]⟩=true:=by rw[h.nx hc hi];exact q
   have H:=h.stepN hc hi q
   have D:=f.step (Ze q)
   have g:=Q.step (Ze q')
   have I:=Ge.name H.hs
   have W:=Ge.name H.ht
   have B:=Ge.need (w:=⟨[61]⟩) I.hi
   have J:=Ge.need (w:=⟨[61]⟩) W.hi
   have L:=I.trans B
   have O:=W.trans J
   have y:=P _ (D.ge L) B.hi
   have F:=A _ (g.ge O) J.hi
   have r:=Ge.need (w:=⟨[105,110]⟩) y.hi
   have z:=Ge.need (w:=⟨[105,110]⟩) F.hi
   have Y:=L.trans (y.trans r)
   have Z:=O.trans (F.trans z)
   have E:=P _ (D.ge Y) r.hi
   have C:=A _ (g.ge Z) z.hi
   refine NU hc H I (Gg hc H) (B.trans (y.trans (r.trans E))) (J.trans (F.trans (z.trans C))) fun V v2=> ?_
   refine NU (a:=((),s.step.name.2.need ⟨[61]⟩)) (b:=((),t.step.name.2.need ⟨[61]⟩)) hc V B (YH hc V _) (y.trans (r.trans E)) (F.trans (z.trans C)) fun r3 _=> ?_
   refine NU hc r3 y (S _ _ (D.ge L) (g.ge O) r3) (r.trans E) (z.trans C) fun T v4=> ?_
   refine NU (a:=((),(ex (s.step.name.2.need ⟨[61]⟩)).2.need ⟨[105,110]⟩)) (b:=((),(ex' (t.step.name.2.need ⟨[61]⟩)).2.need ⟨[105,110]⟩)) hc T r (YH hc T _) E C fun r5 _=> ?_
   refine(S _ _ (D.ge Y) (g.ge Z) r5).map (fun v6=>Uz ?_ (XQ v4 (XQ v6 rfl)))
   rw[v2]
   exact congrArg (fun l=>WS 5 l t.step.name.1) l
  ·exact(a3n hc X K su 5 (by omega) s t f Q h).map (fun v=>v.1)
 ·refine Y1.dead hc h (Ge.exp1 P X f h.hs) (by omega) fun hE e=> ?_
  have U:=WT hc h (Ge.refl h.hs) hE e
  unfold BO
  rw[if_neg (by rw[Vg U];decide)]
  exact MK (he s U) 5
end
theorem b6g{c:Cm}(hc:CmOK c): ∀ N M:Nat,SX c N M (Zw N) (Zw M)∧SU c N M (Va N) (Va M)
 | 0,_=>⟨fun s t f _ _=>by unfold Yf at f;omega,fun s t f _ _=>by unfold Yf at f;omega⟩
 | _+1,0=>⟨fun s t _ f _=>by unfold Yf at f;omega,fun s t _ f _=>by unfold Yf at f;omega⟩
 | N+1,M+1=>by
  obtain⟨i,j⟩:=b6g hc N M
  have e:SU c (N+1) (M+1) (Va (N+1)) (Va (M+1)):=fun s t f g h=>by
   rw[XT,XT]
   exact d9z hc (Xq N).1 (Xq M).1 i (Xq N).2 (Xq M).2 j (OU N).2 f g h
  exact⟨fun s t f g h=>by
   rw[Xc,Xc]
   exact e5m hc (Xq N).1 (Xq M).1 i (Xq (N+1)).2 (Xq (M+1)).2 e (fun u hu=>by rw[XT];exact a5m hu) f g h,e⟩
end
section
section
variable (z:Int->Int)
mutual
theorem d1n: ∀ t:Tm,Yc (zT z t)=Yc t
 | .mk n ks=>by rw[zT,Yc,Yc,F4 ks]
theorem F4: ∀ ks:List Tm,ZZ (Jc z ks)=ZZ ks
 | []=>rfl
 | k::ks=>by rw[Jc,ZZ,ZZ,d1n k,F4 ks]
end
end
mutual
theorem d3i{z:Int->Int}: ∀ {a b:Tm},zT z a=zT z b->Bh a b=true
 | .mk n ks,.mk m ls,h=>by
  rw[zT,zT]at h
  injection h with h1 h2
  rw[Bh,b7e h2,Bool.and_true]
  injection h1 with a1 a2 a3 a4 a5 a6 a7 a8 a9
  unfold c2y
  rw[a1,a3,a4,a5,a6,a7,a8,a9]
  simp
theorem b7e{z:Int->Int}: ∀ {a b:List Tm},Jc z a=Jc z b->Js a b=true
 | [],[],_=>rfl
 | k::ks,l::ls,h=>by
  rw[Jc,Jc]at h
  injection h with h1 h2
  rw[Js,d3i h1,b7e h2]
  rfl
 | [],l::ls,h=>by rw[Jc,Jc]at h;cases h
 | k::ks,[],h=>by rw[Jc,Jc]at h;cases h
end
mutual
theorem c3t: ∀ t:Tm,zT id t=t
 | .mk n ks=>by rw[zT,b6i ks];rfl
theorem b6i: ∀ ks:List Tm,Jc id ks=ks
 | []=>rfl
 | k::ks=>by rw[Jc,c3t k,b6i ks]
end
end
theorem F3{a:List UInt8}(ha:(ZR ⟨a⟩).c=0):Zz ⟨a⟩=if (Vf a).expr.2.endp.bad then⟨.mk He [],(Vf a).expr.2.endp.wr,6⟩else if (Vf a).expr.2.endp.big then⟨.mk He [],0,3⟩else if Xn (Vf a).expr.1 then⟨(Vf a).expr.1,0,0⟩else⟨.mk He [],0,3⟩:=by
 unfold Zz
 rw[if_neg (fun k=>k ha)]
theorem Sy{l:List Tok}{k:Nat}(h:k<l.length)(d:Tok):l.getD k d=l[k]:=by rw[List.getD_eq_getElem?_getD,List.getElem?_eq_getElem h];rfl
theorem c9y{l:List Tok}{k:Nat}(h:l.length<=k)(d:Tok):l.getD k d=d:=by rw[List.getD_eq_getElem?_getD,List.getElem?_eq_none h];rfl
theorem b4i{a:List UInt8}(h:(ZR ⟨a⟩).c≠0):(Zz ⟨a⟩).c=(ZR ⟨a⟩).c:=by
 unfold Zz
 rw[if_pos h]
section
def zn(t:Tm):Nat:=260*Yc t
theorem d7x(ks:List Tm):260*ZZ ks=(ks.map zn).sum:=by
 induction ks with
 | nil=>rfl
 | cons k ks ih=>rw[ZZ,Nat.mul_add,ih,List.map_cons,List.sum_cons];rfl
theorem UJ(n:Nd)(ks:List Tm):zn (.mk n ks)=260+(ks.map zn).sum:=by
 show 260*Yc (.mk n ks)=_
 rw[Yc,Nat.mul_add,d7x,Nat.add_comm]
def ZX(N:Nat)(ex:PS->Tm×PS):Prop:= ∀ s,Z9 s.l=true->Yf N s->s.i<=s.l.length->(ex s).2.bad=false->zn (ex s).1+260*s.i<=260*(ex s).2.i
def ZU(N:Nat)(un:PS->(Tm×Int)×PS):Prop:= ∀ s,Z9 s.l=true->Yf N s->s.i<=s.l.length->(un s).2.bad=false->zn (un s).1.1+260*s.i<=260*(un s).2.i
section
variable {N:Nat} {ex:PS->Tm×PS}
theorem a5u(g:U1 N ex)(u:ZX N ex){s:PS}(j:Z9 s.l=true)(r:Yf N s)(hi:s.i<=s.l.length)(h:(listL ex s).2.bad=false):((listL ex s).1.map zn).sum+260*s.i<=260*(listL ex s).2.i:=
 CS (one:=ex) (B:=Yf N) (f:=zn) (e:=0) (by omega) (fun s t h k=>h.ge k) (fun s h k=>g s h k) (fun s q b i h=>u s q b i h) j r hi h
theorem d0x(u:U1 N ex)(A:ZX N ex){s:PS}(D:Z9 s.l=true)(z:Yf N s)(hi:s.i<=s.l.length)(h:(YO ex s).2.bad=false):((YO ex s).1.map zn).sum+260*s.i<=260*(YO ex s).2.i:=by
 have e:=Ge.need (w:=⟨[40]⟩) hi
 have C:=Ge.need (w:=⟨[41]⟩) e.hi
 have e1:=e.le
 have e3:=C.le
 unfold YO at h ⊢
 split at h
 ·rename_i q;rw[if_pos q];show 0+260*s.i<=260*((s.need ⟨[40]⟩).need ⟨[41]⟩).i;omega
 ·rename_i q
  rw[if_neg q]
  split at h
  ·rename_i g;rw[if_pos g];show 0+260*s.i<=260*((s.need ⟨[40]⟩).need ⟨[41]⟩).i;omega
  ·rename_i g
   rw[if_neg g]
   have r:=z.ge e
   have y:=Ge.listL (B:=Yf N) (fun s t h k=>h.ge k) (fun s h k=>u s h k) r e.hi
   have j:=Ge.need (w:=⟨[41]⟩) y.hi
   have w:=a5u u A (by rw[e.l];exact D) r e.hi (j.good h)
   have e4:=j.le
   show((listL ex (s.need ⟨[40]⟩)).1.map zn).sum+260*s.i<=260*((listL ex (s.need ⟨[40]⟩)).2.need ⟨[41]⟩).i
   omega
theorem c1n(y:U1 N ex)(C:ZX N ex){ln:Int}{n:Str}{s:PS}(k:Z9 s.l=true)(B:Yf N s)(hi:s.i<=s.l.length)(h:(XH ex ln n s).2.bad=false):zn (XH ex ln n s).1+260*s.i<=260+260*(XH ex ln n s).2.i:=by
 have j:=Ge.sizesN hi
 have e:=Ge.frameN j.hi
 have g:=Ge.ranksN e.hi
 have u:=j.trans (e.trans g)
 have z:=B.ge u
 have D:=Ge.kids y z g.hi
 have r:(YO ex s.sizesN.2.frameN.2.ranksN.2).2.bad=false:=h
 have q:=D.good r
 have A:=g.good q
 have b1:=e.good A
 have w1:=a4d k hi b1
 have w3:=a4n (s:=s.sizesN.2.frameN.2) (by rw[e.l,j.l];exact k) e.hi q
 have w4:=d0x y C (s:=s.sizesN.2.frameN.2.ranksN.2) (by rw[u.l];exact k) z g.hi r
 have e2:=e.le
 show zn (.mk {He with kind:=6,line:=ln,name:=n,num:=s.sizesN.2.frameN.1,sizes:=s.sizesN.1,ranks:=s.sizesN.2.frameN.2.ranksN.1} (YO ex s.sizesN.2.frameN.2.ranksN.2).1)+260*s.i<=260+260*(YO ex s.sizesN.2.frameN.2.ranksN.2).2.i
 rw[UJ]
 omega
theorem b3e(j:U1 N ex)(B:ZX N ex){s:PS}(e:Z9 s.l=true)(A:Yf (N+1) s)(r:(s.peek 0).k=1)(h:(Yz ex s).2.bad=false):zn (Yz ex s).1+260*s.i<=260*(Yz ex s).2.i:=by
 have hi:=YN (s:=s) (by omega)
 have y:=Ge.step hi
 have h1:=Ge.func1 r
 have z:=y.trans h1
 unfold Yz at h ⊢
 split at h
 ·rename_i q
  rw[if_pos q]
  have C:=UX e (by omega) h
  rw[UJ]
  show 260+0+260*s.i<=260*s.func.2.i
  omega
 ·rename_i q
  rw[if_neg q]
  have g:Yf N s.func.2:=(A.step hi).ge h1
  have u:=Ge.callB j (ln:=(s.peek 0).ln) (n:=s.func.1) g h1.hi
  have C:=UX e (by omega) (u.good h)
  have w:=c1n j B (ln:=(s.peek 0).ln) (n:=s.func.1) (s:=s.func.2) (by rw[z.l];exact e) g h1.hi h
  omega
theorem d1k(E:U1 N ex)(z:ZX N ex){ln:Int}{s:PS}(u:Z9 s.l=true)(J:Yf N s)(hi:s.i<=s.l.length)(h:(QF ex ln s).2.bad=false):zn (QF ex ln s).1+260*s.i<=260*(QF ex ln s).2.i:=by
 have e:=Ge.need (w:=⟨[40]⟩) hi
 have y:=Ge.func e.hi
 have g:=Ge.need (w:=⟨[44]⟩) y.hi
 have q:=e.trans (y.trans g)
 have r:=J.ge q
 have k:=E _ r g.hi
 have j:=Ge.need (w:=⟨[44]⟩) k.hi
 have H:=k.trans j
 have C:=r.ge H
 have A:=E _ C j.hi
 have F:=Ge.need (w:=⟨[41]⟩) A.hi
 have D:=F.good h
 have K:=A.good D
 have B:=j.good K
 have I:=k.good B
 have n1:=UX (s:=s.need ⟨[40]⟩) (by rw[e.l];exact u) e.hi (g.good I)
 have w4:=z _ (by rw[q.l];exact u) r g.hi B
 have w6:=z _ (by rw[H.l,q.l];exact u) C j.hi D
 have e1:=e.le
 have e3:=g.le
 have e5:=j.le
 have e7:=F.le
 unfold QF
 dsimp only
 rw[UJ]
 simp only[List.map_cons,List.map_nil,List.sum_cons,List.sum_nil]
 omega
theorem c7m(D:U1 N ex)(C:ZX N ex){ln:Int}{s:PS}(z:Z9 s.l=true)(B:Yf N s)(hi:s.i<=s.l.length)(h:(Qp ex ln s).2.bad=false):zn (Qp ex ln s).1+260*s.i<=260*(Qp ex ln s).2.i:=by
 have e:=Ge.need (w:=⟨[40]⟩) hi
 have j:=Ge.func e.hi
 have g:=Ge.need (w:=⟨[44]⟩) j.hi
 have u:=e.trans (j.trans g)
 have y:=B.ge u
 have q:=D _ y g.hi
 have r:=Ge.need (w:=⟨[41]⟩) q.hi
 have k:=r.good h
 have A:=q.good k
 have n1:=UX (s:=s.need ⟨[40]⟩) (by rw[e.l];exact z) e.hi (g.good A)
 have w4:=C _ (by rw[u.l];exact z) y g.hi k
 have e1:=e.le
 have e3:=g.le
 have e5:=r.le
 unfold Qp
 dsimp only
 rw[UJ]
 simp only[List.map_cons,List.map_nil,List.sum_cons,List.sum_nil]
 omega
theorem c1z{ln:Int}{s:PS}(k:Z9 s.l=true)(hi:s.i<=s.l.length)(h:(VD ln s).2.bad=false):zn (VD ln s).1+260*s.i<=260*(VD ln s).2.i:=by
 have e:=Ge.need (w:=⟨[91]⟩) hi
 have j:=Ge.linear e.hi
 have q:=Ge.need (w:=⟨[93]⟩) j.hi
 have g:=(R6 h).2
 have w:=b9o (s:=s.need ⟨[91]⟩) (by rw[e.l];exact k) e.hi (q.good h)
 have e1:=e.le
 unfold VD at g ⊢
 dsimp only at g ⊢
 rw[UJ]
 show 260+0+260*s.i<=260*((s.need ⟨[91]⟩).linear.2.need ⟨[93]⟩).i
 omega
end
section
variable {N:Nat} {ex:PS->Tm×PS}
theorem d0y(j:U1 N ex)(z:ZX N ex){s:PS}(r:Z9 s.l=true)(y:Yf (N+1) s)(hi:s.i<=s.l.length)(h:(YC ex s).2.bad=false):zn (YC ex s).1+260*s.i<=260*(YC ex s).2.i:=by
 by_cases q1:(s.peek 0).k=3
 ·rw[show YC ex s=(.mk {WS 2 (s.peek 0).ln ⟨Ww⟩with num:=(s.num 2147483647).1} [],(s.num 2147483647).2)from if_pos q1]at h ⊢
  have n:=VA h
  rw[UJ]
  show 260+0+260*s.i<=260*(s.num 2147483647).2.i
  omega
 by_cases q2:(s.peek 0).k=1
 ·rw[show YC ex s=Yz ex s from(if_neg q1).trans (if_pos q2)]at h ⊢
  exact b3e j z r y q2 h
 unfold YC at h ⊢
 dsimp only at h ⊢
 rw[if_neg q1,if_neg q2]at h ⊢
 split at h
 ·rename_i q;rw[if_pos q,UJ]
  show 260+0+260*s.i<=260*(s.i+1)
  omega
 ·rename_i q;rw[if_neg q]
  split at h
  ·rename_i q;rw[if_pos q,UJ]
   show 260+0+260*s.i<=260*(s.i+1)
   omega
  ·rename_i q;rw[if_neg q]
   split at h
   ·rename_i q;rw[if_pos q]
    have e:=Ze q
    have g:=Ge.step e
    have C:=y.step e
    have u:=j _ C g.hi
    have A:=Ge.need (w:=⟨[41]⟩) u.hi
    have w:=z s.step r C g.hi (A.good h)
    have E:=A.le
    have D:s.step.i=s.i+1:=rfl
    show zn (ex s.step).1+260*s.i<=260*((ex s.step).2.need ⟨[41]⟩).i
    omega
   ·rename_i q;rw[if_neg q]
    split at h
    ·rename_i q;rw[if_pos q]
     have e:=Ze q
     have g:=Ge.step e
     have C:=y.step e
     have u:=Ge.listL (B:=Yf N) (fun s t h k=>h.ge k) (fun s h k=>j s h k) C g.hi
     have A:=Ge.need (w:=⟨[93]⟩) u.hi
     have w:=a5u j z (s:=s.step) r C g.hi (A.good h)
     have E:=A.le
     have D:s.step.i=s.i+1:=rfl
     rw[UJ]
     show 260+((listL ex s.step).1.map zn).sum+260*s.i<=260*((listL ex s.step).2.need ⟨[93]⟩).i
     omega
    ·rename_i q;rw[if_neg q]
     have D:s.step.i=s.i+1:=rfl
     split at h
     ·rename_i q;rw[if_pos q]
      have e:=Ze q
      have w:=d1k j z (ln:=(s.peek 0).ln) (s:=s.step) r (y.step e) (Ge.step e).hi h
      omega
     ·rename_i q;rw[if_neg q]
      split at h
      ·rename_i q;rw[if_pos q]
       have e:=Ze q
       have w:=c7m j z (ln:=(s.peek 0).ln) (s:=s.step) r (y.step e) (Ge.step e).hi h
       omega
      ·rename_i q;rw[if_neg q]
       split at h
       ·rename_i q;rw[if_pos q]
        have e:=Ze q
        have w:=c1z (ln:=(s.peek 0).ln) (s:=s.step) r (Ge.step e).hi h
        omega
       ·rename_i q;rw[if_neg q]
        split at h
        ·rename_i q;rw[if_pos q]
         have e:=Ze q
         have g:=Ge.step e
         have u:=Ge.arr g.hi
         have e2:=u.le
         have w:=d2x (s:=s.step) g.hi h
         rw[UJ]
         show 260+0+260*s.i<=260*s.step.arr.2.i
         omega
        ·cases h
theorem d9o(r:U1 N ex)(u:ZX N ex){un:PS->(Tm×Int)×PS}(hu:Dv N un)(y:ZU N un){s:PS}(j:Z9 s.l=true)(k:Yf (N+1) s)(hi:s.i<=s.l.length)(h:(Wt ex un s).2.bad=false):zn (Wt ex un s).1.1+260*s.i<=260*(Wt ex un s).2.i:=by
 have e1:s.step.i=s.i+1:=rfl
 unfold Wt at h ⊢
 dsimp only at h ⊢
 split at h
 ·rename_i q
  rw[if_pos q]
  have n:=VA h
  rw[UJ]
  show 260+0+260*s.i<=260*(s.step.num 2147483648).2.i
  omega
 ·rename_i q
  rw[if_neg q]
  split at h
  ·rename_i e
   rw[if_pos e]
   have g:s.i<s.l.length:=by
    simp only[Bool.or_eq_true]at e
    rcases e with e|e
    ·exact Ze e
    ·exact Ze e
   have w:=y s.step j (k.step g) (Ge.step g).hi h
   rw[UJ]
   simp only[List.map_cons,List.map_nil,List.sum_cons,List.sum_nil]
   show 260+(zn (un s.step).1.1+0)+260*s.i<=260*(un s.step).2.i
   omega
  ·rename_i e
   rw[if_neg e]
   exact d0y r u j k hi h
theorem TL{e:PS->(Tm×Int)×PS}{lev ln:Int}(z:lev≠0)(hu:Dv (N+1) e)(y:ZU (N+1) e): ∀ (n:Nat) {s:PS} {l:Tm},Z9 s.l=true->Yf (N+1) s->s.i<=s.l.length->(opLoop e lev ln n s l).2.bad=false->zn (opLoop e lev ln n s l).1.1+260*s.i<=zn l+260*(opLoop e lev ln n s l).2.i
 | 0,s,l,_,_,_,_=>Nat.le_refl _
 | n+1,s,l,hl,hf,hi,h=>by
  rw[opLoop]at h ⊢
  split at h
  ·rename_i q;rw[if_pos q];exact Nat.le_refl _
  ·rename_i q
   rw[if_neg q]
   split at h
   ·rename_i q;rw[if_pos q];exact Nat.le_refl _
   ·rename_i C
    rw[if_neg C]
    have r:=Q4 (s:=s) (by omega)
    have k:=Ge.step r
    have j:=hf.ge k
    have g:=hu _ j k.hi
    have e1:s.step.i=s.i+1:=rfl
    split at h
    ·rename_i u
     rw[if_pos u]
     have w:=y s.step hl j k.hi h
     rw[UJ]
     simp only[List.map_cons,List.map_nil,List.sum_cons,List.sum_nil]
     show 260+(zn l+(zn (e s.step).1.1+0))+260*s.i<=zn l+260*(e s.step).2.i
     omega
    ·rename_i u
     rw[if_neg u]
     have B:=Ge.opLoop (ln:=ln) z hu n (l:=.mk (WS 6 ln s.oper.1.1) [l,(e s.step).1.1]) (j.ge g) g.hi
     have w:=y s.step hl j k.hi (B.good h)
     have A:=TL z hu y n (l:=.mk (WS 6 ln s.oper.1.1) [l,(e s.step).1.1]) (by rw[g.l];exact hl) (j.ge g) g.hi h
     rw[UJ]at A
     simp only[List.map_cons,List.map_nil,List.sum_cons,List.sum_nil]at A
     omega
theorem PQ{un:PS->(Tm×Int)×PS}(hu:Dv (N+1) un)(j:ZU (N+1) un): ∀ d:Nat,d<=5->ZU (N+1) (Z6 un d)
 | 0,_=>j
 | d+1,hd=>fun s k g hi h=>by
  have i:=Ge.from hu d (by omega)
  have e:=i s g hi
  have q:=Ge.opLoop (ln:=(Z6 un d s).1.2) (lev:=5 - (d:Int)) (by omega) i (s.l.length+1) (l:=(Z6 un d s).1.1) (g.ge e) e.hi
  rw[Z6]at h ⊢
  have w1:=PQ hu j d (by omega) s k g hi (q.good h)
  have w2:=TL (lev:=5 - (d:Int)) (by omega) i (PQ hu j d (by omega)) (s.l.length+1) (l:=(Z6 un d s).1.1) (by rw[e.l];exact k) (g.ge e) e.hi h
  omega
theorem d8j(E:U1 N ex)(B:ZX N ex){un:PS->(Tm×Int)×PS}(hu:Dv (N+1) un)(M:ZU (N+1) un){s:PS}(k:Z9 s.l=true)(A:Yf (N+1) s)(hi:s.i<=s.l.length)(h:(BO ex un s).2.bad=false):zn (BO ex un s).1+260*s.i<=260*(BO ex un s).2.i:=by
 unfold BO at h ⊢
 dsimp only at h ⊢
 split at h
 ·rename_i q
  rw[if_pos q]
  have g:=Ze q
  have J:=Ge.step g
  have K:=A.step g
  have z:=Ge.name J.hi
  have e:=Ge.need (w:=⟨[61]⟩) z.hi
  have u:=z.trans e
  have y:=K.ge u
  have r:=E _ y e.hi
  have j:=Ge.need (w:=⟨[105,110]⟩) r.hi
  have F:=r.trans j
  have D:=y.ge F
  have I:=E _ D j.hi
  have L:=I.good h
  have C:=j.good L
  have H:=r.good C
  have n1:=Jg (s:=s.step) k (e.good H)
  have w4:=B _ (by rw[u.l];exact k) y e.hi C
  have w6:=B _ (by rw[F.l,u.l];exact k) D j.hi h
  have e1:s.step.i=s.i+1:=rfl
  have e3:=e.le
  have e5:=j.le
  rw[UJ]
  simp only[List.map_cons,List.map_nil,List.sum_cons,List.sum_nil]
  omega
 ·rename_i q
  rw[if_neg q]
  exact PQ hu M 5 (by omega) s k A hi h
end
theorem a3f: ∀ N,ZX N (Zw N)∧ZU N (Va N)
 | 0=>⟨fun t _ e=>by unfold Yf at e;omega,fun t _ e=>by unfold Yf at e;omega⟩
 | N+1=>by
  obtain⟨l,q⟩:=a3f N
  obtain⟨k,hu⟩:=Xq N
  have j:=(Xq (N+1)).2
  have g:ZU (N+1) (Va (N+1)):=fun t i e hi h=>by
   rw[XT]at h ⊢
   exact d9o k l hu q i e hi h
  exact⟨fun t i e hi h=>by
   rw[Xc]at h ⊢
   exact d8j k l j g i e hi h,g⟩
theorem c9c{s:PS}(hs:Zc s=true)(e:Z9 s.l=true)(h:s.expr.2.bad=false):Yc s.expr.1+s.i<=s.expr.2.i:=by
 have h1:=ZI hs
 have g:Yf 4001 s:=by unfold Yf;omega
 have w:=(a3f 4001).1 s e g h1.2 h
 have w:260*Yc s.expr.1+260*s.i<=260*s.expr.2.i:=w
 omega
end
section
def cmP(u S:List UInt8)(p:Nat):Cm:=⟨(ZR ⟨u⟩).a,(ZR ⟨S⟩).a,p,(ZR ⟨u⟩).a.length,u.length,S.length,id,fun _=>0,fun _=>False,True⟩
theorem c3b{P T Q:List Tok}{k:Nat}{d:Tok}(h:k<T.length):(P++(T++Q)).getD (P.length+k) d=T.getD k d:=by
 rw[List.getD_eq_getElem?_getD,List.getD_eq_getElem?_getD,List.getElem?_append_right (Nat.le_add_right _ _),Nat.add_sub_cancel_left,List.getElem?_append_left h]
theorem MV{P T Q:List Tok}{k:Nat}{d:Tok}:(P++(T++Q)).getD (P.length+(T.length+k)) d=Q.getD k d:=by
 rw[List.getD_eq_getElem?_getD,List.getD_eq_getElem?_getD,List.getElem?_append_right (Nat.le_add_right _ _),Nat.add_sub_cancel_left,List.getElem?_append_right (Nat.le_add_right _ _),Nat.add_sub_cancel_left]
theorem b1e{P X:List Tok}{k:Nat}{d:Tok}(h:k<P.length):(P++X).getD k d=P.getD k d:=by
 rw[List.getD_eq_getElem?_getD,List.getD_eq_getElem?_getD,List.getElem?_append_left h]
theorem d7m{u S:List UInt8}{P T Q:List Tok}(j:(ZR ⟨S⟩).a=P++(T++Q))(F:FL (ZR ⟨u⟩).a T)(hq : ∀ z:Int,Calm (Q.getD 0 ⟨0,⟨[]⟩,0,z⟩)):CmOK (cmP u S P.length):=by
 have len:=F.len
 refine⟨fun k g=> ?_,fun p _ _ h=>h,fun _=>⟨rfl,?_⟩,(Uq ⟨u⟩).1,(Uq ⟨S⟩).1,(Uq ⟨u⟩).2,(Uq ⟨S⟩).2⟩
 ·have g:k<(ZR ⟨u⟩).a.length:=g
  have e:k<T.length:=by omega
  have s:=F.get ⟨0,⟨[]⟩,0,0⟩ k g
  have l:(cmP u S P.length).a k=(ZR ⟨u⟩).a.getD k ⟨0,⟨[]⟩,0,0⟩:=by rw[Sy g];exact Sy g _
  have i:(cmP u S P.length).b ((cmP u S P.length).d+k)=T.getD k ⟨0,⟨[]⟩,0,0⟩:=by
   show(ZR ⟨S⟩).a.getD (P.length+k) _=_
   rw[j,c3b e,Sy e,Sy e]
  rw[l,i]
  exact⟨s.1,s.2.1,s.2.2,rfl⟩
 ·have i:(cmP u S P.length).b ((cmP u S P.length).d+(cmP u S P.length).n)=Q.getD 0 ⟨0,⟨[]⟩,0,S.length⟩:=by
   show(ZR ⟨S⟩).a.getD (P.length+(ZR ⟨u⟩).a.length) _=_
   rw[j,<- len]
   exact MV (k:=0)
  rw[i]
  exact hq _
structure Stt (B:List Tok) (z:Int) (k:Nat) (s:PS):Prop where
 l:s.l=B
 z:s.sz=z
 i:s.i=k
 b:s.bad=false
 g:s.big=false
theorem NH{u:List UInt8}(hc:(ZR ⟨u⟩).c=0)(g:(Zz ⟨u⟩).c=0):(Vf u).expr.2.bad=false∧(Vf u).expr.2.i=(ZR ⟨u⟩).a.length∧(Vf u).expr.2.big=false∧Xn (Vf u).expr.1=true∧(Zz ⟨u⟩).a=(Vf u).expr.1:=by
 have j:=Ge.exprS (AA u)
 have hi:=j.hi
 rw[F3 hc]at g ⊢
 by_cases h1:(Vf u).expr.2.endp.bad=true
 ·rw[if_pos h1]at g;exact absurd (show(6:Int)=0 from g) (by decide)
 rw[if_neg h1]at g ⊢
 have hn : ¬ (Vf u).expr.2.i<(Vf u).expr.2.l.length:=fun h=>h1 (by unfold PS.endp;rw[if_pos h];rfl)
 have e:(Vf u).expr.2.endp=(Vf u).expr.2:=by unfold PS.endp;rw[if_neg hn]
 rw[e]at h1 g ⊢
 by_cases h2:(Vf u).expr.2.big=true
 ·rw[if_pos h2]at g;exact absurd (show(3:Int)=0 from g) (by decide)
 rw[if_neg h2]at g ⊢
 by_cases h3:Xn (Vf u).expr.1=true
 ·rw[if_pos h3]
  have q:(Vf u).expr.2.l=(ZR ⟨u⟩).a:=j.l
  rw[q]at hi hn
  exact⟨by simpa using h1,by omega,by simpa using h2,h3,rfl⟩
 ·rw[if_neg h3]at g;exact absurd (show(3:Int)=0 from g) (by decide)
theorem Nq{u S:List UInt8}{P T Q:List Tok}(h:(ZR ⟨S⟩).a=P++(T++Q))(F:FL (ZR ⟨u⟩).a T)(hq : ∀ z:Int,Calm (Q.getD 0 ⟨0,⟨[]⟩,0,z⟩))(hc:(ZR ⟨u⟩).c=0)(D:(Zz ⟨u⟩).c=0){M:Nat}{t:PS}(ht:Stt (ZR ⟨S⟩).a S.length P.length t)(q:Yf M t):
  (Zw M t).1=(Zz ⟨u⟩).a∧Stt (ZR ⟨S⟩).a S.length (P.length+T.length) (Zw M t).2:=by
 obtain⟨C,j,E,x4,y⟩:=NH hc D
 have H:Yf 4001 (Vf u):=by have:=(ZI (AA u)).1;unfold Yf;omega
 have ok:=d7m h F hq
 have e:t.i<=t.l.length:=by rw[ht.i,ht.l,h,List.length_append];omega
 have A:Rl (cmP u S P.length) (Vf u) t:=⟨rfl,ht.l,rfl,ht.z,by rw[ht.i];rfl,rfl,ht.b,ht.g,Nat.zero_le _,e⟩
 have O:=(b6g ok 4001 M).1 (Vf u) t H q A
 have O:Y1 (cmP u S P.length) (VT (cmP u S P.length)) (Vf u).expr (Zw M t):=O
 obtain⟨r,v⟩:=O.1 C (Or.inr ⟨trivial,j⟩)
 have v:zT id (Vf u).expr.1=zT id (Zw M t).1:=v
 rw[c3t,c3t]at v
 refine⟨by rw[y,v],r.lb,r.zb,?_,r.tb,r.big.trans E⟩
 rw[r.i,j,F.len]
 rfl
section
variable {B:List Tok} {z:Int} {k:Nat} {s:PS}
theorem Stt.pk(h:Stt B z k s)(j:Nat):s.peek j=B.getD (k+j) ⟨0,⟨[]⟩,0,z⟩:=by unfold PS.peek;rw[h.l,h.z,h.i]
def Ub(B:List Tok)(z:Int)(k:Nat)(kd:Int)(w:List UInt8):Prop:=(B.getD k ⟨0,⟨[]⟩,0,z⟩).k=kd∧(B.getD k ⟨0,⟨[]⟩,0,z⟩).t=⟨w⟩
theorem Stt.kd(h:Stt B z k s){kd:Int}{w:List UInt8}(t:Ub B z k kd w):(s.peek 0).k=kd∧(s.peek 0).t=⟨w⟩:=by rw[h.pk 0];exact t
theorem Stt.yes(h:Stt B z k s){kd:Int}{w:List UInt8}(t:Ub B z k kd w)(e:kd=2∨kd=4):s.next ⟨w⟩=true:=by
 obtain⟨h1,h2⟩:=h.kd t
 unfold PS.next
 rw[h1,h2]
 rcases e with rfl|rfl <;> simp
theorem Stt.no(h:Stt B z k s){kd:Int}{w w':List UInt8}(t:Ub B z k kd w)(g:w≠w'):s.next ⟨w'⟩=false:=by
 obtain⟨h1,h2⟩:=h.kd t
 unfold PS.next
 rw[h2,decide_eq_false (fun e=>g (congrArg Str.s e)),Bool.and_false]
theorem Stt.none(h:Stt B z k s){kd:Int}{w:List UInt8}(t:Ub B z k kd w)(h2:kd≠2)(e:kd≠4)(w':Str):s.next w'=false:=by
 obtain⟨h1,_⟩:=h.kd t
 unfold PS.next
 rw[h1,decide_eq_false h2,decide_eq_false e]
 rfl
theorem Stt.step(h:Stt B z k s):Stt B z (k+1) s.step:=⟨h.l,h.z,by show s.i+1=k+1;rw[h.i],h.b,h.g⟩
theorem Stt.need(h:Stt B z k s){kd:Int}{w:List UInt8}(t:Ub B z k kd w)(e:kd=2∨kd=4):Stt B z (k+1) (s.need ⟨w⟩):=by
 unfold PS.need
 rw[if_pos (h.yes t e)]
 exact h.step
theorem Stt.nb(h:Stt B z k s): ¬ s.bad=true:=by rw[h.b];decide
def Ck(B:List Tok)(z:Int)(k:Nat):Prop:=(B.getD k ⟨0,⟨[]⟩,0,z⟩).k=4->(Wy (B.getD k ⟨0,⟨[]⟩,0,z⟩).t false).b=0
theorem Stt.noop(h:Stt B z k s)(n:Ck B z k):s.oper.1.2=0:=by
 unfold PS.oper
 rw[h.pk 0]
 split
 ·exact n ‹_›
 ·rfl
theorem RQ{g:PS->(Tm×Int)×PS}{lev ln:Int}(e:lev≠0){n:Nat}{l:Tm}(h:Stt B z k s)(o:Ck B z k):opLoop g lev ln n s l=((l,ln),s):=by
 cases n with
 | zero=>rfl
 | succ n=>rw[opLoop,if_neg h.nb,if_pos (by rw[h.noop o];exact e.symm)]
theorem Qt{un:PS->(Tm×Int)×PS}{g:PS}{x:Tm}{ln:Int}(h:Stt B z k s)(o:Ck B z k){d0:Nat}(e:Z6 un d0 g=((x,ln),s)): ∀ d:Nat,d0+d<=5->Z6 un (d0+d) g=((x,ln),s)
 | 0,_=>e
 | d+1,hd=>by
  rw[<- Nat.add_assoc,Z6,Qt h o e d (by omega)]
  exact RQ (by omega) h o
end
end
section
def Qi(ln v:Int):Tm:=.mk {WS 2 ln ⟨Ww⟩with num:=v} []
section
variable {B:List Tok} {z:Int} {k:Nat} {s:PS} {ex:PS->Tm×PS} {un:PS->(Tm×Int)×PS}
theorem Stt.num(h:Stt B z k s){w:List UInt8}{v m:Int}(t:Ub B z k 3 w)(e:X5 ⟨w⟩=(v,true))(hm:v<=m):s.num m=(v,s.step):=by
 obtain⟨h1,h2⟩:=h.kd t
 unfold PS.num
 rw[h1,h2,e,if_pos ⟨rfl,rfl,hm⟩]
theorem La(h:Stt B z k s){w:List UInt8}{v:Int}(t:Ub B z k 3 w)(e:X5 ⟨w⟩=(v,true))(hm:v<=2147483647):Wt ex un s=((Qi (s.peek 0).ln v,(s.peek 0).ln),s.step):=by
 unfold Wt
 dsimp only
 rw[h.none t (by decide) (by decide),h.none t (by decide) (by decide),Bool.false_and,Bool.or_false,if_neg (by decide),if_neg (by decide)]
 unfold YC
 dsimp only
 rw[if_pos (h.kd t).1,h.num t e hm]
 rfl
theorem LA(h:Stt B z k s)(t:Ub B z k 4 [40]):Wt ex un s=(((ex s.step).1,(s.peek 0).ln),(ex s.step).2.need ⟨[41]⟩):=by
 unfold Wt
 dsimp only
 rw[h.no t (w':=[45]) (by decide),h.no t (w':=[33]) (by decide),Bool.false_and,Bool.or_false,if_neg (by decide),if_neg (by decide)]
 unfold YC
 dsimp only
 rw[(h.kd t).1,if_neg (by decide),if_neg (by decide),h.no t (w':=[116,114,117,101]) (by decide),h.no t (w':=[102,97,108,115,101]) (by decide),h.yes t (Or.inr rfl),if_neg (by decide),if_neg (by decide),if_pos rfl]
theorem OI{N:Nat}(h:Stt B z k s){w:List UInt8}{v:Int}(t:Ub B z k 3 w)(g:X5 ⟨w⟩=(v,true))(hm:v<=2147483647)(o:Ck B z (k+1)):Zw (N+1) s=(Qi (s.peek 0).ln v,s.step):=by
 have e:Z6 (Va (N+1)) 0 s=((Qi (s.peek 0).ln v,(s.peek 0).ln),s.step):=by
  show Va (N+1) s=_
  rw[XT];exact La h t g hm
 rw[Xc]
 unfold BO
 rw[h.none t (by decide) (by decide),if_neg (by decide),Qt h.step o e 5 (by omega)]
theorem d8e{N:Nat}{g:Nat}(h:Stt B z k s)(t:Ub B z k 4 [40])(hi:Stt B z g (Zw N s.step).2)(i:Ub B z g 4 [41])(o:Ck B z (g+1)):(Zw (N+1) s).1=(Zw N s.step).1∧Stt B z (g+1) (Zw (N+1) s).2:=by
 have hn:=hi.need i (Or.inr rfl)
 have e:Z6 (Va (N+1)) 0 s=(((Zw N s.step).1,(s.peek 0).ln),(Zw N s.step).2.need ⟨[41]⟩):=by
  show Va (N+1) s=_
  rw[XT];exact LA h t
 rw[Xc]
 unfold BO
 rw[h.no t (w':=[108,101,116]) (by decide),if_neg (by decide),Qt hn o e 5 (by omega)]
 exact⟨rfl,hn⟩
theorem d7q{N:Nat}{e:Nat}{w:List UInt8}{v:Int}(h:Stt B z k s)(t:Ub B z k 3 w)(D:X5 ⟨w⟩=(v,true))(hm:v<=2147483647)(C:Ub B z (k+1) 4 [42])(j:Ub B z (k+2) 4 [40])(hi:Stt B z e (Zw N s.step.step.step).2)(g:Ub B z e 4 [41])(o:Ck B z (e+1)):
  ∃ ln,(Zw (N+1) s).1 = .mk (WS 6 ln (Wy ⟨[42]⟩ false).a) [Qi (s.peek 0).ln v,(Zw N s.step.step.step).1]∧ln=(s.peek 0).ln∧Stt B z (e+1) (Zw (N+1) s).2:=by
 have hn:=hi.need g (Or.inr rfl)
 have i:Z6 (Va (N+1)) 0 s=((Qi (s.peek 0).ln v,(s.peek 0).ln),s.step):=by
  show Va (N+1) s=_
  rw[XT];exact La h t D hm
 have A:Z6 (Va (N+1)) 0 s.step.step=(((Zw N s.step.step.step).1,(s.step.step.peek 0).ln),(Zw N s.step.step.step).2.need ⟨[41]⟩):=by
  show Va (N+1) s.step.step=_
  rw[XT];exact LA h.step.step j
 have y:s.step.oper.1=((Wy ⟨[42]⟩ false).a,(Wy ⟨[42]⟩ false).b):=by
  obtain⟨r,u⟩:=h.step.kd C
  unfold PS.oper
  rw[r,u];rfl
 have q:Z6 (Va (N+1)) 1 s=((.mk (WS 6 (s.peek 0).ln (Wy ⟨[42]⟩ false).a) [Qi (s.peek 0).ln v,(Zw N s.step.step.step).1],(s.peek 0).ln),(Zw N s.step.step.step).2.need ⟨[41]⟩):=by
  rw[Z6,i]
  show opLoop (Z6 (Va (N+1)) 0) (5 - ((0:Nat):Int)) (s.peek 0).ln (s.l.length+1) s.step (Qi (s.peek 0).ln v)=_
  rw[opLoop,if_neg h.step.nb,y,if_neg (show ¬ (Wy ⟨[42]⟩ false).b≠5 - ((0:Nat):Int) by decide),if_neg (by decide),A]
  exact RQ (by decide) hn o
 rw[Xc]
 unfold BO
 rw[h.none t (by decide) (by decide),if_neg (by decide),Qt (d0:=1) hn o q 4 (by omega)]
 exact⟨_,rfl,rfl,hn⟩
theorem e0v{N:Nat}{w:List UInt8}{v:Int}(h:Stt B z k s)(u:Ub B z k 2 [108,101,116])(F:Ub B z (k+1) 1 [120])(A:Ub B z (k+2) 4 [61])(y:Ub B z (k+3) 3 w)(H:X5 ⟨w⟩=(v,true))(hm:v<=2147483647)(r:Ub B z (k+4) 2 [105,110]):
  ∃ j ln l,Stt B z (k+5) j∧Zw (N+2) s=(.mk (WS 5 ln ⟨[120]⟩) [Qi l v,(Zw (N+1) j).1],(Zw (N+1) j).2)∧ln=(s.peek 0).ln∧l=(s.step.step.step.peek 0).ln:=by
 have h1:=h.step
 have en:s.step.name=(⟨[120]⟩,s.step.step):=by
  obtain⟨D,E⟩:=h1.kd F
  unfold PS.name
  rw[D,E,if_pos rfl]
 have h2:=h1.step
 have g:s.step.step.need ⟨[61]⟩=s.step.step.step:=by unfold PS.need;rw[if_pos (h2.yes A (Or.inr rfl))]
 have h3:=h2.step
 have I:Ck B z (k+4):=fun e=>absurd (r.1.symm.trans e) (by decide)
 have C:=OI (N:=N) h3 y H hm I
 have q:=h3.step
 have i:s.step.step.step.step.need ⟨[105,110]⟩=s.step.step.step.step.step:=by unfold PS.need;rw[if_pos (q.yes r (Or.inl rfl))]
 refine⟨s.step.step.step.step.step,_,_,q.step,?_,rfl,rfl⟩
 rw[Xc]
 unfold BO
 dsimp only
 rw[if_pos (h.yes u (Or.inl rfl)),en]
 dsimp only
 rw[g,C]
 dsimp only
 rw[i]
theorem c7x{N:Nat}{i:Nat}(hB:4<=s.l.length)(h:Stt B z k s)(q:Ub B z k 1 [102])(j:Ub B z (k+1) 4 [40])(H:Ub B z (k+2) 3 [50])(P:X5 ⟨[50]⟩=(2,true))(F:Ub B z (k+3) 4 [44])(hi:Stt B z i (Zw (N+1) s.step.step.step.step).2)(X:Ub B z i 4 [44])(O:Ub B z (i+1) 3 [51])(S:X5 ⟨[51]⟩=(3,true))(u:Ub B z (i+2) 4 [41])(o:Ck B z (i+3)):
  ∃ ln a b,(Zw (N+2) s).1 = .mk {He with kind:=6,line:=ln,name:=⟨[102]⟩,num:=0,sizes:=[],ranks:=[]} [Qi a 2,(Zw (N+1) s.step.step.step.step).1,Qi b 3]∧ln=(s.peek 0).ln∧a=(s.step.step.peek 0).ln∧b=((Zw (N+1) s.step.step.step.step).2.step.peek 0).ln∧Stt B z (i+3) (Zw (N+2) s).2:=by
 have h1:=h.step
 have h2:=h1.step
 have h3:=h2.step
 have en:s.name=(⟨[102]⟩,s.step):=by
  obtain⟨K,L⟩:=h.kd q
  unfold PS.name
  rw[K,L,if_pos rfl]
 have V:s.func=(⟨[102]⟩,s.step):=by
  unfold PS.func
  rw[en,if_neg (by rw[h1.no j (w':=[46]) (by decide)];decide)]
 have I:s.step.plain ⟨[102]⟩=false:=by
  unfold PS.plain
  rw[h1.yes j (Or.inr rfl)]
  simp
 have es:s.step.sizesN=([],s.step):=by unfold PS.sizesN;rw[if_neg (by rw[h1.no j (w':=[91]) (by decide)];decide)]
 have y:s.step.frameN=(0,s.step):=by unfold PS.frameN;rw[if_neg (by rw[h1.no j (w':=[123]) (by decide)];decide)]
 have U:s.step.ranksN=([],s.step):=by unfold PS.ranksN;rw[if_neg (by rw[h1.no j (w':=[64]) (by decide)];decide)]
 have D:s.step.need ⟨[40]⟩=s.step.step:=by unfold PS.need;rw[if_pos (h1.yes j (Or.inr rfl))]
 have r : ∀ {k:Nat},Ub B z k 4 [44]->Ck B z k:=fun t e=>by rw[t.2];decide
 have C : ∀ {k:Nat},Ub B z k 4 [41]->Ck B z k:=fun t e=>by rw[t.2];decide
 have W:=OI (N:=N) h2 H P (by decide) (r F)
 have E:=hi.step
 have Q:=OI (N:=N) E O S (by decide) (C u)
 have A:=E.step
 have M:listL (Zw (N+1)) s.step.step=([Qi (s.step.step.peek 0).ln 2,(Zw (N+1) s.step.step.step.step).1,Qi ((Zw (N+1) s.step.step.step.step).2.step.peek 0).ln 3],(Zw (N+1) s.step.step.step.step).2.step.step):=by
  unfold listL
  rw[W]
  obtain⟨n,hn⟩ : ∃ n,s.step.step.l.length+1=n+3:=⟨s.l.length - 2,by show s.l.length+1=_;omega⟩
  rw[hn,moreL,if_neg h3.nb,if_pos (h3.yes F (Or.inr rfl)),moreL,if_neg hi.nb,if_pos (hi.yes X (Or.inr rfl)),Q,moreL,if_neg A.nb,if_neg (by rw[A.no u (w':=[44]) (by decide)];decide)]
  rfl
 have g:=A.need u (Or.inr rfl)
 have J:YO (Zw (N+1)) s.step=([Qi (s.step.step.peek 0).ln 2,(Zw (N+1) s.step.step.step.step).1,Qi ((Zw (N+1) s.step.step.step.step).2.step.peek 0).ln 3],(Zw (N+1) s.step.step.step.step).2.step.step.need ⟨[41]⟩):=by
  unfold YO
  rw[D,if_neg h2.nb,if_neg (by rw[h2.none H (by decide) (by decide)];decide),M]
 have T:Z6 (Va (N+2)) 0 s=((.mk {He with kind:=6,line:=(s.peek 0).ln,name:=⟨[102]⟩,num:=0,sizes:=[],ranks:=[]} [Qi (s.step.step.peek 0).ln 2,(Zw (N+1) s.step.step.step.step).1,Qi ((Zw (N+1) s.step.step.step.step).2.step.peek 0).ln 3],(s.peek 0).ln),(Zw (N+1) s.step.step.step.step).2.step.step.need ⟨[41]⟩):=by
  show Va (N+2) s=_
  rw[XT]
  unfold Wt
  dsimp only
  rw[h.none q (by decide) (by decide),h.none q (by decide) (by decide),Bool.false_and,Bool.or_false,if_neg (by decide),if_neg (by decide)]
  unfold YC
  dsimp only
  rw[(h.kd q).1,if_neg (by decide),if_pos rfl]
  unfold Yz
  rw[V]
  dsimp only
  rw[I,if_neg (by decide)]
  unfold XH
  rw[es]
  dsimp only
  rw[y]
  dsimp only
  rw[U]
  dsimp only
  rw[J]
 rw[Xc]
 unfold BO
 rw[h.none q (by decide) (by decide),if_neg (by decide),Qt g o T 5 (by omega)]
 exact⟨_,_,_,rfl,rfl,rfl,rfl,g⟩
end
end
section
mutual
theorem Fv: ∀ (l m:Nat) (t:Tm),(Z7 l t).map (·.1)=(Z7 m t).map (·.1)
 | l,m,.mk n ks=>by rw[Z7,Z7,List.map_cons,List.map_cons,Ti (l+1) (m+1) ks]
theorem Ti: ∀ (l m:Nat) (ks:List Tm),(Z5 l ks).map (·.1)=(Z5 m ks).map (·.1)
 | l,m,[]=>rfl
 | l,m,k::ks=>by rw[Z5,Z5,List.map_append,List.map_append,Fv l m k,Ti l m ks]
end
theorem DD(l:Nat): ∀ ks:List Tm,(∀ k∈ks,(a9u k).all G8=true)->((Z5 l ks).map (·.1)).all G8=true
 | [],_=>rfl
 | k::ks,h=>by
  rw[Z5,List.map_append,List.all_append,Fv l 1 k,DD l ks (fun x hx=>h x (by simp[hx]))]
  have:=h k (by simp)
  unfold a9u at this
  rw[this];rfl
theorem Jb{n:Nd}{ks:List Tm}(hs:ZZ ks+1<=400)(hd:Y8 ks+1<=40)(hn:KH n ks.length=true)(e : ∀ k∈ks,Xn k=true):Xn (.mk n ks)=true:=by
 unfold Xn
 rw[Yc,YB,decide_eq_true hs,decide_eq_true hd]
 have hp:a9u (.mk n ks) = .mk n ks::(Z5 2 ks).map (·.1):=by unfold a9u;rw[Z7,List.map_cons]
 rw[hp,List.all_cons,DD 2 ks (fun k h=>by
  have:=e k h
  unfold Xn at this
  simp only[Bool.and_eq_true]at this
  exact this.2)]
 show(true&&true&&(KH n ks.length&&true))=true
 rw[hn];rfl
theorem NT{l v:Int}(e:0<=l)(h1:l<=10000)(h:DI (({WS 2 0 ⟨Ww⟩with num:=v}:Nd)) 0=true):Xn (Qi l v)=true:=by
 refine Jb (by decide) (by decide) ?_ (fun k g=>by cases g)
 show(decide (0<=l)&&decide (l<=10000)&&DI _ 0)=true
 rw[decide_eq_true e,decide_eq_true h1]
 exact h
theorem Hr{S:List UInt8}{z:Int}(hc:(ZR ⟨S⟩).c=0)(h:Stt (ZR ⟨S⟩).a z (ZR ⟨S⟩).a.length (Vf S).expr.2)(v:Xn (Vf S).expr.1=true):Zz ⟨S⟩=⟨(Vf S).expr.1,0,0⟩:=by
 have e:(Vf S).expr.2.endp=(Vf S).expr.2:=by unfold PS.endp;rw[if_neg (by rw[h.i,h.l];omega)]
 rw[F3 hc,e,if_neg (by rw[h.b];decide),if_neg (by rw[h.g];decide),if_pos v]
theorem PD{y:Tok}{w:List UInt8}(ht:y.t=⟨w⟩)(h:w ∉ [[46],[91],[123],[64],[40]])(ho:(Wy ⟨w⟩ false).b=0):Calm y:=by
 have no : ∀ v:List UInt8,v∈[[46],[91],[123],[64],[40]]->M9 y v=false:=fun v g=>by
  unfold M9
  rw[ht,decide_eq_false (p:=(⟨w⟩:Str)=⟨v⟩) (fun e=>h (by rw[show w=v from congrArg Str.s e];exact g)),Bool.and_false]
 exact⟨no _ (by simp),no _ (by simp),no _ (by simp),no _ (by simp),no _ (by simp),fun _=>by rw[ht];exact ho⟩
theorem FN{Q:List Tok}(F:FT [SF 4 [41] 0] Q)(z:Int):Calm (Q.getD 0 ⟨0,⟨[]⟩,0,z⟩):=by
 cases F with
 | cons h _=>exact PD h.2 (by decide) (by decide)
theorem c2f{Q R:List Tok}(F:FT (SF 4 [44] 0::R) Q)(z:Int):Calm (Q.getD 0 ⟨0,⟨[]⟩,0,z⟩):=by
 cases F with
 | cons h _=>exact PD h.2 (by decide) (by decide)
theorem c1d{Q:List Tok}(F:FT [] Q)(z:Int):Calm (Q.getD 0 ⟨0,⟨[]⟩,0,z⟩):=by
 cases F
 exact PD (w:=[]) rfl (by decide) (by decide)
structure Wrap (u S:List UInt8) (P Q:List Tok):Prop where
 c:(ZR ⟨S⟩).c=0
 ex : ∃ T Q',(ZR ⟨S⟩).a=P++(T++Q')∧FL (ZR ⟨u⟩).a T∧FT Q Q'
theorem CE{pre post:List UInt8}{P Q:List Tok}(K:Ctx0 pre post P Q){u:List UInt8}(hu:u.length<=200)(hc:(ZR ⟨u⟩).c=0):Wrap u (pre++(u++10::post)) P Q:=by
 obtain⟨T,Q',e,F,G⟩:=c6b K hu hc
 exact⟨by rw[e],T,Q',by rw[e],F,G⟩
theorem NR(S:List UInt8):Stt (ZR ⟨S⟩).a S.length 0 (Vf S):=⟨rfl,rfl,rfl,rfl,rfl⟩
theorem Wv{P X:List Tok}{z:Int}{k:Nat}{kd:Int}{w:List UInt8}(e:k<P.length)(h:(P.getD k ⟨0,⟨[]⟩,0,z⟩).k=kd∧(P.getD k ⟨0,⟨[]⟩,0,z⟩).t=⟨w⟩):Ub (P++X) z k kd w:=by
 unfold Ub
 rw[b1e e]
 exact h
theorem Gb{P T Q R:List Tok}{z:Int}{k:Nat}{kd:Int}{w:List UInt8}(F:FT R Q)(e:k<R.length)(h:(R.getD k ⟨0,⟨[]⟩,0,z⟩).k=kd∧(R.getD k ⟨0,⟨[]⟩,0,z⟩).t=⟨w⟩):Ub (P++(T++Q)) z (P.length+(T.length+k)) kd w:=by
 unfold Ub
 rw[MV]
 have s:=F.get ⟨0,⟨[]⟩,0,z⟩ k e
 exact⟨s.1.trans h.1,s.2.trans h.2⟩
theorem A7{B:List Tok}{z:Int}{k:Nat}(h:B.length<=k):Ck B z k:=by
 unfold Ck
 rw[c9y h]
 intro e
 exact absurd (show(0:Int)=4 from e) (by decide)
theorem PX{S:List UInt8}{k M:Nat}{s:PS}(h:Stt (ZR ⟨S⟩).a S.length k s)(hM:4000<M+k)(hk:k<=(ZR ⟨S⟩).a.length):Yf M s:=by
 have:=(Uq ⟨S⟩).2
 unfold Yf
 rw[h.l,h.i]
 omega
theorem K6{S:List UInt8}{k:Nat}{s:PS}(hS:S.length<=9000)(h:Stt (ZR ⟨S⟩).a S.length k s)(e:k<(ZR ⟨S⟩).a.length):0<=(s.peek 0).ln∧(s.peek 0).ln<=10000:=by
 rw[h.pk 0,Nat.add_zero,Sy e]
 have a:=(c5c ⟨S⟩).2 _ (List.getElem_mem e)
 have b:=(Ac S).2.2 _ (List.getElem_mem e)
 omega
section
variable {u:List UInt8} (hu:u.length<=200) (hc:(ZR ⟨u⟩).c=0) (hx:(Zz ⟨u⟩).c=0)
include hu hc hx
theorem a1w:Yc (Zz ⟨u⟩).a<=200:=by
 obtain⟨e,x2,x3,x4,g⟩:=NH hc hx
 have h:=c9c (AA u) (Uq ⟨u⟩).1 e
 have h2:=Ac u
 have h3:=(OP (lead:=[]) (trail:=[]) _ h2.1).2
 have h4:=h2.2.1
 rw[g]
 omega
theorem Pk:Xn (Zz ⟨u⟩).a=true:=by
 obtain⟨x1,x2,x3,g,e⟩:=NH hc hx
 rw[e];exact g
theorem e1z:Zz ⟨[40]++(u++10::[41])⟩=⟨(Zz ⟨u⟩).a,0,0⟩:=by
 obtain⟨c,T,Q,e,F,G⟩:=CE e3w hu hc
 generalize [40]++(u++10::[41])=S at *
 have lq:=G.len
 have h:=NR S
 have s:Ub (ZR ⟨S⟩).a S.length 0 4 [40]:=by rw[e];exact Wv (by decide) ⟨rfl,rfl⟩
 have j:(ZR ⟨S⟩).a.length=1+(T.length+1):=by rw[e,List.length_append,List.length_append,lq];rfl
 obtain⟨q,l⟩:=Nq e F (FN G) hc hx (M:=4000) h.step (PX h.step (by omega) (by omega))
 have r:Ub (ZR ⟨S⟩).a S.length (1+T.length) 4 [41]:=by rw[e];exact Gb (k:=0) G (by decide) ⟨rfl,rfl⟩
 obtain⟨g,i⟩:=d8e (N:=4000) h s l r (A7 (by rw[j];show 1+(T.length+1)<=1+T.length+1;omega))
 have g:(Vf S).expr.1=(Zz ⟨u⟩).a:=g.trans q
 have i:Stt (ZR ⟨S⟩).a S.length (ZR ⟨S⟩).a.length (Vf S).expr.2:=by rw[j];exact i
 rw[Hr c i (by rw[g];exact Pk hu hc hx),g]
theorem e4k(hd:YB (Zz ⟨u⟩).a<=30): ∃ n l,Zz ⟨[49,32,42,32,40]++(u++10::[41])⟩=⟨.mk n [l,(Zz ⟨u⟩).a],0,0⟩:=by
 have A:([49,32,42,32,40]++(u++10::[41])).length<=9000:=by simp;omega
 obtain⟨c,T,Q,e,F,G⟩:=CE e2m hu hc
 generalize [49,32,42,32,40]++(u++10::[41])=S at *
 have lq:=G.len
 have j:=NR S
 have r:(ZR ⟨S⟩).a.length=3+(T.length+1):=by rw[e,List.length_append,List.length_append,lq];rfl
 have B:Ub (ZR ⟨S⟩).a S.length 0 3 [49]:=by rw[e];exact Wv (by decide) ⟨rfl,rfl⟩
 have C:Ub (ZR ⟨S⟩).a S.length 1 4 [42]:=by rw[e];exact Wv (by decide) ⟨rfl,rfl⟩
 have s:Ub (ZR ⟨S⟩).a S.length 2 4 [40]:=by rw[e];exact Wv (by decide) ⟨rfl,rfl⟩
 obtain⟨z,y⟩:=Nq e F (FN G) hc hx (M:=4000) j.step.step.step (PX j.step.step.step (by omega) (by omega))
 have D:Ub (ZR ⟨S⟩).a S.length (3+T.length) 4 [41]:=by rw[e];exact Gb (k:=0) G (by decide) ⟨rfl,rfl⟩
 obtain⟨ln,h,E,q⟩:=d7q (N:=4000) j B (v:=1) (by kernel_rfl) (by decide) C s y D (A7 (by rw[r];show 3+(T.length+1)<=3+T.length+1;omega))
 rw[z]at h
 have h:(Vf S).expr.1 = .mk (WS 6 ln (Wy ⟨[42]⟩ false).a) [Qi ((Vf S).peek 0).ln 1,(Zz ⟨u⟩).a]:=h
 have q:Stt (ZR ⟨S⟩).a S.length (ZR ⟨S⟩).a.length (Vf S).expr.2:=by rw[r];exact q
 have i:=K6 A j (by omega)
 have sz:=a1w hu hc hx
 refine⟨WS 6 ln (Wy ⟨[42]⟩ false).a,Qi ((Vf S).peek 0).ln 1,?_⟩
 rw[Hr c q ?_,h]
 rw[h]
 refine Jb ?_ ?_ ?_ ?_
 ·show Yc (Qi _ 1)+(Yc (Zz ⟨u⟩).a+0)+1<=400
  have:Yc (Qi ((Vf S).peek 0).ln 1)=1:=rfl
  omega
 ·show max (YB (Qi _ 1)) (max (YB (Zz ⟨u⟩).a) 0)+1<=40
  have:YB (Qi ((Vf S).peek 0).ln 1)=1:=rfl
  omega
 ·show(decide (0<=ln)&&decide (ln<=10000)&&DI _ 2)=true
  rw[E,decide_eq_true i.1,decide_eq_true i.2]
  kernel_rfl
 ·intro x g
  simp only[List.mem_cons,List.not_mem_nil,or_false]at g
  rcases g with rfl|rfl
  ·exact NT i.1 i.2 (by kernel_rfl)
  ·exact Pk hu hc hx
theorem e2z(hd:YB (Zz ⟨u⟩).a<=30): ∃ n l,Zz ⟨[108,101,116,32,120,32,61,32,49,32,105,110,32]++(u++10::[])⟩=⟨.mk n [l,(Zz ⟨u⟩).a],0,0⟩:=by
 have y:([108,101,116,32,120,32,61,32,49,32,105,110,32]++(u++10::[])).length<=9000:=by simp;omega
 obtain⟨c,T,Q,e,F,G⟩:=CE e5y hu hc
 generalize [108,101,116,32,120,32,61,32,49,32,105,110,32]++(u++10::[])=S at *
 have lq:=G.len
 have j:=NR S
 have B:(ZR ⟨S⟩).a.length=5+T.length:=by rw[e,List.length_append,List.length_append,lq];rfl
 have I:Ub (ZR ⟨S⟩).a S.length 0 2 [108,101,116]:=by rw[e];exact Wv (by decide) ⟨rfl,rfl⟩
 have J:Ub (ZR ⟨S⟩).a S.length 1 1 [120]:=by rw[e];exact Wv (by decide) ⟨rfl,rfl⟩
 have C:Ub (ZR ⟨S⟩).a S.length 2 4 [61]:=by rw[e];exact Wv (by decide) ⟨rfl,rfl⟩
 have L:Ub (ZR ⟨S⟩).a S.length 3 3 [49]:=by rw[e];exact Wv (by decide) ⟨rfl,rfl⟩
 have K:Ub (ZR ⟨S⟩).a S.length 4 2 [105,110]:=by rw[e];exact Wv (by decide) ⟨rfl,rfl⟩
 obtain⟨s,ln,g,r,i,O,k⟩:=e0v (N:=3999) j I J C L (v:=1) (by kernel_rfl) (by decide) K
 obtain⟨H,E⟩:=Nq e F (c1d G) hc hx (M:=4000) r (PX r (by omega) (by omega))
 have i:(Vf S).expr=(.mk (WS 5 ln ⟨[120]⟩) [Qi g 1,(Zw 4000 s).1],(Zw 4000 s).2):=i
 have D:Stt (ZR ⟨S⟩).a S.length (ZR ⟨S⟩).a.length (Vf S).expr.2:=by rw[B,i];exact E
 have z:(Vf S).expr.1 = .mk (WS 5 ln ⟨[120]⟩) [Qi g 1,(Zz ⟨u⟩).a]:=by rw[i,H]
 have q:=K6 y j (by omega)
 have A:=K6 y j.step.step.step (by omega)
 have sz:=a1w hu hc hx
 refine⟨WS 5 ln ⟨[120]⟩,Qi g 1,?_⟩
 rw[Hr c D ?_,z]
 rw[z]
 refine Jb ?_ ?_ ?_ ?_
 ·show Yc (Qi g 1)+(Yc (Zz ⟨u⟩).a+0)+1<=400
  have:Yc (Qi g 1)=1:=rfl
  omega
 ·show max (YB (Qi g 1)) (max (YB (Zz ⟨u⟩).a) 0)+1<=40
  have:YB (Qi g 1)=1:=rfl
  omega
 ·show(decide (0<=ln)&&decide (ln<=10000)&&DI _ 2)=true
  rw[O,decide_eq_true q.1,decide_eq_true q.2]
  kernel_rfl
 ·intro x h
  simp only[List.mem_cons,List.not_mem_nil,or_false]at h
  rcases h with rfl|rfl
  ·rw[k];exact NT A.1 A.2 (by kernel_rfl)
  ·exact Pk hu hc hx
theorem e1q(hd:YB (Zz ⟨u⟩).a<=30): ∃ n l r,Zz ⟨[102,40,50,44,32]++(u++10::[44,32,51,41])⟩=⟨.mk n [l,(Zz ⟨u⟩).a,r],0,0⟩:=by
 have s:([102,40,50,44,32]++(u++10::[44,32,51,41])).length<=9000:=by simp;omega
 obtain⟨c,T,Q,e,F,G⟩:=CE e4h hu hc
 generalize [102,40,50,44,32]++(u++10::[44,32,51,41])=S at *
 have lq:=G.len
 have g:=NR S
 have z:(ZR ⟨S⟩).a.length=4+(T.length+3):=by rw[e,List.length_append,List.length_append,lq];rfl
 have H:Ub (ZR ⟨S⟩).a S.length 0 1 [102]:=by rw[e];exact Wv (by decide) ⟨rfl,rfl⟩
 have J:Ub (ZR ⟨S⟩).a S.length 1 4 [40]:=by rw[e];exact Wv (by decide) ⟨rfl,rfl⟩
 have B:Ub (ZR ⟨S⟩).a S.length 2 3 [50]:=by rw[e];exact Wv (by decide) ⟨rfl,rfl⟩
 have L:Ub (ZR ⟨S⟩).a S.length 3 4 [44]:=by rw[e];exact Wv (by decide) ⟨rfl,rfl⟩
 obtain⟨q,A⟩:=Nq e F (c2f G) hc hx (M:=4000) g.step.step.step.step (PX g.step.step.step.step (by omega) (by omega))
 have K:Ub (ZR ⟨S⟩).a S.length (4+T.length) 4 [44]:=by rw[e];exact Gb (k:=0) G (by decide) ⟨rfl,rfl⟩
 have D:Ub (ZR ⟨S⟩).a S.length (4+T.length+1) 3 [51]:=by rw[e];exact Gb (k:=1) G (by decide) ⟨rfl,rfl⟩
 have I:Ub (ZR ⟨S⟩).a S.length (4+T.length+2) 4 [41]:=by rw[e];exact Gb (k:=2) G (by decide) ⟨rfl,rfl⟩
 obtain⟨ln,a,b,i,O,E,C,j⟩:=c7x (N:=3999) (show 4<=(Vf S).l.length from by show 4<=(ZR ⟨S⟩).a.length;omega) g H J B (by kernel_rfl) L A K D (by kernel_rfl) I (A7 (by rw[z];show 4+(T.length+3)<=4+T.length+3;omega))
 have q:(Zw (3999+1) (Vf S).step.step.step.step).1=(Zz ⟨u⟩).a:=q
 rw[q]at i
 have i:(Vf S).expr.1 = .mk {He with kind:=6,line:=ln,name:=⟨[102]⟩,num:=0,sizes:=[],ranks:=[]} [Qi a 2,(Zz ⟨u⟩).a,Qi b 3]:=i
 have j:Stt (ZR ⟨S⟩).a S.length (ZR ⟨S⟩).a.length (Vf S).expr.2:=by rw[z];exact j
 have y:=K6 s g (by omega)
 have la:=K6 s g.step.step (by omega)
 have lb:=K6 s A.step (by show 4+T.length+1<_;omega)
 have sz:=a1w hu hc hx
 refine⟨{He with kind:=6,line:=ln,name:=⟨[102]⟩,num:=0,sizes:=[],ranks:=[]},Qi a 2,Qi b 3,?_⟩
 rw[Hr c j ?_,i]
 rw[i]
 refine Jb ?_ ?_ ?_ ?_
 ·show Yc (Qi a 2)+(Yc (Zz ⟨u⟩).a+(Yc (Qi b 3)+0))+1<=400
  have h1:Yc (Qi a 2)=1:=rfl
  have h2:Yc (Qi b 3)=1:=rfl
  omega
 ·show max (YB (Qi a 2)) (max (YB (Zz ⟨u⟩).a) (max (YB (Qi b 3)) 0))+1<=40
  have h1:YB (Qi a 2)=1:=rfl
  have h2:YB (Qi b 3)=1:=rfl
  omega
 ·show(decide (0<=ln)&&decide (ln<=10000)&&DI _ 3)=true
  rw[O,decide_eq_true y.1,decide_eq_true y.2]
  kernel_rfl
 ·intro x h
  simp only[List.mem_cons,List.not_mem_nil,or_false]at h
  rcases h with rfl|rfl|rfl
  ·rw[E];exact NT la.1 la.2 (by kernel_rfl)
  ·exact Pk hu hc hx
  ·rw[C];exact NT lb.1 lb.2 (by kernel_rfl)
end
end
open Enc (enc dec is)
open EncL (encL decL isL)
set_option maxRecDepth 100000
noncomputable def Nj:IC:=Wq Proofs.Tryz.f4
def Ma:List IRes:=[(.tmp 2)]
abbrev c6w:Nat:=130
noncomputable def EN:ZM:=Xg [(9,.pure (preT (fun _:Unit=>true)) (Zl (fun _:Unit=>true))),(11,.pure (preT (fun x:Str×Unit=>decide (x.1.s.length<=1048576))) (Zl (fun x:Str×Unit=>r3S (Zz x.1)))),(14,.pure (preT (fun x:Tm×Unit=>tW x.1)) (Zl (fun x:Tm×Unit=>(YB x.1:Int)))),(15,.pure (preT (fun x:Tm×Tm×Unit=>tW x.1&&tW x.2.1)) (Zl (fun x:Tm×Tm×Unit=>L6 x.1 x.2.1))),(13,.pure (preT (fun x:Tm×Tm×Unit=>tW x.1&&tW x.2.1)) (Zl (fun x:Tm×Tm×Unit=>Bh x.1 x.2.1)))]
theorem d5t{G:PV->Prop}(s:List UInt8)(h : ∃ B:Bool,AV.pv (Zl (fun(x:Unit)=>true) [])=AV.pv (enc B)∧(if (!B)=true then G ((.bool false))else(if (decide ((↑(List.length s):Int)>200))=true then G ((.bool true))else((Go.Pl.preT (fun(x:Str×Unit)=>decide (List.length (Str.s x.1)<=1048576)) [(.str s)])=true∧(∃ j:R3 TS Int Int,AV.pv (Zl (fun(x:Str×Unit)=>r3S (Zz x.1)) [(.str s)])=AV.pv (enc j)∧(if (R3.c j != 0)=true then G ((.bool true))else((Go.Pl.preT (fun(x:Tm×Unit)=>tW x.1) [(eS (R3.a j))])=true∧(∃ A:Int,AV.pv (Zl (fun(x:Tm×Unit)=>(↑(YB x.1):Int)) [(eS (R3.a j))])=AV.pv (enc A)∧(if (decide (A>30))=true then G ((.bool true))else((decide (List.length s+List.length [(10:UInt8)]<=1099511627776))=true∧((decide (List.length [(40:UInt8)]+List.length (s++[(10:UInt8)])<=1099511627776))=true∧((decide (List.length ([(40:UInt8)]++(s++[(10:UInt8)]))+List.length [(41:UInt8)]<=1099511627776))=true∧((Go.Pl.preT (fun(x:Str×Unit)=>decide (List.length (Str.s x.1)<=1048576)) [(.str ([(40:UInt8)]++(s++[(10:UInt8)])++[(41:UInt8)]))])=true∧(∃ z:R3 TS Int Int,AV.pv (Zl (fun(x:Str×Unit)=>r3S (Zz x.1)) [(.str ([(40:UInt8)]++(s++[(10:UInt8)])++[(41:UInt8)]))])=AV.pv (enc z)∧((decide (List.length [(49:UInt8),(32:UInt8),(42:UInt8),(32:UInt8),(40:UInt8)]+List.length (s++[(10:UInt8)])<=1099511627776))=true∧((decide (List.length ([(49:UInt8),(32:UInt8),(42:UInt8),(32:UInt8),(40:UInt8)]++(s++[(10:UInt8)]))+List.length [(41:UInt8)]<=1099511627776))=true∧((Go.Pl.preT (fun(x:Str×Unit)=>decide (List.length (Str.s x.1)<=1048576)) [(.str ([(49:UInt8),(32:UInt8),(42:UInt8),(32:UInt8),(40:UInt8)]++(s++[(10:UInt8)])++[(41:UInt8)]))])=true∧(∃ q:R3 TS Int Int,AV.pv (Zl (fun(x:Str×Unit)=>r3S (Zz x.1)) [(.str ([(49:UInt8),(32:UInt8),(42:UInt8),(32:UInt8),(40:UInt8)]++(s++[(10:UInt8)])++[(41:UInt8)]))])=AV.pv (enc q)∧((decide (List.length [(108:UInt8),(101:UInt8),(116:UInt8),(32:UInt8),(120:UInt8),(32:UInt8),(61:UInt8),(32:UInt8),(49:UInt8),(32:UInt8),(105:UInt8),(110:UInt8),(32:UInt8)]+List.length (s++[(10:UInt8)])<=1099511627776))=true∧((Go.Pl.preT (fun(x:Str×Unit)=>decide (List.length (Str.s x.1)<=1048576)) [(.str ([(108:UInt8),(101:UInt8),(116:UInt8),(32:UInt8),(120:UInt8),(32:UInt8),(61:UInt8),(32:UInt8),(49:UInt8),(32:UInt8),(105:UInt8),(110:UInt8),(32:UInt8)]++(s++[(10:UInt8)])))])=true∧(∃ l:R3 TS Int Int,AV.pv (Zl (fun(x:Str×Unit)=>r3S (Zz x.1)) [(.str ([(108:UInt8),(101:UInt8),(116:UInt8),(32:UInt8),(120:UInt8),(32:UInt8),(61:UInt8),(32:UInt8),(49:UInt8),(32:UInt8),(105:UInt8),(110:UInt8),(32:UInt8)]++(s++[(10:UInt8)])))])=AV.pv (enc l)∧((decide (List.length [(102:UInt8),(40:UInt8),(50:UInt8),(44:UInt8),(32:UInt8)]+List.length (s++[(10:UInt8)])<=1099511627776))=true∧((decide (List.length ([(102:UInt8),(40:UInt8),(50:UInt8),(44:UInt8),(32:UInt8)]++(s++[(10:UInt8)]))+List.length [(44:UInt8),(32:UInt8),(51:UInt8),(41:UInt8)]<=1099511627776))=true∧((Go.Pl.preT (fun(x:Str×Unit)=>decide (List.length (Str.s x.1)<=1048576)) [(.str ([(102:UInt8),(40:UInt8),(50:UInt8),(44:UInt8),(32:UInt8)]++(s++[(10:UInt8)])++[(44:UInt8),(32:UInt8),(51:UInt8),(41:UInt8)]))])=true∧(∃ u:R3 TS Int Int,AV.pv (Zl (fun(x:Str×Unit)=>r3S (Zz x.1)) [(.str ([(102:UInt8),(40:UInt8),(50:UInt8),(44:UInt8),(32:UInt8)]++(s++[(10:UInt8)])++[(44:UInt8),(32:UInt8),(51:UInt8),(41:UInt8)]))])=AV.pv (enc u)∧(if (R3.c z==0)=true then if (R3.c q==0)=true then if (R3.c l==0)=true then if (R3.c u==0)=true then(Go.Pl.preT (fun(x:Tm×Tm×Unit)=>tW x.1&&tW x.2.1) [(eS (R3.a z)),(eS (R3.a j))])=true∧(∃ D:Bool,AV.pv (Zl (fun(x:Tm×Tm×Unit)=>L6 x.1 x.2.1) [(eS (R3.a z)),(eS (R3.a j))])=AV.pv (enc D)∧(if (D)=true then if ((↑(List.length (List.map enc (TS.k (R3.a q)))):Int)==2)=true then(decide (0<=1)&&decide (Int.toNat 1<List.length (List.map enc (TS.k (R3.a q))))&&Enc.sz Tm==10)=true∧(∃ i:Tm,AV.pv (PV.rptr (PV.cells (List.getD (List.map enc (TS.k (R3.a q))) (Int.toNat 1) default)))=AV.pv (PV.rptr (PV.cells ((enc) i)))∧((decide (0+List.length [Sh.int .i64,Sh.int .i64,Sh.str,Sh.int .i64,Sh.str,Sh.sl 1,Sh.sl 1,Sh.sl 2,Sh.sl 1,Sh.sl 10]<=List.length (PV.cells (enc i)))&&Wx (PV.cells (enc i)) 0 [Sh.int .i64,Sh.int .i64,Sh.str,Sh.int .i64,Sh.str,Sh.sl 1,Sh.sl 1,Sh.sl 2,Sh.sl 1,Sh.sl 10])=true∧((Go.Pl.preT (fun(x:Tm×Tm×Unit)=>tW x.1&&tW x.2.1) [(.agg [(.int .i64 (PV.asInt (List.getD (PV.cells (enc i)) 0 default))),(.int .i64 (PV.asInt (List.getD (PV.cells (enc i)) (0+1) default))),(.str (PV.asStr (List.getD (PV.cells (enc i)) (0+1+1) default))),(.int .i64 (PV.asInt (List.getD (PV.cells (enc i)) (0+1+1+1) default))),(.str (PV.asStr (List.getD (PV.cells (enc i)) (0+1+1+1+1) default))),(.sl 1 (PV.asT (List.getD (PV.cells (enc i)) (0+1+1+1+1+1) default)) (PV.asXs (List.getD (PV.cells (enc i)) (0+1+1+1+1+1) default))),(.sl 1 (PV.asT (List.getD (PV.cells (enc i)) (0+1+1+1+1+1+1) default)) (PV.asXs (List.getD (PV.cells (enc i)) (0+1+1+1+1+1+1) default))),(.sl 2 (PV.asT (List.getD (PV.cells (enc i)) (0+1+1+1+1+1+1+1) default)) (PV.asXs (List.getD (PV.cells (enc i)) (0+1+1+1+1+1+1+1) default))),(.sl 1 (PV.asT (List.getD (PV.cells (enc i)) (0+1+1+1+1+1+1+1+1) default)) (PV.asXs (List.getD (PV.cells (enc i)) (0+1+1+1+1+1+1+1+1) default))),(.sl 10 (PV.asT (List.getD (PV.cells (enc i)) (0+1+1+1+1+1+1+1+1+1) default)) (PV.asXs (List.getD (PV.cells (enc i)) (0+1+1+1+1+1+1+1+1+1) default)))]),(eS (R3.a j))])=true∧(∃ C:Bool,AV.pv (Zl (fun(x:Tm×Tm×Unit)=>Bh x.1 x.2.1) [(.agg [(.int .i64 (PV.asInt (List.getD (PV.cells (enc i)) 0 default))),(.int .i64 (PV.asInt (List.getD (PV.cells (enc i)) (0+1) default))),(.str (PV.asStr (List.getD (PV.cells (enc i)) (0+1+1) default))),(.int .i64 (PV.asInt (List.getD (PV.cells (enc i)) (0+1+1+1) default))),(.str (PV.asStr (List.getD (PV.cells (enc i)) (0+1+1+1+1) default))),(.sl 1 (PV.asT (List.getD (PV.cells (enc i)) (0+1+1+1+1+1) default)) (PV.asXs (List.getD (PV.cells (enc i)) (0+1+1+1+1+1) default))),(.sl 1 (PV.asT (List.getD (PV.cells (enc i)) (0+1+1+1+1+1+1) default)) (PV.asXs (List.getD (PV.cells (enc i)) (0+1+1+1+1+1+1) default))),(.sl 2 (PV.asT (List.getD (PV.cells (enc i)) (0+1+1+1+1+1+1+1) default)) (PV.asXs (List.getD (PV.cells (enc i)) (0+1+1+1+1+1+1+1) default))),(.sl 1 (PV.asT (List.getD (PV.cells (enc i)) (0+1+1+1+1+1+1+1+1) default)) (PV.asXs (List.getD (PV.cells (enc i)) (0+1+1+1+1+1+1+1+1) default))),(.sl 10 (PV.asT (List.getD (PV.cells (enc i)) (0+1+1+1+1+1+1+1+1+1) default)) (PV.asXs (List.getD (PV.cells (enc i)) (0+1+1+1+1+1+1+1+1+1) default)))]),(eS (R3.a j))])=AV.pv (enc C)∧(if (C)=true then if ((↑(List.length (List.map enc (TS.k (R3.a l)))):Int)==2)=true then(decide (0<=1)&&decide (Int.toNat 1<List.length (List.map enc (TS.k (R3.a l))))&&Enc.sz Tm==10)=true∧(∃ e:Tm,AV.pv (PV.rptr (PV.cells (List.getD (List.map enc (TS.k (R3.a l))) (Int.toNat 1) default)))=AV.pv (PV.rptr (PV.cells ((enc) e)))∧((decide (0+List.length [Sh.int .i64,Sh.int .i64,Sh.str,Sh.int .i64,Sh.str,Sh.sl 1,Sh.sl 1,Sh.sl 2,Sh.sl 1,Sh.sl 10]<=List.length (PV.cells (enc e)))&&Wx (PV.cells (enc e)) 0 [Sh.int .i64,Sh.int .i64,Sh.str,Sh.int .i64,Sh.str,Sh.sl 1,Sh.sl 1,Sh.sl 2,Sh.sl 1,Sh.sl 10])=true∧((Go.Pl.preT (fun(x:Tm×Tm×Unit)=>tW x.1&&tW x.2.1) [(.agg [(.int .i64 (PV.asInt (List.getD (PV.cells (enc e)) 0 default))),(.int .i64 (PV.asInt (List.getD (PV.cells (enc e)) (0+1) default))),(.str (PV.asStr (List.getD (PV.cells (enc e)) (0+1+1) default))),(.int .i64 (PV.asInt (List.getD (PV.cells (enc e)) (0+1+1+1) default))),(.str (PV.asStr (List.getD (PV.cells (enc e)) (0+1+1+1+1) default))),(.sl 1 (PV.asT (List.getD (PV.cells (enc e)) (0+1+1+1+1+1) default)) (PV.asXs (List.getD (PV.cells (enc e)) (0+1+1+1+1+1) default))),(.sl 1 (PV.asT (List.getD (PV.cells (enc e)) (0+1+1+1+1+1+1) default)) (PV.asXs (List.getD (PV.cells (enc e)) (0+1+1+1+1+1+1) default))),(.sl 2 (PV.asT (List.getD (PV.cells (enc e)) (0+1+1+1+1+1+1+1) default)) (PV.asXs (List.getD (PV.cells (enc e)) (0+1+1+1+1+1+1+1) default))),(.sl 1 (PV.asT (List.getD (PV.cells (enc e)) (0+1+1+1+1+1+1+1+1) default)) (PV.asXs (List.getD (PV.cells (enc e)) (0+1+1+1+1+1+1+1+1) default))),(.sl 10 (PV.asT (List.getD (PV.cells (enc e)) (0+1+1+1+1+1+1+1+1+1) default)) (PV.asXs (List.getD (PV.cells (enc e)) (0+1+1+1+1+1+1+1+1+1) default)))]),(eS (R3.a j))])=true∧(∃ y:Bool,AV.pv (Zl (fun(x:Tm×Tm×Unit)=>Bh x.1 x.2.1) [(.agg [(.int .i64 (PV.asInt (List.getD (PV.cells (enc e)) 0 default))),(.int .i64 (PV.asInt (List.getD (PV.cells (enc e)) (0+1) default))),(.str (PV.asStr (List.getD (PV.cells (enc e)) (0+1+1) default))),(.int .i64 (PV.asInt (List.getD (PV.cells (enc e)) (0+1+1+1) default))),(.str (PV.asStr (List.getD (PV.cells (enc e)) (0+1+1+1+1) default))),(.sl 1 (PV.asT (List.getD (PV.cells (enc e)) (0+1+1+1+1+1) default)) (PV.asXs (List.getD (PV.cells (enc e)) (0+1+1+1+1+1) default))),(.sl 1 (PV.asT (List.getD (PV.cells (enc e)) (0+1+1+1+1+1+1) default)) (PV.asXs (List.getD (PV.cells (enc e)) (0+1+1+1+1+1+1) default))),(.sl 2 (PV.asT (List.getD (PV.cells (enc e)) (0+1+1+1+1+1+1+1) default)) (PV.asXs (List.getD (PV.cells (enc e)) (0+1+1+1+1+1+1+1) default))),(.sl 1 (PV.asT (List.getD (PV.cells (enc e)) (0+1+1+1+1+1+1+1+1) default)) (PV.asXs (List.getD (PV.cells (enc e)) (0+1+1+1+1+1+1+1+1) default))),(.sl 10 (PV.asT (List.getD (PV.cells (enc e)) (0+1+1+1+1+1+1+1+1+1) default)) (PV.asXs (List.getD (PV.cells (enc e)) (0+1+1+1+1+1+1+1+1+1) default)))]),(eS (R3.a j))])=AV.pv (enc y)∧(if (y)=true then if ((↑(List.length (List.map enc (TS.k (R3.a u)))):Int)==3)=true then(decide (0<=1)&&decide (Int.toNat 1<List.length (List.map enc (TS.k (R3.a u))))&&Enc.sz Tm==10)=true∧(∃ g:Tm,AV.pv (PV.rptr (PV.cells (List.getD (List.map enc (TS.k (R3.a u))) (Int.toNat 1) default)))=AV.pv (PV.rptr (PV.cells ((enc) g)))∧((decide (0+List.length [Sh.int .i64,Sh.int .i64,Sh.str,Sh.int .i64,Sh.str,Sh.sl 1,Sh.sl 1,Sh.sl 2,Sh.sl 1,Sh.sl 10]<=List.length (PV.cells (enc g)))&&Wx (PV.cells (enc g)) 0 [Sh.int .i64,Sh.int .i64,Sh.str,Sh.int .i64,Sh.str,Sh.sl 1,Sh.sl 1,Sh.sl 2,Sh.sl 1,Sh.sl 10])=true∧((Go.Pl.preT (fun(x:Tm×Tm×Unit)=>tW x.1&&tW x.2.1) [(.agg [(.int .i64 (PV.asInt (List.getD (PV.cells (enc g)) 0 default))),(.int .i64 (PV.asInt (List.getD (PV.cells (enc g)) (0+1) default))),(.str (PV.asStr (List.getD (PV.cells (enc g)) (0+1+1) default))),(.int .i64 (PV.asInt (List.getD (PV.cells (enc g)) (0+1+1+1) default))),(.str (PV.asStr (List.getD (PV.cells (enc g)) (0+1+1+1+1) default))),(.sl 1 (PV.asT (List.getD (PV.cells (enc g)) (0+1+1+1+1+1) default)) (PV.asXs (List.getD (PV.cells (enc g)) (0+1+1+1+1+1) default))),(.sl 1 (PV.asT (List.getD (PV.cells (enc g)) (0+1+1+1+1+1+1) default)) (PV.asXs (List.getD (PV.cells (enc g)) (0+1+1+1+1+1+1) default))),(.sl 2 (PV.asT (List.getD (PV.cells (enc g)) (0+1+1+1+1+1+1+1) default)) (PV.asXs (List.getD (PV.cells (enc g)) (0+1+1+1+1+1+1+1) default))),(.sl 1 (PV.asT (List.getD (PV.cells (enc g)) (0+1+1+1+1+1+1+1+1) default)) (PV.asXs (List.getD (PV.cells (enc g)) (0+1+1+1+1+1+1+1+1) default))),(.sl 10 (PV.asT (List.getD (PV.cells (enc g)) (0+1+1+1+1+1+1+1+1+1) default)) (PV.asXs (List.getD (PV.cells (enc g)) (0+1+1+1+1+1+1+1+1+1) default)))]),(eS (R3.a j))])=true∧(∃ r:Bool,AV.pv (Zl (fun(x:Tm×Tm×Unit)=>Bh x.1 x.2.1) [(.agg [(.int .i64 (PV.asInt (List.getD (PV.cells (enc g)) 0 default))),(.int .i64 (PV.asInt (List.getD (PV.cells (enc g)) (0+1) default))),(.str (PV.asStr (List.getD (PV.cells (enc g)) (0+1+1) default))),(.int .i64 (PV.asInt (List.getD (PV.cells (enc g)) (0+1+1+1) default))),(.str (PV.asStr (List.getD (PV.cells (enc g)) (0+1+1+1+1) default))),(.sl 1 (PV.asT (List.getD (PV.cells (enc g)) (0+1+1+1+1+1) default)) (PV.asXs (List.getD (PV.cells (enc g)) (0+1+1+1+1+1) default))),(.sl 1 (PV.asT (List.getD (PV.cells (enc g)) (0+1+1+1+1+1+1) default)) (PV.asXs (List.getD (PV.cells (enc g)) (0+1+1+1+1+1+1) default))),(.sl 2 (PV.asT (List.getD (PV.cells (enc g)) (0+1+1+1+1+1+1+1) default)) (PV.asXs (List.getD (PV.cells (enc g)) (0+1+1+1+1+1+1+1) default))),(.sl 1 (PV.asT (List.getD (PV.cells (enc g)) (0+1+1+1+1+1+1+1+1) default)) (PV.asXs (List.getD (PV.cells (enc g)) (0+1+1+1+1+1+1+1+1) default))),(.sl 10 (PV.asT (List.getD (PV.cells (enc g)) (0+1+1+1+1+1+1+1+1+1) default)) (PV.asXs (List.getD (PV.cells (enc g)) (0+1+1+1+1+1+1+1+1+1) default)))]),(eS (R3.a j))])=AV.pv (enc r)∧(G ((.bool r)))))))else(G ((.bool false)))else(G ((.bool false))))))))else(G ((.bool false)))else(G ((.bool false))))))))else(G ((.bool false)))else(G ((.bool false)))))else(G ((.bool false)))else(G ((.bool false)))else(G ((.bool false)))else(G ((.bool false))))))))))))))))))))))))))))):Zb EN 0 (Za Ma G) Nj [] (YT 130 [.str s]):=Zb.tp (dm [dv Bool,dv (R3 TS Int Int),dv Int,dr Tm] 464 0x22222222222222222222222222222222222222222222222202222222222222222222222222222222222222222222220222222222222222222222222222222222222222222022222222222222222222222222222222222222202222222222222222222222222222222222202222222222222222222222222222220222222222222222222222220222222222222222222022222222222022222202512212812200c42222201c42512212812203742222205342512212812207a4222220a24251220cf42220fe42221304222165426111611611161111000142227120222200542610001420001452) h
theorem d9a(a b:Str):(tW (Zz a).a&&tW (Zz b).a)=true:=by rw[KJ,KJ];rfl
theorem Ba(a b:Str):preT (fun(x:Tm×Tm×Unit)=>tW (Prod.fst x)&&tW (Prod.fst (Prod.snd x))) [eS (Ui (Zz a).a),eS (Ui (Zz b).a)]=true:=by
 have ha:=Qo (Zz a).a
 have hb:=Qo (Zz b).a
 refine Cy ((Zz a).a,(Zz b).a,()) ?_ ?_ (d9a a b)
 ·show(is Tm (eS (Ui (Zz a).a))&&(is Tm (eS (Ui (Zz b).a))&&true))=true
  rw[ha.1,hb.1];rfl
 ·show((dec (eS (Ui (Zz a).a)):Tm),(dec (eS (Ui (Zz b).a)):Tm),())=_
  rw[ha.2,hb.2]
theorem Bf(a b:Str):(decL [eS (Ui (Zz a).a),eS (Ui (Zz b).a)]:Tm×Tm×Unit)=((Zz a).a,(Zz b).a,()):=by
 have ha:=Qo (Zz a).a
 have hb:=Qo (Zz b).a
 show((dec (eS (Ui (Zz a).a)):Tm),(dec (eS (Ui (Zz b).a)):Tm),())=_
 rw[ha.2,hb.2]
theorem TG(t:Tm):((.agg [(.int .i64 (PV.asInt (List.getD (PV.cells (enc t)) 0 default))),(.int .i64 (PV.asInt (List.getD (PV.cells (enc t)) (0+1) default))),(.str (PV.asStr (List.getD (PV.cells (enc t)) (0+1+1) default))),(.int .i64 (PV.asInt (List.getD (PV.cells (enc t)) (0+1+1+1) default))),(.str (PV.asStr (List.getD (PV.cells (enc t)) (0+1+1+1+1) default))),(.sl 1 (PV.asT (List.getD (PV.cells (enc t)) (0+1+1+1+1+1) default)) (PV.asXs (List.getD (PV.cells (enc t)) (0+1+1+1+1+1) default))),(.sl 1 (PV.asT (List.getD (PV.cells (enc t)) (0+1+1+1+1+1+1) default)) (PV.asXs (List.getD (PV.cells (enc t)) (0+1+1+1+1+1+1) default))),(.sl 2 (PV.asT (List.getD (PV.cells (enc t)) (0+1+1+1+1+1+1+1) default)) (PV.asXs (List.getD (PV.cells (enc t)) (0+1+1+1+1+1+1+1) default))),(.sl 1 (PV.asT (List.getD (PV.cells (enc t)) (0+1+1+1+1+1+1+1+1) default)) (PV.asXs (List.getD (PV.cells (enc t)) (0+1+1+1+1+1+1+1+1) default))),(.sl 10 (PV.asT (List.getD (PV.cells (enc t)) (0+1+1+1+1+1+1+1+1+1) default)) (PV.asXs (List.getD (PV.cells (enc t)) (0+1+1+1+1+1+1+1+1+1) default)))]):PV)=eS (Ui t):=by
 obtain⟨n,ks⟩:=t
 rw[Xu]
 rfl
theorem Nc(t:Tm):(decide (0+List.length ([Sh.int .i64,Sh.int .i64,Sh.str,Sh.int .i64,Sh.str,Sh.sl 1,Sh.sl 1,Sh.sl 2,Sh.sl 1,Sh.sl 10]:List Sh)<=List.length (PV.cells (enc t)))&&Wx (PV.cells (enc t)) 0 [Sh.int .i64,Sh.int .i64,Sh.str,Sh.int .i64,Sh.str,Sh.sl 1,Sh.sl 1,Sh.sl 2,Sh.sl 1,Sh.sl 10])=true:=by
 obtain⟨n,ks⟩:=t
 rw[Xu]
 rfl
theorem b4f{s g:List UInt8}{r:R3 Tm Int Int}{P:R3 TS Int Int->Prop}(e:g=s)(h:Zz ⟨s⟩=r)(k:P (r3S r)): ∃ y,AV.pv (Zl (fun(x:Str×Unit)=>r3S (Zz (Prod.fst x))) [(.str g)])=AV.pv (enc y)∧P y:=⟨r3S r,by rw[e,<- h];rfl,k⟩
theorem Ai(t:Tm):Bh t t=true:=d3i (z:=id) rfl
theorem c1t: ∀ x:Str×Unit,true=true->Zb EN 0 (Za Ma (Zh true)) Nj [] (YT c6w (encL x)):=by
 rintro⟨⟨s⟩,⟨⟩⟩ _
 have g : ∀ {n:Nat},n<=1000000->decide (n<=1099511627776)=true:=fun h=>decide_eq_true (by omega)
 refine d5t s (Zg () rfl (Y6 (by decide) (WQ (fun h=>ZY rfl) fun h=> ?_)))
 have hs:s.length<=200:=by omega
 have k : ∀ a:List UInt8,a.length<=1000->preT (fun(x:Str×Unit)=>decide (List.length (Str.s (Prod.fst x))<=1048576)) [(.str a)]=true:=fun a h=>Zt ((⟨a⟩:Str),()) rfl (decide_eq_true (by show a.length<=_;omega))
 refine⟨k s (by omega),b4f rfl rfl (a1r (fun h1=>ZY rfl) fun h1=> ?_)⟩
 have j:(Zz ⟨s⟩).c=0:=h1
 have hc:(ZR ⟨s⟩).c=0:=by
  by_cases e:(ZR ⟨s⟩).c=0
  ·exact e
  ·exact absurd j (by rw[b4i e];exact e)
 have ht:=KJ ⟨s⟩
 have q:=Qo (Zz ⟨s⟩).a
 refine⟨Cy ((Zz ⟨s⟩).a,()) (by show(is Tm (eS (Ui (Zz ⟨s⟩).a))&&true)=true;rw[q.1];rfl) (by show((dec (eS (Ui (Zz ⟨s⟩).a)):Tm),())=_;rw[q.2]) ht,QX ((Zz ⟨s⟩).a,()) (by show((dec (eS (Ui (Zz ⟨s⟩).a)):Tm),())=_;rw[q.2]) (WQ (fun h2=>ZY rfl) fun h2=> ?_)⟩
 have hd:YB (Zz ⟨s⟩).a<=30:=by
  have h2 : ¬ ((YB (Zz ⟨s⟩).a:Nat):Int)>30:=h2
  omega
 have B:=e1z hs hc j
 obtain⟨nb,lb,A⟩:=e4k hs hc j hd
 obtain⟨nc,u,z⟩:=e2z hs hc j hd
 obtain⟨nd,r,y,C⟩:=e1q hs hc j hd
 refine⟨g (by simp;omega),g (by simp;omega),g (by simp;omega),k _ (by simp;omega),b4f (by simp) B
  ⟨g (by simp;omega),g (by simp;omega),k _ (by simp;omega),b4f (by simp) A
  ⟨g (by simp;omega),k _ (by simp;omega),b4f (by simp) z
  ⟨g (by simp;omega),g (by simp;omega),k _ (by simp;omega),b4f (by simp) C
  (Yr (fun _=>Yr (fun _=>Yr (fun _=>Yr (fun _=>⟨Ba ⟨s⟩ ⟨s⟩,QX _ (Bf ⟨s⟩ ⟨s⟩) (Yq (fun _=>Yr (fun _=>⟨Xv (l:=[lb,(Zz ⟨s⟩).a]) (i:=1) (by simp) rfl,WH (l:=[lb,(Zz ⟨s⟩).a]) (i:=1) (by simp)
   ⟨Nc _,by rw[TG];exact Ba ⟨s⟩ ⟨s⟩,QX ((Zz ⟨s⟩).a,(Zz ⟨s⟩).a,()) (by rw[TG];exact Bf ⟨s⟩ ⟨s⟩) (Yq (fun _=>Yr (fun _=>⟨Xv (l:=[u,(Zz ⟨s⟩).a]) (i:=1) (by simp) rfl,WH (l:=[u,(Zz ⟨s⟩).a]) (i:=1) (by simp)
   ⟨Nc _,by rw[TG];exact Ba ⟨s⟩ ⟨s⟩,QX ((Zz ⟨s⟩).a,(Zz ⟨s⟩).a,()) (by rw[TG];exact Bf ⟨s⟩ ⟨s⟩) (Yq (fun _=>Yr (fun _=>⟨Xv (l:=[r,(Zz ⟨s⟩).a,y]) (i:=1) (by simp) rfl,WH (l:=[r,(Zz ⟨s⟩).a,y]) (i:=1) (by simp)
   ⟨Nc _,by rw[TG];exact Ba ⟨s⟩ ⟨s⟩,QX ((Zz ⟨s⟩).a,(Zz ⟨s⟩).a,()) (by rw[TG];exact Bf ⟨s⟩ ⟨s⟩) (ZY (Ai _))⟩⟩) fun h=>absurd rfl h) fun h=>absurd (Ai (Zz ⟨s⟩).a) (by rw[show Bh (Zz ⟨s⟩).a (Zz ⟨s⟩).a=false from h];decide))⟩⟩) fun h=>absurd rfl h) fun h=>absurd (Ai (Zz ⟨s⟩).a) (by rw[show Bh (Zz ⟨s⟩).a (Zz ⟨s⟩).a=false from h];decide))⟩⟩) fun h=>absurd rfl h) fun h=>absurd (L9 (Zz ⟨s⟩).a) (by rw[show L6 (Zz ⟨s⟩).a (Zz ⟨s⟩).a=false from h];decide))⟩) fun h=>absurd rfl h) fun h=>absurd rfl h) fun h=>absurd rfl h) fun h=>absurd rfl h)⟩⟩⟩⟩
end Go.Pl
