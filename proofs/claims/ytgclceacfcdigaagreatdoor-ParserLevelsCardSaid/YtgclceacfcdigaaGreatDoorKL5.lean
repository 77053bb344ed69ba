/-
  Texts of mine that belong together (packed by pack.py), for every input: TyYn, TyYp, QYm, QYn, GYe, TyYq, QYp, GYv, QYv, QYw, TyJi, GJl, QJl, QJm, TyJa, TyJb, TyJd, TyJw, GJw, GJc, GJb, GJa, QJa, TyJc, QJb, TyJe, TyJf, TyJg, TyJh, QJn, VwX, TyAk, VwN, QJw, TyJx, GJx, QJx.
-/
import Derived.Test.YtgclceacfcdigaaGreatDoorChecked
import Derived.Test.YtgclceacfcdigaaGreatDoorKL2
import Derived.Test.YtgclceacfcdigaaGreatDoorKL3
import Derived.Test.YtgclceacfcdigaaGreatDoorKL4
import Derived.KernelRfl
set_option linter.unusedVariables false
set_option linter.unusedSimpArgs false
namespace Go.Pl
open Go.RowKit
section
theorem a9o{s:PS}(h:Yy s.l=true)(hi:s.i<s.l.length):a5h (s.peek 0)=true:=by
 rw[RU (k:=0) hi]
 exact List.all_eq_true.1 h _ (List.getElem_mem _)
theorem a3c{w:List UInt8}(h:nameI w=true):w.length<=30:=by
 cases w with
 | nil=>cases h
 | cons c r=>
  unfold nameI at h
  simp only[Bool.and_eq_true,decide_eq_true_eq]at h
  have:=h.1.2
  simp only[List.length_cons]
  omega
theorem a4w{w:Str}(h:YM w=true):w.s.length<=30:=by
 obtain⟨w⟩:=w
 unfold YM at h
 cases w with
 | nil=>cases h
 | cons c r=>
  dsimp only at h
  split at h
  ·simp only[Bool.and_eq_true,decide_eq_true_eq]at h
   have:=h.2
   simp only[List.length_cons]
   omega
  ·simp only[Bool.and_eq_true,decide_eq_true_eq]at h
   have:=h.2
   simp only[List.length_cons]
   omega
theorem O1{s:PS}{w:Str}(h:(s.need w).bad=false):s.next w=true∧(s.need w).i=s.i+1:=by
 unfold PS.need at h ⊢
 split at h
 ·rename_i h1;rw[if_pos h1];exact⟨h1,rfl⟩
 ·cases h
theorem JW{s:PS}(a:Yy s.l=true)(h:s.name.2.bad=false):s.name.1.s.length<=30∧s.name.2.i=s.i+1:=by
 unfold PS.name at h ⊢
 split at h
 ·rename_i h1
  rw[if_pos h1]
  refine⟨?_,rfl⟩
  have h2:=a9o a (Xy (s:=s) (by omega))
  unfold a5h at h2
  simp only[Bool.and_eq_true,Bool.or_eq_true,decide_eq_true_eq]at h2
  rcases h2.1 with h3|h3
  ·exact absurd h1 h3
  ·exact a3c h3
 ·cases h
theorem KJ{s:PS}{m:Int}(h:(s.num m).2.bad=false):(s.num m).2.i=s.i+1:=by
 unfold PS.num at h ⊢
 split at h
 ·rename_i h1;rw[if_pos h1];rfl
 ·cases h
theorem Da{s:PS}(b:Yy s.l=true)(hi:s.i<=s.l.length)(h:s.func.2.bad=false):s.func.1.s.length<=61∧s.i+1<=s.func.2.i:=by
 have j:=Ge.name hi
 unfold PS.func at h ⊢
 split at h
 ·rename_i h1
  rw[if_pos h1]
  have a:=Ge.step (Zp h1)
  have k:=Ge.name a.hi
  have n2:=JW (by rw[a.l,j.l];exact b) h
  have g:=JW b (a.good (k.good h))
  have e:s.name.2.step.i=s.name.2.i+1:=rfl
  refine⟨?_,?_⟩
  ·simp only[List.length_append,List.length_cons,List.length_nil];omega
  ·show s.i+1<=s.name.2.step.name.2.i;omega
 ·rename_i h1
  rw[if_neg h1]
  have g:=JW b h
  refine⟨?_,?_⟩
  ·show s.name.1.s.length<=61;omega
  ·show s.i+1<=s.name.2.i;omega
theorem b4r: ∀ (l:List Coef),(∀ c∈l,c.v.s.length<=30)->(l.map wCf).sum<=32*l.length
 | [],_=>by simp
 | c::l,h=>by
  have h1:=b4r l fun c hc=>h c (List.mem_cons_of_mem _ hc)
  have h2:=h c (List.mem_cons_self ..)
  have e:wCf c=c.v.s.length+2:=rfl
  simp only[List.map_cons,List.sum_cons,List.length_cons]
  omega
theorem c2b{l:Lin}(h:ZB l=true):GV l<=386:=by
 unfold ZB at h
 simp only[Bool.and_eq_true,decide_eq_true_eq]at h
 have h1:=b4r l.t fun c hc=>by
  have h2:=List.all_eq_true.1 h.1.1.1 c hc
  simp only[Bool.and_eq_true]at h2
  exact a4w h2.1.1
 unfold GV
 omega
theorem RB(a b:Lin)(k:Int):GV (ZI a b k).1<=386:=by
 unfold ZI
 split
 ·split
  ·unfold TN
   split
   ·exact c2b ‹_›
   ·exact by decide
  ·exact by decide
 ·exact by decide
theorem c7q{s:PS}(j:Yy s.l=true)(hi:s.i<=s.l.length)(h:s.item.2.bad=false):GV s.item.1<=386∧s.i+1<=s.item.2.i:=by
 unfold PS.item at h ⊢
 split at h
 ·rename_i h1
  rw[if_pos h1]
  have a:=JW j h
  refine⟨?_,?_⟩
  ·show([(⟨s.name.1,1⟩:Coef)].map wCf).sum+2<=386
   simp only[List.map_cons,List.map_nil,List.sum_cons,List.sum_nil]
   unfold wCf
   dsimp only
   omega
  ·show s.i+1<=s.name.2.i;omega
 ·rename_i h1
  rw[if_neg h1]
  have b:=Ge.num (m:=2147483648) hi
  split at h
  ·rename_i h2
   rw[if_pos h2]
   have a:=KJ h2.2
   have g:=Ge.name b.hi
   have e : ∀ x,(s.num 2147483648).2.name.2.i<=((s.num 2147483648).2.name.2.note x).2.i:=fun x=>Nat.le_refl _
   refine⟨RB _ _ _,?_⟩
   have:=e (WI (J8 (s.num 2147483648).2.name.1) (s.num 2147483648).1)
   have:=g.le
   omega
  ·rename_i h2
   rw[if_neg h2]
   have a:=KJ h
   refine⟨?_,?_⟩
   ·show([].map wCf).sum+2<=386;simp
   ·show s.i+1<=(s.num 2147483648).2.i;omega
theorem Km: ∀ (n:Nat) {s:PS} {l:Lin},Yy s.l=true->s.i<=s.l.length->GV l<=386->(linLoop n s l).2.bad=false->GV (linLoop n s l).1<=386
 | 0,s,l,_,_,hl,_=>hl
 | n+1,s,l,hx,hi,hl,h=>by
  have j:=Ge.linLoop (n+1) (l:=l) hi
  rw[linLoop]at h j ⊢
  split at h
  ·rename_i h1;rw[if_pos h1];exact hl
  ·rename_i h1
   rw[if_neg h1]at j ⊢
   split at h
   ·rename_i h2
    rw[if_pos h2]at j ⊢
    have a:=Ge.step (Zp h2)
    have g:=Ge.item a.hi
    have k:=Ge.wide (b:=decide ((ZI l s.step.item.1 1).2≠0)) g.hi
    exact Km n (by show Yy s.step.item.2.l=true;rw[g.l,a.l];exact hx) k.hi (RB _ _ _) h
   ·rename_i h2
    rw[if_neg h2]at j ⊢
    split at h
    ·rename_i h3
     rw[if_pos h3]at j ⊢
     have a:=Ge.step (Zp h3)
     have g:=Ge.item a.hi
     have k:=Ge.wide (b:=decide ((ZI l s.step.item.1 (-1)).2≠0)) g.hi
     exact Km n (by show Yy s.step.item.2.l=true;rw[g.l,a.l];exact hx) k.hi (RB _ _ _) h
    ·rename_i h3
     rw[if_neg h3]
     exact hl
theorem c5t{s:PS}(j:Yy s.l=true)(hi:s.i<=s.l.length)(h:s.linear.2.bad=false):GV s.linear.1+260*s.i<=260*s.linear.2.i+130:=by
 have key:GV s.linear.1<=386∧s.i+1<=s.linear.2.i:=by
  unfold PS.linear at h ⊢
  unfold PS.lin0 at h ⊢
  split at h
  ·rename_i h1
   rw[if_pos h1]
   have q:=Ge.step (Zp h1)
   have a:=Ge.item q.hi
   have r:=Ge.wide (b:=decide ((WI s.step.item.1 (-1)).2≠0)) a.hi
   have g:=Ge.linLoop (s.l.length+1) (l:=(WI s.step.item.1 (-1)).1) r.hi
   have u:=a.le
   have y:=g.le
   refine⟨Km _ (by show Yy s.step.item.2.l=true;rw[a.l,q.l];exact j) r.hi (RB _ _ _) h,?_⟩
   exact Nat.le_trans u y
  ·rename_i h1
   rw[if_neg h1]
   have a:=Ge.item hi
   have g:=Ge.linLoop (s.l.length+1) (l:=s.item.1) a.hi
   have k:=c7q j hi (g.good h)
   refine⟨Km _ (by rw[a.l];exact j) a.hi k.1 h,?_⟩
   exact Nat.le_trans k.2 g.le
 omega
section
variable {α:Type} {one:PS->α×PS} {B:PS->Prop} {f:α->Nat} {e:Nat}
theorem a0k(z:e<=260)(b : ∀ s t,B s->Ge s t->B t)(j : ∀ s,B s->s.i<=s.l.length->Ge s (one s).2)
  (q : ∀ s,Yy s.l=true->B s->s.i<=s.l.length->(one s).2.bad=false->f (one s).1+260*s.i<=260*(one s).2.i+e) :
  ∀ (n:Nat) {s:PS} {o:List α},Yy s.l=true->B s->s.i<=s.l.length->(moreL one n s o).2.bad=false->((moreL one n s o).1.map f).sum+260*s.i<=(o.map f).sum+260*(moreL one n s o).2.i
 | 0,s,o,_,_,_,_=>Nat.le_refl _
 | n+1,s,o,hx,hb,hi,h=>by
  rw[moreL]at h ⊢
  split at h
  ·rename_i h1;rw[if_pos h1];exact Nat.le_refl _
  ·rename_i h1
   rw[if_neg h1]
   split at h
   ·rename_i h2
    rw[if_pos h2]
    have g:=Ge.step (Zp h2)
    have b1:=b _ _ hb g
    have a:=j _ b1 g.hi
    have k:Yy s.step.l=true:=hx
    have y:Yy (one s.step).2.l=true:=by rw[a.l];exact k
    have r:=b _ _ b1 a
    have A:=Ge.moreL b j n (o:=o++[(one s.step).1]) r a.hi
    have w1:=q _ k b1 g.hi (A.good h)
    have u:=a0k z b j q n (o:=o++[(one s.step).1]) y r a.hi h
    have e1:s.step.i=s.i+1:=rfl
    rw[List.map_append,List.sum_append]at u
    simp only[List.map_cons,List.map_nil,List.sum_cons,List.sum_nil]at u
    omega
   ·rename_i h2;rw[if_neg h2];exact Nat.le_refl _
theorem Rj(r:e<=260)(b : ∀ s t,B s->Ge s t->B t)(g : ∀ s,B s->s.i<=s.l.length->Ge s (one s).2)
  (j : ∀ s,Yy s.l=true->B s->s.i<=s.l.length->(one s).2.bad=false->f (one s).1+260*s.i<=260*(one s).2.i+e)
  {s:PS} (k:Yy s.l=true) (hb:B s) (hi:s.i<=s.l.length) (h:(listL one s).2.bad=false):((listL one s).1.map f).sum+260*s.i<=260*(listL one s).2.i+e:=by
 have a:=g _ hb hi
 have b1:=b _ _ hb a
 have u:=Ge.moreL b g (s.l.length+1) (o:=[(one s).1]) b1 a.hi
 have w1:=j _ k hb hi (u.good h)
 have q:=a0k r b g j (s.l.length+1) (o:=[(one s).1]) (by rw[a.l];exact k) b1 a.hi h
 simp only[List.map_cons,List.map_nil,List.sum_cons,List.sum_nil]at q
 unfold listL
 omega
end
end
section
theorem Ef: ∀ ks:List Tm,Jp ks=(ks.map UL).sum
 | []=>by rw[Jp];rfl
 | k::ks=>by rw[Jp,Ef ks];rfl
theorem Wy(n:Nd)(ks:List Tm):UL (.mk n ks)=Mi n+(ks.map UL).sum:=by rw[UL,Ef]
theorem c3a(k ln num:Int)(n:Str):Mi {Qc k ln n with num:=num}=n.s.length+1:=by
 show n.s.length+0+0+0+0+0+1=_
 omega
theorem Gs(k ln:Int)(n:Str):Mi (Qc k ln n)=n.s.length+1:=c3a k ln 0 n
theorem d9w(k ln:Int):Mi (ET k ln)=1:=rfl
theorem b6q(ln num:Int)(n:Str)(sz:List Lin)(a:List Int):Mi {BS with kind:=6,line:=ln,name:=n,num:=num,sizes:=sz,ranks:=a}=n.s.length+a.length+(sz.map GV).sum+1:=by
 show n.s.length+0+0+0+a.length+(sz.map GV).sum+1=_
 omega
theorem b8i(ln:Int)(a:Arr):Mi {ET 3 ln with elem:=a.e,dims:=a.d,data:=a.x}=a.e.s.length+a.d.length+a.x.length+1:=by
 show 0+a.e.s.length+a.d.length+a.x.length+0+0+1=_
 omega
theorem b6n(ln:Int)(l:Lin):Mi {ET 4 ln with sizes:=[l]}=GV l+1:=by
 show 0+0+0+0+0+(GV l+0)+1=_
 omega
theorem a0d: ∀ (n:Nat) {s:PS} {o:List Int},s.i<=s.l.length->(numsP n s o).2.bad=false->(numsP n s o).1.length+s.i<=o.length+(numsP n s o).2.i
 | 0,s,o,_,_=>Nat.le_refl _
 | n+1,s,o,hi,h=>by
  rw[numsP]at h ⊢
  split at h
  ·rename_i h1
   rw[if_pos h1]
   have a:=Ge.num (m:=2147483648) hi
   have b:=Ge.numsP n (o:=o++[(s.num 2147483648).1]) a.hi
   have n1:=KJ (b.good h)
   have w:=a0d n (o:=o++[(s.num 2147483648).1]) a.hi h
   rw[List.length_append]at w
   simp only[List.length_cons,List.length_nil]at w
   omega
  ·rename_i h1;rw[if_neg h1];exact Nat.le_refl _
theorem b3i: ∀ (n:Nat) {s:PS} {o:List Int},s.i<=s.l.length->(datP n s o).2.bad=false->(datP n s o).1.length+s.i<=o.length+(datP n s o).2.i
 | 0,s,o,_,_=>Nat.le_refl _
 | n+1,s,o,hi,h=>by
  rw[datP]at h ⊢
  split at h
  ·rename_i h1;rw[if_pos h1];exact Nat.le_refl _
  ·rename_i h1
   rw[if_neg h1]
   split at h
   ·rename_i h2;rw[if_pos h2];exact Nat.le_refl _
   ·rename_i h2
    rw[if_neg h2]
    have b:=Ge.sgs hi
    have a:=Ge.num (m:=2147483648) b.hi
    have e:=Ge.datP n (o:=o++[IntKind.i64.wrap (s.sgn*(s.sgs.num 2147483648).1)]) a.hi
    have n1:=KJ (e.good h)
    have w:=b3i n (o:=o++[IntKind.i64.wrap (s.sgn*(s.sgs.num 2147483648).1)]) a.hi h
    have e0:=b.le
    rw[List.length_append]at w
    simp only[List.length_cons,List.length_nil]at w
    omega
theorem d4m{s:PS}(hi:s.i<=s.l.length)(h:s.arr.2.bad=false):s.arr.1.e.s.length+s.arr.1.d.length+s.arr.1.x.length+s.i<=4+s.arr.2.i:=by
 have k0:=Ge.ar0 hi
 have g:=Ge.ar1 hi
 have A:=Ge.ar2 hi
 have k2':Ge s.ar1 s.ar2.2:=Ge.numsP _ g.hi
 have b:=Ge.need (w:=⟨[58]⟩) A.hi
 have a:Ge (s.ar2.2.need ⟨[58]⟩) s.ar3.2:=Ge.datP _ b.hi
 have k:=Ge.need (w:=⟨[93]⟩) a.hi
 have j:s.ar3.2.bad=false:=k.good h
 have q:=a.good j
 have z:=b.good q
 have u:s.ar3.1.length+(s.ar2.2.need ⟨[58]⟩).i<=([]:List Int).length+s.ar3.2.i:=b3i _ b.hi j
 have B:s.ar2.1.length+s.ar1.i<=([]:List Int).length+s.ar2.2.i:=a0d _ g.hi z
 have e1:=g.le
 have e2:=b.le
 have e3:=k.le
 have el:s.arr.1.e.s.length<=4:=by
  show(⟨if s.arB then XF else WY⟩:Str).s.length<=4
  cases s.arB <;> decide
 have y:s.arr.1.d=s.ar2.1:=rfl
 have r:s.arr.1.x=s.ar3.1:=rfl
 have C:s.arr.2.i=(s.ar3.2.need ⟨[93]⟩).i:=rfl
 rw[y,r,C]
 simp only[List.length_nil]at B u
 omega
theorem ones(l:List Int):(l.map fun _=>1).sum=l.length:=by
 induction l with
 | nil=>rfl
 | cons a l ih=>simp only[List.map_cons,List.sum_cons,List.length_cons,ih];omega
theorem b9c{s:PS}(a:Yy s.l=true)(hi:s.i<=s.l.length)(h:s.sizesN.2.bad=false):(s.sizesN.1.map GV).sum+260*s.i<=260*s.sizesN.2.i:=by
 unfold PS.sizesN at h ⊢
 split at h
 ·rename_i h1
  rw[if_pos h1]
  have b:=Ge.step (Zp h1)
  have j:=Ge.list (one:=PS.linear) (fun s h=>Ge.linear h) b.hi
  have k:=Ge.need (w:=⟨[93]⟩) j.hi
  have w:=Rj (one:=PS.linear) (B:=fun _=>True) (f:=GV) (e:=130) (by omega) (fun _ _ _ _=>trivial) (fun s _ h=>Ge.linear h) (fun s a _ hi h=>c5t a hi h) (s:=s.step) a trivial b.hi (k.good h)
  have g:=(O1 h).2
  have e1:s.step.i=s.i+1:=rfl
  show((listL PS.linear s.step).1.map GV).sum+260*s.i<=260*((listL PS.linear s.step).2.need ⟨[93]⟩).i
  have g:((listL PS.linear s.step).2.need ⟨[93]⟩).i=(listL PS.linear s.step).2.i+1:=g
  omega
 ·rename_i h1;rw[if_neg h1];exact Nat.le_of_eq (Nat.zero_add _)
theorem c2z{s:PS}(j:Yy s.l=true)(hi:s.i<=s.l.length)(h:s.ranksN.2.bad=false):s.ranksN.1.length+260*s.i<=260*s.ranksN.2.i:=by
 unfold PS.ranksN at h ⊢
 split at h
 ·rename_i h1
  rw[if_pos h1]
  have b:=Ge.step (Zp h1)
  have a:=Ge.need (w:=⟨[40]⟩) b.hi
  have k:=Ge.list (one:=PS.numM) (fun s h=>Ge.num h) a.hi
  have g:=Ge.need (w:=⟨[41]⟩) k.hi
  have w:=Rj (one:=PS.numM) (B:=fun _=>True) (f:=fun _=>1) (e:=0) (by omega) (fun _ _ _ _=>trivial) (fun s _ h=>Ge.num h) (fun s j _ hi h=>by have:=KJ (s:=s) (m:=2147483648) h;show 1+260*s.i<=260*(s.num 2147483648).2.i+0;omega) (s:=s.step.need ⟨[40]⟩) (by rw[a.l,b.l];exact j) trivial a.hi (g.good h)
  rw[ones]at w
  have e1:=b.le
  have e2:=a.le
  have e4:=g.le
  show(listL PS.numM (s.step.need ⟨[40]⟩)).1.length+260*s.i<=260*((listL PS.numM (s.step.need ⟨[40]⟩)).2.need ⟨[41]⟩).i
  omega
 ·rename_i h1;rw[if_neg h1];exact Nat.le_of_eq (Nat.zero_add _)
def WX(N:Nat)(ex:PS->Tm×PS):Prop:= ∀ s,Yy s.l=true->Wm N s->s.i<=s.l.length->(ex s).2.bad=false->UL (ex s).1+260*s.i<=260*(ex s).2.i
def WU(N:Nat)(un:PS->(Tm×Int)×PS):Prop:= ∀ s,Yy s.l=true->Wm N s->s.i<=s.l.length->(un s).2.bad=false->UL (un s).1.1+260*s.i<=260*(un s).2.i
section
variable {N:Nat} {ex:PS->Tm×PS}
theorem b7b(r:Pj N ex)(j:WX N ex){s:PS}(a:Yy s.l=true)(g:Wm N s)(hi:s.i<=s.l.length)(h:(listL ex s).2.bad=false):((listL ex s).1.map UL).sum+260*s.i<=260*(listL ex s).2.i:=
 Rj (one:=ex) (B:=Wm N) (f:=UL) (e:=0) (by omega) (fun s t h k=>h.ge k) (fun s h k=>r s h k) (fun s q b i h=>j s q b i h) a g hi h
theorem c9e(j:Pj N ex)(u:WX N ex){s:PS}(r:Yy s.l=true)(y:Wm N s)(hi:s.i<=s.l.length)(h:(WB ex s).2.bad=false):((WB ex s).1.map UL).sum+260*s.i<=260*(WB ex s).2.i:=by
 have a:=Ge.need (w:=⟨[40]⟩) hi
 have A:=Ge.need (w:=⟨[41]⟩) a.hi
 have e1:=a.le
 have e3:=A.le
 unfold WB at h ⊢
 split at h
 ·rename_i q;rw[if_pos q];show 0+260*s.i<=260*((s.need ⟨[40]⟩).need ⟨[41]⟩).i;omega
 ·rename_i q
  rw[if_neg q]
  split at h
  ·rename_i b;rw[if_pos b];show 0+260*s.i<=260*((s.need ⟨[40]⟩).need ⟨[41]⟩).i;omega
  ·rename_i b
   rw[if_neg b]
   have g:=y.ge a
   have z:=Ge.listL (B:=Wm N) (fun s t h k=>h.ge k) (fun s h k=>j s h k) g a.hi
   have e:=Ge.need (w:=⟨[41]⟩) z.hi
   have w:=b7b j u (by rw[a.l];exact r) g a.hi (e.good h)
   have e4:=e.le
   show((listL ex (s.need ⟨[40]⟩)).1.map UL).sum+260*s.i<=260*((listL ex (s.need ⟨[40]⟩)).2.need ⟨[41]⟩).i
   omega
theorem c2a(q:Pj N ex)(z:WX N ex){ln:Int}{n:Str}{s:PS}(g:Yy s.l=true)(A:Wm N s)(hi:s.i<=s.l.length)(h:(Vv ex ln n s).2.bad=false):UL (Vv ex ln n s).1+260*s.i<=n.s.length+1+260*(Vv ex ln n s).2.i:=by
 have e:=Ge.sizesN hi
 have a:=Ge.frameN e.hi
 have b:=Ge.ranksN a.hi
 have j:=e.trans (a.trans b)
 have u:=A.ge j
 have y:=Ge.kids q u b.hi
 have k:(WB ex s.sizesN.2.frameN.2.ranksN.2).2.bad=false:=h
 have r:=y.good k
 have B:=b.good r
 have b1:=a.good B
 have w1:=b9c g hi b1
 have w3:=c2z (s:=s.sizesN.2.frameN.2) (by rw[a.l,e.l];exact g) a.hi r
 have w4:=c9e q z (s:=s.sizesN.2.frameN.2.ranksN.2) (by rw[j.l];exact g) u b.hi k
 have e2:=a.le
 show UL (.mk {BS with kind:=6,line:=ln,name:=n,num:=s.sizesN.2.frameN.1,sizes:=s.sizesN.1,ranks:=s.sizesN.2.frameN.2.ranksN.1} (WB ex s.sizesN.2.frameN.2.ranksN.2).1)+260*s.i<=n.s.length+1+260*(WB ex s.sizesN.2.frameN.2.ranksN.2).2.i
 rw[Wy,b6q]
 omega
theorem c2r(e:Pj N ex)(A:WX N ex){s:PS}(a:Yy s.l=true)(z:Wm (N+1) s)(g:(s.peek 0).k=1)(h:(Xv ex s).2.bad=false):UL (Xv ex s).1+260*s.i<=260*(Xv ex s).2.i:=by
 have hi:=Xy (s:=s) (by omega)
 have u:=Ge.step hi
 have h1:=Ge.func1 g
 have y:=u.trans h1
 unfold Xv at h ⊢
 split at h
 ·rename_i q
  rw[if_pos q]
  have j:=Da a (by omega) h
  rw[Wy,Gs]
  show s.func.1.s.length+1+0+260*s.i<=260*s.func.2.i
  omega
 ·rename_i q
  rw[if_neg q]
  have b:Wm N s.func.2:=(z.step hi).ge h1
  have r:=Ge.callB e (ln:=(s.peek 0).ln) (n:=s.func.1) b h1.hi
  have j:=Da a (by omega) (r.good h)
  have w:=c2a e A (ln:=(s.peek 0).ln) (n:=s.func.1) (s:=s.func.2) (by rw[y.l];exact a) b h1.hi h
  omega
theorem d0m(A:Pj N ex)(z:WX N ex){ln:Int}{s:PS}(k:Yy s.l=true)(I:Wm N s)(hi:s.i<=s.l.length)(h:(Cv ex ln s).2.bad=false):UL (Cv ex ln s).1+260*s.i<=260*(Cv ex ln s).2.i:=by
 have a:=Ge.need (w:=⟨[40]⟩) hi
 have C:=Ge.func a.hi
 have b:=Ge.need (w:=⟨[44]⟩) C.hi
 have g:=a.trans (C.trans b)
 have q:=I.ge g
 have j:=A _ q b.hi
 have e:=Ge.need (w:=⟨[44]⟩) j.hi
 have r:=j.trans e
 have D:=q.ge r
 have B:=A _ D e.hi
 have E:=Ge.need (w:=⟨[41]⟩) B.hi
 have y:=E.good h
 have F:=B.good y
 have u:=e.good F
 have H:=j.good u
 have n1:=Da (s:=s.need ⟨[40]⟩) (by rw[a.l];exact k) a.hi (b.good H)
 have w4:=z _ (by rw[g.l];exact k) q b.hi u
 have w6:=z _ (by rw[r.l,g.l];exact k) D e.hi y
 have e1:=a.le
 have e3:=b.le
 have e5:=e.le
 have e7:=E.le
 unfold Cv
 dsimp only
 rw[Wy,Gs]
 simp only[List.map_cons,List.map_nil,List.sum_cons,List.sum_nil]
 omega
theorem c7c(z:Pj N ex)(y:WX N ex){ln:Int}{s:PS}(k:Yy s.l=true)(B:Wm N s)(hi:s.i<=s.l.length)(h:(D9 ex ln s).2.bad=false):UL (D9 ex ln s).1+260*s.i<=260*(D9 ex ln s).2.i:=by
 have a:=Ge.need (w:=⟨[40]⟩) hi
 have r:=Ge.func a.hi
 have b:=Ge.need (w:=⟨[44]⟩) r.hi
 have e:=a.trans (r.trans b)
 have q:=B.ge e
 have g:=z _ q b.hi
 have u:=Ge.need (w:=⟨[41]⟩) g.hi
 have j:=u.good h
 have A:=g.good j
 have n1:=Da (s:=s.need ⟨[40]⟩) (by rw[a.l];exact k) a.hi (b.good A)
 have w4:=y _ (by rw[e.l];exact k) q b.hi j
 have e1:=a.le
 have e3:=b.le
 have e5:=u.le
 unfold D9
 dsimp only
 rw[Wy,Gs]
 simp only[List.map_cons,List.map_nil,List.sum_cons,List.sum_nil]
 omega
theorem c1c{ln:Int}{s:PS}(g:Yy s.l=true)(hi:s.i<=s.l.length)(h:(KQ ln s).2.bad=false):UL (KQ ln s).1+260*s.i<=260*(KQ ln s).2.i:=by
 have a:=Ge.need (w:=⟨[91]⟩) hi
 have e:=Ge.linear a.hi
 have j:=Ge.need (w:=⟨[93]⟩) e.hi
 have b:=(O1 h).2
 have w:=c5t (s:=s.need ⟨[91]⟩) (by rw[a.l];exact g) a.hi (j.good h)
 have e1:=a.le
 unfold KQ at b ⊢
 dsimp only at b ⊢
 rw[Wy,b6n]
 show GV (s.need ⟨[91]⟩).linear.1+1+0+260*s.i<=260*((s.need ⟨[91]⟩).linear.2.need ⟨[93]⟩).i
 omega
end
section
variable {N:Nat} {ex:PS->Tm×PS}
theorem c9w(j:Pj N ex)(r:WX N ex){s:PS}(g:Yy s.l=true)(y:Wm (N+1) s)(hi:s.i<=s.l.length)(h:(Xh ex s).2.bad=false):UL (Xh ex s).1+260*s.i<=260*(Xh ex s).2.i:=by
 by_cases q1:(s.peek 0).k=3
 ·rw[show Xh ex s=(.mk {Qc 2 (s.peek 0).ln ⟨WY⟩with num:=(s.num 2147483647).1} [],(s.num 2147483647).2)from if_pos q1]at h ⊢
  have n:=KJ h
  rw[Wy,c3a]
  show 3+1+0+260*s.i<=260*(s.num 2147483647).2.i
  omega
 by_cases q2:(s.peek 0).k=1
 ·rw[show Xh ex s=Xv ex s from(if_neg q1).trans (if_pos q2)]at h ⊢
  exact c2r j r g y q2 h
 unfold Xh at h ⊢
 dsimp only at h ⊢
 rw[if_neg q1,if_neg q2]at h ⊢
 split at h
 ·rename_i q;rw[if_pos q,Wy,c3a]
  show 4+1+0+260*s.i<=260*(s.i+1)
  omega
 ·rename_i q;rw[if_neg q]
  split at h
  ·rename_i q;rw[if_pos q,Wy,Gs]
   show 4+1+0+260*s.i<=260*(s.i+1)
   omega
  ·rename_i q;rw[if_neg q]
   split at h
   ·rename_i q;rw[if_pos q]
    have a:=Zp q
    have b:=Ge.step a
    have u:=y.step a
    have z:=j _ u b.hi
    have A:=Ge.need (w:=⟨[41]⟩) z.hi
    have w:=r s.step g u b.hi (A.good h)
    have D:=A.le
    have C:s.step.i=s.i+1:=rfl
    show UL (ex s.step).1+260*s.i<=260*((ex s.step).2.need ⟨[41]⟩).i
    omega
   ·rename_i q;rw[if_neg q]
    split at h
    ·rename_i q;rw[if_pos q]
     have a:=Zp q
     have b:=Ge.step a
     have u:=y.step a
     have z:=Ge.listL (B:=Wm N) (fun s t h k=>h.ge k) (fun s h k=>j s h k) u b.hi
     have A:=Ge.need (w:=⟨[93]⟩) z.hi
     have w:=b7b j r (s:=s.step) g u b.hi (A.good h)
     have D:=A.le
     have C:s.step.i=s.i+1:=rfl
     rw[Wy,d9w]
     show 1+((listL ex s.step).1.map UL).sum+260*s.i<=260*((listL ex s.step).2.need ⟨[93]⟩).i
     omega
    ·rename_i q;rw[if_neg q]
     have C:s.step.i=s.i+1:=rfl
     split at h
     ·rename_i q;rw[if_pos q]
      have a:=Zp q
      have w:=d0m j r (ln:=(s.peek 0).ln) (s:=s.step) g (y.step a) (Ge.step a).hi h
      omega
     ·rename_i q;rw[if_neg q]
      split at h
      ·rename_i q;rw[if_pos q]
       have a:=Zp q
       have w:=c7c j r (ln:=(s.peek 0).ln) (s:=s.step) g (y.step a) (Ge.step a).hi h
       omega
      ·rename_i q;rw[if_neg q]
       split at h
       ·rename_i q;rw[if_pos q]
        have a:=Zp q
        have w:=c1c (ln:=(s.peek 0).ln) (s:=s.step) g (Ge.step a).hi h
        omega
       ·rename_i q;rw[if_neg q]
        split at h
        ·rename_i q;rw[if_pos q]
         have a:=Zp q
         have b:=Ge.step a
         have z:=Ge.arr b.hi
         have e2:=z.le
         have w:=d4m (s:=s.step) b.hi h
         rw[Wy,b8i]
         show s.step.arr.1.e.s.length+s.step.arr.1.d.length+s.step.arr.1.x.length+1+0+260*s.i<=260*s.step.arr.2.i
         omega
        ·cases h
theorem EH(w:Str)(u:Bool):(Uj w u).a.s.length<=61:=by
 unfold Uj
 split
 ·rename_i r hr
  have h1:r∈UA:=List.mem_of_find?_eq_some hr
  have h2 : ∀ r∈UA,r.n.length<=61:=by decide
  exact h2 r h1
 ·exact Nat.zero_le _
theorem d7f(u:Pj N ex)(r:WX N ex){un:PS->(Tm×Int)×PS}(hu:Et N un)(k:WU N un){s:PS}(g:Yy s.l=true)(j:Wm (N+1) s)(hi:s.i<=s.l.length)(h:(Jd ex un s).2.bad=false):UL (Jd ex un s).1.1+260*s.i<=260*(Jd ex un s).2.i:=by
 have e1:s.step.i=s.i+1:=rfl
 unfold Jd at h ⊢
 dsimp only at h ⊢
 split at h
 ·rename_i q
  rw[if_pos q]
  have n:=KJ h
  rw[Wy,c3a]
  show 3+1+0+260*s.i<=260*(s.step.num 2147483648).2.i
  omega
 ·rename_i q
  rw[if_neg q]
  split at h
  ·rename_i b
   rw[if_pos b]
   have e:s.i<s.l.length:=by
    simp only[Bool.or_eq_true]at b
    rcases b with b|b
    ·exact Zp b
    ·exact Zp b
   have w:=k s.step g (j.step e) (Ge.step e).hi h
   have l1:=EH (s.peek 0).t true
   rw[Wy,Gs]
   simp only[List.map_cons,List.map_nil,List.sum_cons,List.sum_nil]
   show(Uj (s.peek 0).t true).a.s.length+1+(UL (un s.step).1.1+0)+260*s.i<=260*(un s.step).2.i
   omega
  ·rename_i b
   rw[if_neg b]
   exact c9w u r g j hi h
theorem a6z(s:PS):s.oper.1.1.s.length<=61:=by
 unfold PS.oper
 split
 ·exact EH _ _
 ·exact Nat.zero_le _
theorem ML{a:PS->(Tm×Int)×PS}{lev ln:Int}(u:lev≠0)(hu:Et (N+1) a)(j:WU (N+1) a): ∀ (n:Nat) {s:PS} {l:Tm},Yy s.l=true->Wm (N+1) s->s.i<=s.l.length->(opLoop a lev ln n s l).2.bad=false->UL (opLoop a lev ln n s l).1.1+260*s.i<=UL l+260*(opLoop a lev ln n s l).2.i
 | 0,s,l,_,_,_,_=>Nat.le_refl _
 | n+1,s,l,hl,hf,hi,h=>by
  rw[opLoop]at h ⊢
  split at h
  ·rename_i q;rw[if_pos q];exact Nat.le_refl _
  ·rename_i q
   rw[if_neg q]
   split at h
   ·rename_i q;rw[if_pos q];exact Nat.le_refl _
   ·rename_i z
    rw[if_neg z]
    have r:=Du (s:=s) (by omega)
    have g:=Ge.step r
    have b:=hf.ge g
    have e:=hu _ b g.hi
    have l1:=a6z s
    have e1:s.step.i=s.i+1:=rfl
    split at h
    ·rename_i k
     rw[if_pos k]
     have w:=j s.step hl b g.hi h
     rw[Wy,Gs]
     simp only[List.map_cons,List.map_nil,List.sum_cons,List.sum_nil]
     show s.oper.1.1.s.length+1+(UL l+(UL (a s.step).1.1+0))+260*s.i<=UL l+260*(a s.step).2.i
     omega
    ·rename_i k
     rw[if_neg k]
     have A:=Ge.opLoop (ln:=ln) u hu n (l:=.mk (Qc 6 ln s.oper.1.1) [l,(a s.step).1.1]) (b.ge e) e.hi
     have w:=j s.step hl b g.hi (A.good h)
     have y:=ML u hu j n (l:=.mk (Qc 6 ln s.oper.1.1) [l,(a s.step).1.1]) (by rw[e.l];exact hl) (b.ge e) e.hi h
     rw[Wy,Gs]at y
     simp only[List.map_cons,List.map_nil,List.sum_cons,List.sum_nil]at y
     omega
theorem F7{un:PS->(Tm×Int)×PS}(hu:Et (N+1) un)(e:WU (N+1) un): ∀ d:Nat,d<=5->WU (N+1) (YK un d)
 | 0,_=>e
 | d+1,hd=>fun s j b hi h=>by
  have g:=Ge.from hu d (by omega)
  have a:=g s b hi
  have k:=Ge.opLoop (ln:=(YK un d s).1.2) (lev:=5 - (d:Int)) (by omega) g (s.l.length+1) (l:=(YK un d s).1.1) (b.ge a) a.hi
  rw[YK]at h ⊢
  have w1:=F7 hu e d (by omega) s j b hi (k.good h)
  have w2:=ML (lev:=5 - (d:Int)) (by omega) g (F7 hu e d (by omega)) (s.l.length+1) (l:=(YK un d s).1.1) (by rw[a.l];exact j) (b.ge a) a.hi h
  omega
theorem d7w(A:Pj N ex)(z:WX N ex){un:PS->(Tm×Int)×PS}(hu:Et (N+1) un)(E:WU (N+1) un){s:PS}(g:Yy s.l=true)(B:Wm (N+1) s)(hi:s.i<=s.l.length)(h:(exB ex un s).2.bad=false):UL (exB ex un s).1+260*s.i<=260*(exB ex un s).2.i:=by
 unfold exB at h ⊢
 dsimp only at h ⊢
 split at h
 ·rename_i q
  rw[if_pos q]
  have a:=Zp q
  have F:=Ge.step a
  have H:=B.step a
  have C:=Ge.name F.hi
  have b:=Ge.need (w:=⟨[61]⟩) C.hi
  have j:=C.trans b
  have r:=H.ge j
  have k:=A _ r b.hi
  have e:=Ge.need (w:=⟨[105,110]⟩) k.hi
  have u:=k.trans e
  have D:=r.ge u
  have K:=A _ D e.hi
  have I:=K.good h
  have y:=e.good I
  have J:=k.good y
  have n1:=JW (s:=s.step) g (b.good J)
  have w4:=z _ (by rw[j.l];exact g) r b.hi y
  have w6:=z _ (by rw[u.l,j.l];exact g) D e.hi h
  have e1:s.step.i=s.i+1:=rfl
  have e3:=b.le
  have e5:=e.le
  rw[Wy,Gs]
  simp only[List.map_cons,List.map_nil,List.sum_cons,List.sum_nil]
  omega
 ·rename_i q
  rw[if_neg q]
  exact F7 hu E 5 (by omega) s g B hi h
end
theorem a9u: ∀ N,WX N (ZT N)∧WU N (Ur N)
 | 0=>⟨fun t _ a=>by unfold Wm at a;omega,fun t _ a=>by unfold Wm at a;omega⟩
 | N+1=>by
  obtain⟨j,l⟩:=a9u N
  obtain⟨k,hu⟩:=Qb N
  have g:=(Qb (N+1)).2
  have b:WU (N+1) (Ur (N+1)):=fun t e a hi h=>by
   rw[DY]at h ⊢
   exact d7f k j hu l e a hi h
  exact⟨fun t e a hi h=>by
   rw[KM]at h ⊢
   exact d7w k j g b e a hi h,b⟩
theorem EM{s:PS}(hs:Zc s=true)(g:Yy s.l=true)(h:s.expr.2.bad=false):tW s.expr.1=true:=by
 have h1:=ZF hs
 have e:Wm 4001 s:=by unfold Wm;omega
 have w:=(a9u 4001).1 s g e h1.2 h
 have k:=Ge.expr e h1.2
 have a:=k.hi
 have b:=k.l
 unfold tW
 refine decide_eq_true ?_
 have w:UL s.expr.1+260*s.i<=260*s.expr.2.i:=w
 have a:s.expr.2.i<=s.expr.2.l.length:=a
 have b:s.expr.2.l=s.l:=b
 rw[b]at a
 omega
end
open Enc (enc dec is)
open EncL (encL decL isL)
theorem c0s: ∀ (s:PS) (a:Unit),Zc s=true->Zb b2n 1 (Zk 1 MV (ZN [] [] (SB s a).1 (SB s a).2)) Oq [] (Z4 c8g (Zq a) ([]++[Zl s])):=by
 rintro s ⟨⟩ hs
 show Zb b2n 1 (Zk 1 MV (ZN [] [] () s.endp)) Oq [] _
 unfold PS.endp
 refine d6n s (Wq (fun h=>K7 hs ?_) fun h=> ?_)
 ·rw[if_pos (by rw[List.length_map]at h;omega)];exact Zr a3w
 ·rw[if_neg (by rw[List.length_map]at h;omega)];exact Zr a3w
theorem d3r{s:PS}{K:Unit->PS->Prop}(hs:Zc s=true)(h:K () s.endp):XR Zq Z9 [] [] (fun(s:PS) (_:Unit)=>Zc s) SB [.ptr 0 0] [Zl s] K:=YF ZL s () rfl rfl hs h
theorem Ge.endp{s:PS}(h:s.i<=s.l.length):Ge s s.endp:=by
 unfold PS.endp
 split
 ·exact Ge.fail h
 ·exact Ge.refl h
theorem b8r(s:List UInt8):Zb En 0 (ZY 0 Tz (fun r=>r=TL [.pv (.str s)] [])) TZ [] (Z4 a6o [.pv (.str s)] []):=
 d4n s ⟨Zv ((⟨s⟩:Str),()) rfl rfl,Zf ((⟨s⟩:Str),()) rfl rfl⟩
theorem d0i{s:PS}{K:TS->PS->Prop}(hs:Zc s=true)(h:K (Uh s.expr.1) s.expr.2):XR Zq Z9 [] [] (fun(s:PS) (_:Unit)=>Zc s) Tj [.ptr 0 0] [Zl s] K:=YF ZL s () rfl rfl hs h
theorem Ge.exprA{s:PS}(hs:Zc s=true):Ge s s.expr.2:=Ge.expr (by have:=ZF hs;unfold Wm;omega) (ZF hs).2
theorem a8w{α:Type}[Enc α]{x:α}{a b:Int}{p:PV}(h:Zh x p):Zh (⟨x,a,b⟩:R3 α Int Int) (.tup [p,.int .i64 a,.int .i64 b]):=by
 refine⟨?_,?_⟩
 ·show(is α p&&true&&true)=true
  rw[h.1];rfl
 ·show(⟨dec p,a,b⟩:R3 α Int Int)=⟨x,a,b⟩
  rw[h.2]
theorem EO:Zh (Tm.mk BS []) (.agg [.int .i64 0,.int .i64 0,.str [],.int .i64 0,.str [],.sl 0 true [],.sl 0 true [],.sl 0 true [],.sl 0 true [],.sl 0 true []]):=EQ (Q6 (Yp rfl) (Yp rfl) (YH rfl) (Yp rfl) (YH rfl) Zy Zy Zy Zy Zy)
theorem d5z{f:Tm->Bool}{t:Tm}{p:PV}(h:Zh t p)(k:f t=true):preT (fun x:Tm×Unit=>f x.1) [p]=true:=RJ (t,()) (by show(is Tm p&&true)=true;rw[h.1];rfl) (by show((dec p:Tm),())=_;rw[h.2]) k
theorem d9b{β:Type}[Enc β]{f:Tm->β}{t:Tm}{p:PV}{P:β->Prop}(h:Zh t p)(k:P (f t)): ∃ y,AV.pv (Zj (fun x:Tm×Unit=>f x.1) [p])=AV.pv (enc y)∧P y:=Hu (t,()) (by show((dec p:Tm),())=_;rw[h.2]) k
theorem b9g: ∀ x:Str×Unit,decide (x.1.s.length<=1048576)=true->Zb a9y 0 (Za Lc (Zh (Yc x.1))) FH [] (YC d0k (encL x)):=by
 rintro⟨⟨s⟩,⟨⟩⟩ hs
 have hb:=a6d s
 have g:Yy (NS s).l=true:=(RD ⟨s⟩).1
 have hl:=ZF hb
 have b:=Ge.exprA hb
 have a:=b.ok hb
 have e:=Ge.endp b.hi
 show Zb a9y 0 (Za Lc (Zh (Yc ⟨s⟩))) FH [] _
 unfold Yc
 refine d4l s ⟨rfl,Aa (fun h=> ?_) fun h=> ?_⟩
 ·rw[if_pos h];exact a8w EO
 rw[if_neg (fun k=>k h)]
 refine d0i hb (d3r a (Yk (fun h1=> ?_) fun h1=>Yk (fun h2=> ?_) fun h2=>⟨d5z (Qd (NS s).expr.1) (d6e (EM hb g (e.good h1))),d9b (Qd (NS s).expr.1) (Xc (fun h3=> ?_) fun h3=> ?_)⟩))
 ·rw[if_pos h1];exact a8w EO
 ·rw[if_neg (by rw[h1];decide),if_pos h2];exact a8w EO
 ·rw[if_neg (by rw[h1];decide),if_neg (by rw[h2];decide),if_neg (by have h3:Vy (NS s).expr.1=false:=h3;rw[h3];decide)];exact a8w EO
 ·rw[if_neg (by rw[h1];decide),if_neg (by rw[h2];decide),if_pos h3];exact a8w (Qd _)
set_option maxRecDepth 100000
noncomputable def a8v:IC:=X9 Proofs.Tryz.f137
def a9i:List IRes:=[(.cell true 2 2)]
abbrev d2q:Nat:=7
noncomputable def c5d:ZJ:=Y4 []
theorem d5a{G:PV->Prop}(s:List UInt8)(h:G ((.agg [(.int .i64 0),(.sl 2 false [(.agg [(.str s),(.int .i64 1)])])]))):Zb c5d 0 (Za a9i G) a8v [] (YC 7 [.str s]):=Zb.tp (.lit (.lit (.nil))) h
noncomputable def b0z:IC:=X9 Proofs.Tryz.f98
def b3d:List IRes:=[(.tmp 2),(.tmp 3)]
abbrev c6x:Nat:=41
noncomputable def c6h:ZJ:=Y4 [(95,.pure (preT (fun x:Str×Bool×Unit=>decide (x.1.s.length<=1048576))) (Zj (fun x:Str×Bool×Unit=>Y0 x.1 x.2.1))),(123,.pure (preT (fun x:Str×Unit=>decide (x.1.s.length<=281474976710656))) (Zj (fun x:Str×Unit=>Ye x.1)))]
theorem d8g{G:PV->Prop}(s:List UInt8)(h:if (s==[])=true then G ((.tup [(.int .i64 0),(.bool false)]))else(if (decide ((↑(List.length s):Int)>10))=true then G ((.tup [(.int .i64 0),(.bool false)]))else((Go.Pl.preT (fun(x:Str×Bool×Unit)=>decide (List.length (Str.s x.1)<=1048576)) [(.str s),(.bool false)])=true∧(∃ e:Str,AV.pv (Zj (fun(x:Str×Bool×Unit)=>Y0 x.1 x.2.1) [(.str s),(.bool false)])=AV.pv (enc e)∧(if (!Str.s e==s)=true then G ((.tup [(.int .i64 0),(.bool false)]))else((decide (0<=0)&&decide (Int.toNat 0<List.length s))=true∧(if ((↑(UInt8.toNat (List.getD s (Int.toNat 0) (0:UInt8))):Int)==48)=true then if (decide ((↑(List.length s):Int)>1))=true then G ((.tup [(.int .i64 0),(.bool false)]))else((Go.Pl.preT (fun(x:Str×Unit)=>decide (List.length (Str.s x.1)<=281474976710656)) [(.str s)])=true∧(∃ b:Int×Er,AV.pv (Zj (fun(x:Str×Unit)=>Ye x.1) [(.str s)])=AV.pv (enc b)∧((KA (enc b.2)&&Prod.fst (true,PV.bool !XL (enc b.2)))=true∧(if (!XL (enc b.2))=true then G ((.tup [(.int .i64 0),(.bool false)]))else(if (decide (b.1>2147483648))=true then G ((.tup [(.int .i64 0),(.bool false)]))else(G ((.tup [(.int .i64 b.1),(.bool true)]))))))))else((Go.Pl.preT (fun(x:Str×Unit)=>decide (List.length (Str.s x.1)<=281474976710656)) [(.str s)])=true∧(∃ a:Int×Er,AV.pv (Zj (fun(x:Str×Unit)=>Ye x.1) [(.str s)])=AV.pv (enc a)∧((KA (enc a.2)&&Prod.fst (true,PV.bool !XL (enc a.2)))=true∧(if (!XL (enc a.2))=true then G ((.tup [(.int .i64 0),(.bool false)]))else(if (decide (a.1>2147483648))=true then G ((.tup [(.int .i64 0),(.bool false)]))else(G ((.tup [(.int .i64 a.1),(.bool true)]))))))))))))))):Zb c6h 0 (Za b3d G) b0z [] (YC 41 [.str s]):=Zb.tp (dm [dv Str,dv (Int×Er)] 126 0x1422202220044161222222000014222022200441610001422222201f42221202222220074222251202222222222200c42222022222222222222201042) h
def Fg:IC:=(QJ [YI 0 (.alloc (.agg [(.str []),(.str []),(.str []),(.str []),(.str []),(.str []),(.str []),(.str []),(.str []),(.str []),(.str []),(.str []),(.str []),(.str []),(.str []),(.str []),(.str []),(.str []),(.str []),(.str []),(.str []),(.str []),(.str []),(.str []),(.str []),(.str []),(.str []),(.str [])])) 0] (QJ [YI 1 (.build [(.str []),(.str []),(.str []),(.str []),(.str []),(.str []),(.str []),(.str []),(.str []),(.str []),(.str []),(.str []),(.str []),(.str []),(.str []),(.str []),(.str []),(.str []),(.str []),(.str []),(.str []),(.str []),(.str []),(.str []),(.str []),(.str []),(.str []),(.str [])] [(0,(1,(.c (.str [46,46])))),(1,(1,(.c (.str [61,61])))),(2,(1,(.c (.str [33,61])))),(3,(1,(.c (.str [60,61])))),(4,(1,(.c (.str [62,61])))),(5,(1,(.c (.str [45,62])))),(6,(1,(.c (.str [38,38])))),(7,(1,(.c (.str [124,124])))),(8,(1,(.c (.str [40])))),(9,(1,(.c (.str [41])))),(10,(1,(.c (.str [91])))),(11,(1,(.c (.str [93])))),(12,(1,(.c (.str [123])))),(13,(1,(.c (.str [125])))),(14,(1,(.c (.str [44])))),(15,(1,(.c (.str [58])))),(16,(1,(.c (.str [46])))),(17,(1,(.c (.str [64])))),(18,(1,(.c (.str [35])))),(19,(1,(.c (.str [61])))),(20,(1,(.c (.str [60])))),(21,(1,(.c (.str [62])))),(22,(1,(.c (.str [43])))),(23,(1,(.c (.str [45])))),(24,(1,(.c (.str [42])))),(25,(1,(.c (.str [47])))),(26,(1,(.c (.str [37])))),(27,(1,(.c (.str [33]))))]) 0,o'' (.store 28 (.t 0) (.t 1)) 0] .ret))
def Oe:List IRes:=[(.cell true 28 0)]
abbrev c9r:Nat:=2
noncomputable def b1p:ZJ:=Y4 []
theorem d5h{G:PV->Prop}(h:G ((.agg [(.str [(46:UInt8),(46:UInt8)]),(.str [(61:UInt8),(61:UInt8)]),(.str [(33:UInt8),(61:UInt8)]),(.str [(60:UInt8),(61:UInt8)]),(.str [(62:UInt8),(61:UInt8)]),(.str [(45:UInt8),(62:UInt8)]),(.str [(38:UInt8),(38:UInt8)]),(.str [(124:UInt8),(124:UInt8)]),(.str [(40:UInt8)]),(.str [(41:UInt8)]),(.str [(91:UInt8)]),(.str [(93:UInt8)]),(.str [(123:UInt8)]),(.str [(125:UInt8)]),(.str [(44:UInt8)]),(.str [(58:UInt8)]),(.str [(46:UInt8)]),(.str [(64:UInt8)]),(.str [(35:UInt8)]),(.str [(61:UInt8)]),(.str [(60:UInt8)]),(.str [(62:UInt8)]),(.str [(43:UInt8)]),(.str [(45:UInt8)]),(.str [(42:UInt8)]),(.str [(47:UInt8)]),(.str [(37:UInt8)]),(.str [(33:UInt8)])]))):Zb b1p 0 (Za Oe G) Fg [] (YC 2 []):=Zb.tp (.nil) h
theorem b9j: ∀ x:Str×Unit,true=true->Zb c5d 0 (Za a9i (Zh (J8 x.1))) a8v [] (YC d2q (encL x)):=by
 rintro⟨⟨s⟩,⟨⟩⟩ _
 exact d5a s (ZE (x:=J8 ⟨s⟩) rfl)
theorem c3y(ps:List PV)(h:Dj ps=true):Zb b1p 0 (Za Oe (fun p=>p=TD ps)) Fg [] (YC c9r ps):=by
 unfold Dj at h
 split at h
 ·exact d5h rfl
 ·cases h
theorem b3j{d:List UInt8}(h:d≠[])(hd:d.all digB=true)(k:d.length<=10):Ye ⟨d⟩=(Bt d,⟨false⟩):=by
 cases d with
 | nil=>exact absurd rfl h
 | cons c r=>
  have h1:=hd
  simp only[List.all_cons,Bool.and_eq_true,XW]at h1
  have hv:=Td (c::r) 0 hd
  have hp:10 ^ (c::r).length<=10 ^ 10:=Nat.pow_le_pow_right (by omega) k
  have b:=Hd (c::r) 0 hd (by omega)
  have a:Lib.atoiAll (c::r) = .ok (U6 0 (c::r):Int):=by
   have j : ¬ (c.toNat=43∨c.toNat=45):=by omega
   have g : ¬ c.toNat=45:=by omega
   simp only[Lib.atoiAll,if_neg j,Lib.parseMag,if_neg (show ¬ (c::r=[]) by simp),b]
   rw[if_neg (by omega),if_neg (fun e=>g e.1),if_neg g]
  simp only[Ye,a]
  rw[a6n _ _ rfl hd]
theorem AA{p:UInt8->Bool}: ∀ {s:List UInt8},s.takeWhile p=s->s.all p=true
 | [],_=>rfl
 | c::s,h=>by
  rw[List.takeWhile_cons]at h
  split at h
  ·rename_i q
   rw[List.all_cons,q,AA (List.cons.inj h).2];rfl
  ·cases h
theorem Aj{p:UInt8->Bool}: ∀ {s:List UInt8},s.all p=true->s.takeWhile p=s
 | [],_=>rfl
 | c::s,h=>by
  rw[List.all_cons,Bool.and_eq_true]at h
  rw[List.takeWhile_cons,if_pos h.1,Aj h.2]
theorem Sy{n:Int}{b:Bool}:Zh ((n,b):Int×Bool) (.tup [.int .i64 n,.bool b]):=⟨rfl,rfl⟩
theorem c3r: ∀ x:Str×Unit,decide (x.1.s.length<=1048576)=true->Zb c6h 0 (Za b3d (Zh (WW x.1))) b0z [] (YC c6x (encL x)):=by
 rintro⟨⟨s⟩,⟨⟩⟩ hs
 have hw:s.length<=1048576:=of_decide_eq_true hs
 have j:Cu s=false->WW ⟨s⟩=(0,false):=fun h=>by unfold WW;rw[h];rfl
 refine d8g s (Yg (fun a=> ?_) fun a=>Wq (fun h1=> ?_) fun h1=>⟨Zv ((⟨s⟩:Str),false,()) rfl hs,Zf ((⟨s⟩:Str),false,()) rfl (Xc (fun h2=> ?_) fun h2=> ?_)⟩)
 ·have a:s=[]:=a
  subst a
  exact Sy
 ·rw[show WW ((⟨s⟩:Str),()).1=_ from j (by unfold Cu;rw[decide_eq_false (show ¬ s.length<=10 by omega)];simp)]
  exact Sy
 ·have h2:((Y0 ⟨s⟩ false).s==s)=false:=h2
  have hd:s.all digB=false:=by
   cases e:s.all digB with
   | false=>rfl
   | true=>
    have l:(Y0 ⟨s⟩ false).s=s:=Aj (p:=fun c=>digB c||(false&&lowB c)) (by
     rw[show(fun c=>digB c||(false&&lowB c))=digB from funext fun c=>by simp]
     exact e)
    rw[l]at h2
    simp at h2
  rw[show WW ((⟨s⟩:Str),()).1=_ from j (by unfold Cu;rw[hd];simp)]
  exact Sy
 ·have a:s≠[]:=a
  have h2:((Y0 ⟨s⟩ false).s==s)=true:=h2
  have hd:s.all digB=true:=by
   have h3:(Y0 ⟨s⟩ false).s=s:=by simpa using h2
   have:=AA (p:=fun c=>digB c||(false&&lowB c)) (s:=s) h3
   rw[show(fun c=>digB c||(false&&lowB c))=digB from funext fun c=>by simp]at this
   exact this
  have k:s.length<=10:=by omega
  have hp:0<s.length:=List.length_pos_iff.2 a
  have u:s.isEmpty=false:=by cases s with|nil=>exact absurd rfl a|cons _ _=>rfl
  have ha:=b3j a hd k
  have last:(decide (s.head? = some 48)&&decide (1<s.length))=false->preT (fun(x:Str×Unit)=>decide (List.length (Str.s (Prod.fst x))<=281474976710656)) [(.str s)]=true∧ ∃ b:Int×Er,AV.pv (Zj (fun(x:Str×Unit)=>Ye (Prod.fst x)) [(.str s)])=AV.pv (enc b)∧((KA (enc (Prod.snd b))&&Prod.fst (true,PV.bool !XL (enc (Prod.snd b))))=true∧(if (!XL (enc (Prod.snd b)))=true then Zh (WW ⟨s⟩) (.tup [.int .i64 0,.bool false])else if decide (Prod.fst b>2147483648)=true then Zh (WW ⟨s⟩) (.tup [.int .i64 0,.bool false])else Zh (WW ⟨s⟩) (.tup [.int .i64 (Prod.fst b),.bool true]))):=fun g=>by
   refine⟨Zv ((⟨s⟩:Str),()) rfl (decide_eq_true (by show s.length<=281474976710656;omega)),Zf ((⟨s⟩:Str),()) rfl ?_⟩
   rw[show Ye ((⟨s⟩:Str),()).1=(Bt s,⟨false⟩)from ha]
   refine⟨rfl,YV (show ¬ (!XL (enc (⟨false⟩:Er)))=true by decide) (Wq (fun h3=> ?_) fun h3=> ?_)⟩
   ·rw[j (by unfold Cu;rw[decide_eq_false (show ¬ Bt s<=2147483648 by omega),Bool.and_false])]
    exact Sy
   ·rw[show WW ⟨s⟩=(Bt s,true) by
     unfold WW Cu
     rw[u,decide_eq_true k,hd,g,decide_eq_true (show Bt s<=2147483648 by omega)]
     rfl]
    exact Sy
  refine⟨by simp;omega,Yg (fun h3=>Wq (fun q=> ?_) fun q=>last (by rw[decide_eq_false (show ¬ 1<s.length by omega),Bool.and_false])) fun h3=>last ?_⟩
  ·have g:s.head? = some 48:=by
    cases s with
    | nil=>exact absurd rfl a
    | cons c r=>
     have h3:(c.toNat:Int)=48:=h3
     have:c=48:=UInt8.toNat_inj.1 (by show c.toNat=48;omega)
     rw[this];rfl
   rw[show WW ((⟨s⟩:Str),()).1=_ from j (by unfold Cu;rw[decide_eq_true g,decide_eq_true (show 1<s.length by omega)];simp)]
   exact Sy
  ·have g:s.head? ≠ some 48:=by
    cases s with
    | nil=>exact absurd rfl a
    | cons c r=>
     have h3:(c.toNat:Int)≠48:=h3
     intro e
     have e:c=48:=by simpa using e
     rw[e]at h3
     exact h3 rfl
   rw[decide_eq_false g];rfl
def RS.tok(s:RS)(k:Nat):Tok:=s.l.getD (s.i+k) ⟨0,⟨[]⟩,0,0⟩
def RS.is(s:RS)(w:Str):Bool:= !s.bad&&(decide (s.i<s.l.length)&&(decide ((s.tok 0).t=w)&&(decide ((s.tok 0).k=2)||decide ((s.tok 0).k=4))))
def RS.step(s:RS):RS:=⟨s.l,s.i+1,s.bad,s.wide⟩
def RS.fail(s:RS):RS:=⟨s.l,s.i,true,s.wide⟩
def RS.wid(s:RS):RS:=⟨s.l,s.i,s.bad,true⟩
def RS.take(s:RS)(w:Str):Bool×RS:=if s.is w then(true,s.step)else(false,s)
def RS.need(s:RS)(w:Str):RS:=if s.is w then s.step else s.fail
def RS.kind(s:RS)(k:Int):Bool:= !s.bad&&(decide (s.i<s.l.length)&&decide ((s.tok 0).k=k))
def RS.line(s:RS):Int:=if s.i<s.l.length then(s.tok 0).ln else 0
def RS.name(s:RS):Str×RS:=if s.kind 1 then((s.tok 0).t,s.step)else(⟨[]⟩,s.fail)
def c5m{α:Type}(one:RS->α×RS):Nat->RS->List α->List α×RS
 | 0,s,o=>(o,s)
 | n+1,s,o=>if s.is ⟨[44]⟩then c5m one n (one s.step).2 (o++[(one s.step).1])else(o,s)
def Co{α:Type}(one:RS->α×RS)(s:RS):List α×RS:=c5m one (s.l.length+1) (one s).2 [(one s).1]
def RS.num(s:RS)(m:Int):Int×RS:=if s.kind 3 then(if (WW (s.tok 0).t).1<=m then((WW (s.tok 0).t).1,s.step)else(0,s.fail))else(0,s.fail)
def RS.chk(s:RS)(x:Lin×Int):Lin×RS:=if !s.bad&&(decide (x.2≠0) || !ZB x.1)then(⟨0,[]⟩,s.wid)else(x.1,s)
def RS.itemN(s:RS)(c:Int):Lin×RS:=s.name.2.chk (WI (J8 s.name.1) c)
def RS.item(s:RS):Lin×RS:=
 if s.kind 3 then(if (s.num 2147483648).2.kind 1 then(s.num 2147483648).2.itemN (s.num 2147483648).1 else(s.num 2147483648).2.chk (⟨(s.num 2147483648).1,[]⟩,0))
 else s.itemN 1
def sgM:Bool->Int
 | true=> -1
 | false=>1
def c9h:Nat->RS->Lin->Bool->Lin×RS
 | 0,s,l,m=>(l,s)
 | n+1,s,l,m=>
  if s.item.2.bad then(⟨0,[]⟩,s.item.2)
  else
   let b:=s.item.2.chk (ZI l s.item.1 (sgM m))
   if b.2.is ⟨[43]⟩then c9h n b.2.step b.1 false
   else if b.2.is ⟨[45]⟩then c9h n b.2.step b.1 true
   else b
def RS.size(s:RS):Lin×RS:=c9h (s.l.length+1) (s.take ⟨[45]⟩).2 ⟨0,[]⟩ (s.take ⟨[45]⟩).1
def RS.isRow(s:RS):Bool:=s.kind 1&&(decide (s.i+1<s.l.length)&&decide ((s.tok 1).t=⟨[46,46]⟩))
def RS.dims(s:RS)(w:Str):List Lin×RS:=if s.is w then Co RS.size s.step else([],s)
def RS.elem(s:RS):Str×RS:=if s.is ⟨WY⟩then(⟨WY⟩,s.step)else if s.is ⟨XF⟩then(⟨XF⟩,s.step)else(⟨[]⟩,s.fail)
def RS.func(s:RS):Str×RS:=if s.name.2.is ⟨[46]⟩then(⟨s.name.1.s++([46]++s.name.2.step.name.1.s)⟩,s.name.2.step.name.2)else(s.name.1,s.name.2)
def RS.oper(s:RS)(lev:Int):Str×Bool:=if s.kind 4 then((Uj (s.tok 0).t false).a,(Uj (s.tok 0).t false).c&&decide ((Uj (s.tok 0).t false).b=lev))else(⟨[]⟩,false)
def c4z:Nat->RS->List Int->List Int×RS
 | 0,s,o=>(o,s)
 | n+1,s,o=>if s.kind 3 then c4z n (s.num 2147483648).2 (o++[(s.num 2147483648).1])else(o,s)
def d3m:Nat->RS->List Int->List Int×RS
 | 0,s,o=>(o,s)
 | n+1,s,o=>
  if s.kind 3||s.is ⟨[45]⟩then(if s.is ⟨[45]⟩then d3m n (s.step.num 2147483648).2 (o++[IntKind.i64.wrap (-(s.step.num 2147483648).1)])else d3m n (s.num 2147483648).2 (o++[(s.num 2147483648).1]))
  else(o,s)
def RS.con0(s:RS):RS:=(if s.kind 1 then s.step else s).need ⟨[91]⟩
def RS.con1(s:RS):List Int×RS:=c4z (s.l.length+1) s.con0 []
def RS.con2(s:RS):List Int×RS:=d3m (s.l.length+1) (s.con1.2.need ⟨[58]⟩) []
def RS.con(s:RS)(ln:Int):Tm×RS:=
 if s.kind 1&&decide ((s.tok 0).t≠⟨[98]⟩)then(.mk {ET 3 ln with elem:=⟨WY⟩} [],s.fail)
 else(.mk {ET 3 ln with elem:=⟨if s.kind 1 then XF else WY⟩,dims:=s.con1.1,data:=s.con2.1} [],s.con2.2.need ⟨[93]⟩)
def RS.sizesN(s:RS):List Lin×RS:=if s.is ⟨[91]⟩then((Co RS.size s.step).1,(Co RS.size s.step).2.need ⟨[93]⟩)else([],s)
def RS.frameN(s:RS):Int×RS:=if s.is ⟨[123]⟩then((s.step.num 2147483648).1,(s.step.num 2147483648).2.need ⟨[125]⟩)else(0,s)
def RS.numM(s:RS):Int×RS:=s.num 2147483648
def RS.ranksN(s:RS):List Int×RS:=if s.is ⟨[64]⟩then((Co RS.numM (s.step.need ⟨[40]⟩)).1,(Co RS.numM (s.step.need ⟨[40]⟩)).2.need ⟨[41]⟩)else([],s)
def a9a(ex:RS->Tm×RS)(w:Str)(s:RS):List Tm×RS:=((Co ex s).1,(Co ex s).2.need w)
def c6c(ex:RS->Tm×RS)(s:RS):List Tm×RS:=if (s.need ⟨[40]⟩).is ⟨[41]⟩then([],(s.need ⟨[40]⟩).step)else a9a ex ⟨[41]⟩ (s.need ⟨[40]⟩)
def RS.plain(s:RS)(n:Str):Bool:=(!s.bad&&decide ((s.l.getD (s.i - 1) ⟨0,⟨[]⟩,0,0⟩).t=n))&&(!(s.is ⟨[91]⟩)&&(!(s.is ⟨[123]⟩)&&(!(s.is ⟨[64]⟩)&& !(s.is ⟨[40]⟩))))
def d0g(ex:RS->Tm×RS)(ln:Int)(n:Str)(s:RS):Tm×RS:=
 (.mk {BS with kind:=6,line:=ln,name:=n,num:=s.sizesN.2.frameN.1,sizes:=s.sizesN.1,ranks:=s.sizesN.2.frameN.2.ranksN.1} (c6c ex s.sizesN.2.frameN.2.ranksN.2).1,(c6c ex s.sizesN.2.frameN.2.ranksN.2).2)
def c7e(ex:RS->Tm×RS)(ln:Int)(s:RS):Tm×RS:=if s.func.2.plain s.func.1 then(.mk (Qc 1 ln s.func.1) [],s.func.2)else d0g ex ln s.func.1 s.func.2
def a5v(ex:RS->Tm×RS):Nat->RS->List Tm->List Tm×RS
 | 0,s,o=>(o,s)
 | k+1,s,o=>if s.bad then(o,s)else a5v ex k (ex (s.need ⟨[44]⟩)).2 (o++[(ex (s.need ⟨[44]⟩)).1])
def d5y(ex:RS->Tm×RS)(ln:Int)(s:RS):Tm×RS:=
 if s.is ⟨[102,111,108,100]⟩then
  let a:=(s.step.need ⟨[40]⟩).func
  let b:=a5v ex 2 a.2 []
  (.mk (Qc 8 ln a.1) b.1,b.2.need ⟨[41]⟩)
 else
  let a:=((s.need ⟨[115,99,97,110]⟩).need ⟨[40]⟩).func
  let b:=a5v ex 1 a.2 []
  (.mk (Qc 9 ln a.1) b.1,b.2.need ⟨[41]⟩)
def d0v(ln:Int)(s:RS):Tm×RS:=(.mk {ET 4 ln with sizes:=[(s.need ⟨[91]⟩).size.1]} [],(s.need ⟨[91]⟩).size.2.need ⟨[93]⟩)
def d7e(ex:RS->Tm×RS)(s:RS):Tm×RS:=
 let ln:=s.line
 if s.kind 3 then(.mk {Qc 2 ln ⟨WY⟩with num:=(s.num 2147483647).1} [],(s.num 2147483647).2)
 else if s.is ⟨[116,114,117,101]⟩then(.mk {Qc 2 ln ⟨XF⟩with num:=1} [],s.step)
 else if s.is ⟨[102,97,108,115,101]⟩then(.mk (Qc 2 ln ⟨XF⟩) [],s.step)
 else if s.kind 1 then c7e ex ln s
 else if s.is ⟨[40]⟩then((ex s.step).1,(ex s.step).2.need ⟨[41]⟩)
 else if s.is ⟨[91]⟩then(.mk (ET 7 ln) (a9a ex ⟨[93]⟩ s.step).1,(a9a ex ⟨[93]⟩ s.step).2)
 else if s.is ⟨[35]⟩then s.step.con ln
 else if s.is ⟨[115,105,122,101]⟩then d0v ln s.step
 else d5y ex ln s
def d6z(ex un:RS->Tm×RS)(s:RS):Tm×RS:=
 let ln:=s.line
 if s.is ⟨[45]⟩then
  if s.step.kind 3 then(.mk {Qc 2 ln ⟨WY⟩with num:=IntKind.i64.wrap (-(s.step.num 2147483648).1)} [],(s.step.num 2147483648).2)
  else(.mk (Qc 6 ln ⟨[110,101,103]⟩) [(un s.step).1],(un s.step).2)
 else if s.is ⟨[33]⟩then(.mk (Qc 6 ln ⟨[110,111,116]⟩) [(un s.step).1],(un s.step).2)
 else d7e ex s
def opR(a:RS->Tm×RS)(lev ln:Int):Nat->RS->Tm->Tm×RS
 | 0,s,l=>(l,s)
 | n+1,s,l=>
  if (s.oper lev).2 then opR a lev ln n (if ((a s.step).2.oper lev).2&&decide (lev=3)then(a s.step).2.fail else(a s.step).2) (.mk (Qc 6 ln (s.oper lev).1) [l,(a s.step).1])
  else(l,s)
def O5(un:RS->Tm×RS):Nat->RS->Tm×RS
 | 0,s=>un s
 | d+1,s=>opR (O5 un d) (5 - (d:Int)) s.line (s.l.length+1) (O5 un d s).2 (O5 un d s).1
def exR(ex un:RS->Tm×RS)(s:RS):Tm×RS:=
 if s.is ⟨[108,101,116]⟩then
  let ln:=s.line
  let a:=s.step.name
  let b:=ex (a.2.need ⟨[61]⟩)
  let c:=ex (b.2.need ⟨[105,110]⟩)
  (.mk (Qc 5 ln a.1) [b.1,c.1],c.2)
 else O5 un 5 s
def Sc:Nat->(RS->Tm×RS)×(RS->Tm×RS)
 | 0=>(fun s=>(.mk BS [],s),fun s=>(.mk BS [],s))
 | N+1=>(exR (Sc N).1 (d6z (Sc N).1 (Sc N).2),d6z (Sc N).1 (Sc N).2)
def d9a(N:Nat):RS->Tm×RS:=(Sc N).1
def RS.expr(s:RS):Tm×RS:=d9a 4001 s
section
section
variable {N:Nat} {ex:RS->Tm×RS}
end
end
def r3S(r:R3 Tm Int Int):R3 TS Int Int:=⟨Uh r.a,r.b,r.c⟩
end Go.Pl
namespace Go.Pl
open Go.RowKit
section
section
variable {o:Int} {s:PS}
end
section
variable {z:Int} {s:PS} {r:RS}
variable {tb:Bool}
end
section
variable {α β α' β':Type} {S R:α->β->Prop} {S' R':α'->β'->Prop} {K:Int->PS->Prop} {z:Int} {tb:Bool}
end
section
variable {α:Type}
end
end
open Enc (enc dec is)
open EncL (encL decL isL)
section
section
variable {ex:RS->Tm×RS} {s:RS} (h1:s.kind 3=false)
include h1
variable (h2:s.is ⟨[116,114,117,101]⟩=false)
include h2
variable (h3:s.is ⟨[102,97,108,115,101]⟩=false)
include h3
variable (h4:s.kind 1=false)
include h4
variable (h5:s.is ⟨[40]⟩=false)
include h5
variable (h6:s.is ⟨[91]⟩=false)
include h6
variable (h7:s.is ⟨[35]⟩=false)
include h7
variable (h8:s.is ⟨[115,105,122,101]⟩=false)
include h8
end
end
end Go.Pl
namespace Go.Pl
open Go.RowKit
section
section
variable {α:Type} {one one':PS->α×PS} {two:RS->α×RS} {K:Int->PS->Prop}
end
end
section
section
variable {ex:PS->Tm×PS} {ex':RS->Tm×RS}
end
section
variable {ex:PS->Tm×PS} {ex':RS->Tm×RS}
end
section
variable {un:PS->(Tm×Int)×PS} {un':RS->Tm×RS}
end
end
open Enc (enc dec is)
open EncL (encL decL isL)
theorem b0w{args:List AV}{os:List AObj}(h:Gc args os=true): ∃ s:List UInt8,args=[.pv (.str s)]∧os=[]:=by
 unfold Gc at h
 split at h
 ·exact⟨_,rfl,rfl⟩
 ·cases h
theorem c1b: ∀ args os,Gc args os=true->Zb En os.length (ZY os.length Tz (fun r=>r=TL args os)) TZ [] (Z4 a6o args os):=fun args os h=>by
 obtain⟨s,rfl,rfl⟩:=b0w h
 exact b8r s
theorem b9o(r:R3 Tm Int Int):(enc r:PV)=enc (r3S r):=by
 obtain⟨a,b,c⟩:=r
 show PV.tup [enc a,enc b,enc c]=PV.tup [enc (Uh a),enc b,enc c]
 rw[FZ]
theorem GL(s:Str):tW (Yc s).a=true:=by
 unfold Yc
 split
 ·rfl
 ·split
  ·rfl
  ·split
   ·rfl
   ·split
    ·rename_i h1 h2 h3 h4
     have hb:=a6d s.s
     have g:Yy (NS s.s).l=true:=(RD ⟨s.s⟩).1
     have b:=Ge.exprA hb
     have e:=Ge.endp b.hi
     exact EM hb g (e.good (by simpa using h2))
    ·rfl
set_option maxRecDepth 100000
def XN:List Str:=[⟨[124,124]⟩,⟨[38,38]⟩,⟨[61,61]⟩,⟨[33,61]⟩,⟨[60]⟩,⟨[60,61]⟩,⟨[62]⟩,⟨[62,61]⟩,⟨[43]⟩,⟨[45]⟩,⟨[42]⟩,⟨[47]⟩,⟨[37]⟩]
def Yz(k:Int):Int:=if k=0 then 1 else if k=1 then 2 else if k<8 then 3 else if k<10 then 4 else 5
def syN(i:Nat):List UInt8:=(XN.getD i ⟨[]⟩).s
def lvP(a b:List UInt8):List UInt8:=[97,32]++a++[32,98,32]++b++[32,99]
def lvL(a b:List UInt8):List UInt8:=[40,97,32]++a++[32,98,41,32]++b++[32,99]
def lvR(a b:List UInt8):List UInt8:=[97,32]++a++[32,40,98,32]++b++[32,99,41]
def lvC(i k:Nat)(P L R:R3 Tm Int Int)(n:Int):Bool:=
 if Yz i=3∧Yz k=3 then decide (P.c=6)&&decide (P.b=n)
 else
  decide (P.c=0)&&(decide (L.c=0)&&(decide (R.c=0)&&(decide (P.a.ks.length=2) &&
  (if Yz i<Yz k then R7 P.a R.a&&(decide (P.a.nd.name=R.a.nd.name)&&decide ((R.a.ks.map fun t=>t.ks.length)[1]? = some 2))
  else R7 P.a L.a&&decide ((L.a.ks.map fun t=>t.ks.length)[0]? = some 2)))))
def lvB(i k:Nat):Bool:=lvC i k (Yc ⟨lvP (syN i) (syN k)⟩) (Yc ⟨lvL (syN i) (syN k)⟩) (Yc ⟨lvR (syN i) (syN k)⟩) ([97,32]++syN i++[32,98,32]:List UInt8).length
theorem c8d:((List.range 13).all fun i=>(List.range 13).all fun k=>lvB i k)=true:=by kernel_rfl
theorem d5l{i k:Nat}(hi:i<13)(a:k<13):lvB i k=true:=
 List.all_eq_true.1 (List.all_eq_true.1 c8d i (List.mem_range.2 hi)) k (List.mem_range.2 a)
noncomputable def TK:IC:=X9 Proofs.Tryz.f10
def RA:List IRes:=[(.tmp 0)]
abbrev c2j:Nat:=2
noncomputable def OO:ZJ:=Y4 []
theorem d1k{G:PV->Prop}(h:G ((.sl 1 false [(.str [(124:UInt8),(124:UInt8)]),(.str [(38:UInt8),(38:UInt8)]),(.str [(61:UInt8),(61:UInt8)]),(.str [(33:UInt8),(61:UInt8)]),(.str [(60:UInt8)]),(.str [(60:UInt8),(61:UInt8)]),(.str [(62:UInt8)]),(.str [(62:UInt8),(61:UInt8)]),(.str [(43:UInt8)]),(.str [(45:UInt8)]),(.str [(42:UInt8)]),(.str [(47:UInt8)]),(.str [(37:UInt8)])]))):Zb OO 0 (Za RA G) TK [] (YC 2 []):=Zb.tp (.lit (.lit (.nil))) h
noncomputable def Dh:IC:=X9 Proofs.Tryz.f12
def DC:List IRes:=[(.tmp 2)]
abbrev Ed:Nat:=15
noncomputable def RY:ZJ:=Y4 []
theorem d1a{G:PV->Prop}(k:Int)(h:if (k==0)=true then G ((.int .i64 1))else(if (k==1)=true then G ((.int .i64 2))else(if (decide (k<8))=true then G ((.int .i64 3))else(if (decide (k<10))=true then G ((.int .i64 4))else(G ((.int .i64 5))))))):Zb RY 0 (Za DC G) Dh [] (YC 15 [.int .i64 k]):=Zb.tp (dm [] 26 0x142000142000142000142) h
noncomputable def Rp:IC:=X9 Proofs.Tryz.f3
def Ra:List IRes:=[(.tmp 4)]
abbrev c1f:Nat:=154
noncomputable def FN:ZJ:=Y4 [(9,.pure (preT (fun _:Unit=>true)) (Zj (fun _:Unit=>true))),(10,.pure (preT (fun _:Unit=>true)) (Zj (fun _:Unit=>XN))),(11,.pure (preT (fun x:Str×Unit=>decide (x.1.s.length<=1048576))) (Zj (fun x:Str×Unit=>r3S (Yc x.1)))),(12,.pure (preT (fun _:Int×Unit=>true)) (Zj (fun x:Int×Unit=>Yz x.1))),(13,.pure (preT (fun x:Tm×Tm×Unit=>tW x.1&&tW x.2.1)) (Zj (fun x:Tm×Tm×Unit=>R7 x.1 x.2.1)))]
theorem d2p{G:PV->Prop}(x y:UInt8)(h : ∃ Z:Bool,AV.pv (Zj (fun(x:Unit)=>true) [])=AV.pv (enc Z)∧(if (!Z)=true then G ((.bool false))else(∃ e:List Str,AV.pv (Zj (fun(x:Unit)=>XN) [])=AV.pv (enc e)∧(((↑(List.length (List.map enc e)):Int) != 0)=true∧(((↑(List.length (List.map enc e)):Int) != 0)=true∧((decide (0<=Int.tmod (IntKind.wrap IntKind.i64 (↑(UInt8.toNat x):Int)) (↑(List.length (List.map enc e)):Int))&&decide (Int.toNat (Int.tmod (IntKind.wrap IntKind.i64 (↑(UInt8.toNat x):Int)) (↑(List.length (List.map enc e)):Int))<List.length (List.map enc e))&&Enc.sz Str==1)=true∧(∃ J:Str,AV.pv (PV.rptr (PV.cells (List.getD (List.map enc e) (Int.toNat (Int.tmod (IntKind.wrap IntKind.i64 (↑(UInt8.toNat x):Int)) (↑(List.length (List.map enc e)):Int))) default)))=AV.pv (PV.rptr (PV.cells ((enc) J)))∧((decide (List.length [(97:UInt8),(32:UInt8)]+List.length (PV.asStr (List.getD (PV.cells (enc J)) 0 default))<=1099511627776))=true∧((decide (List.length ([(97:UInt8),(32:UInt8)]++PV.asStr (List.getD (PV.cells (enc J)) 0 default))+List.length [(32:UInt8),(98:UInt8),(32:UInt8)]<=1099511627776))=true∧((decide (0<=Int.tmod (IntKind.wrap IntKind.i64 (↑(UInt8.toNat y):Int)) (↑(List.length (List.map enc e)):Int))&&decide (Int.toNat (Int.tmod (IntKind.wrap IntKind.i64 (↑(UInt8.toNat y):Int)) (↑(List.length (List.map enc e)):Int))<List.length (List.map enc e))&&Enc.sz Str==1)=true∧(∃ N:Str,AV.pv (PV.rptr (PV.cells (List.getD (List.map enc e) (Int.toNat (Int.tmod (IntKind.wrap IntKind.i64 (↑(UInt8.toNat y):Int)) (↑(List.length (List.map enc e)):Int))) default)))=AV.pv (PV.rptr (PV.cells ((enc) N)))∧((decide (List.length ([(97:UInt8),(32:UInt8)]++PV.asStr (List.getD (PV.cells (enc J)) 0 default)++[(32:UInt8),(98:UInt8),(32:UInt8)])+List.length (PV.asStr (List.getD (PV.cells (enc N)) 0 default))<=1099511627776))=true∧((decide (List.length ([(97:UInt8),(32:UInt8)]++PV.asStr (List.getD (PV.cells (enc J)) 0 default)++[(32:UInt8),(98:UInt8),(32:UInt8)]++PV.asStr (List.getD (PV.cells (enc N)) 0 default))+List.length [(32:UInt8),(99:UInt8)]<=1099511627776))=true∧((Go.Pl.preT (fun(x:Str×Unit)=>decide (List.length (Str.s x.1)<=1048576)) [(.str ([(97:UInt8),(32:UInt8)]++PV.asStr (List.getD (PV.cells (enc J)) 0 default)++[(32:UInt8),(98:UInt8),(32:UInt8)]++PV.asStr (List.getD (PV.cells (enc N)) 0 default)++[(32:UInt8),(99:UInt8)]))])=true∧(∃ g:R3 TS Int Int,AV.pv (Zj (fun(x:Str×Unit)=>r3S (Yc x.1)) [(.str ([(97:UInt8),(32:UInt8)]++PV.asStr (List.getD (PV.cells (enc J)) 0 default)++[(32:UInt8),(98:UInt8),(32:UInt8)]++PV.asStr (List.getD (PV.cells (enc N)) 0 default)++[(32:UInt8),(99:UInt8)]))])=AV.pv (enc g)∧(∃ X:Int,AV.pv (Zj (fun(x:Int×Unit)=>Yz x.1) [(.int .i64 (Int.tmod (IntKind.wrap IntKind.i64 (↑(UInt8.toNat x):Int)) (↑(List.length (List.map enc e)):Int)))])=AV.pv (enc X)∧(if (X==3)=true then ∃ Y:Int,AV.pv (Zj (fun(x:Int×Unit)=>Yz x.1) [(.int .i64 (Int.tmod (IntKind.wrap IntKind.i64 (↑(UInt8.toNat y):Int)) (↑(List.length (List.map enc e)):Int)))])=AV.pv (enc Y)∧(if (Y==3)=true then if (R3.c g==6)=true then(decide (0<=Int.tmod (IntKind.wrap IntKind.i64 (↑(UInt8.toNat x):Int)) (↑(List.length (List.map enc e)):Int))&&decide (Int.toNat (Int.tmod (IntKind.wrap IntKind.i64 (↑(UInt8.toNat x):Int)) (↑(List.length (List.map enc e)):Int))<List.length (List.map enc e))&&Enc.sz Str==1)=true∧(∃ W:Str,AV.pv (PV.rptr (PV.cells (List.getD (List.map enc e) (Int.toNat (Int.tmod (IntKind.wrap IntKind.i64 (↑(UInt8.toNat x):Int)) (↑(List.length (List.map enc e)):Int))) default)))=AV.pv (PV.rptr (PV.cells ((enc) W)))∧((decide (List.length [(97:UInt8),(32:UInt8)]+List.length (PV.asStr (List.getD (PV.cells (enc W)) 0 default))<=1099511627776))=true∧((decide (List.length ([(97:UInt8),(32:UInt8)]++PV.asStr (List.getD (PV.cells (enc W)) 0 default))+List.length [(32:UInt8),(98:UInt8),(32:UInt8)]<=1099511627776))=true∧(G ((.bool (R3.b g==(↑(List.length ([(97:UInt8),(32:UInt8)]++PV.asStr (List.getD (PV.cells (enc W)) 0 default)++[(32:UInt8),(98:UInt8),(32:UInt8)])):Int))))))))else(G ((.bool false)))else((decide (0<=Int.tmod (IntKind.wrap IntKind.i64 (↑(UInt8.toNat x):Int)) (↑(List.length (List.map enc e)):Int))&&decide (Int.toNat (Int.tmod (IntKind.wrap IntKind.i64 (↑(UInt8.toNat x):Int)) (↑(List.length (List.map enc e)):Int))<List.length (List.map enc e))&&Enc.sz Str==1)=true∧(∃ K:Str,AV.pv (PV.rptr (PV.cells (List.getD (List.map enc e) (Int.toNat (Int.tmod (IntKind.wrap IntKind.i64 (↑(UInt8.toNat x):Int)) (↑(List.length (List.map enc e)):Int))) default)))=AV.pv (PV.rptr (PV.cells ((enc) K)))∧((decide (List.length [(40:UInt8),(97:UInt8),(32:UInt8)]+List.length (PV.asStr (List.getD (PV.cells (enc K)) 0 default))<=1099511627776))=true∧((decide (List.length ([(40:UInt8),(97:UInt8),(32:UInt8)]++PV.asStr (List.getD (PV.cells (enc K)) 0 default))+List.length [(32:UInt8),(98:UInt8),(41:UInt8),(32:UInt8)]<=1099511627776))=true∧((decide (0<=Int.tmod (IntKind.wrap IntKind.i64 (↑(UInt8.toNat y):Int)) (↑(List.length (List.map enc e)):Int))&&decide (Int.toNat (Int.tmod (IntKind.wrap IntKind.i64 (↑(UInt8.toNat y):Int)) (↑(List.length (List.map enc e)):Int))<List.length (List.map enc e))&&Enc.sz Str==1)=true∧(∃ U:Str,AV.pv (PV.rptr (PV.cells (List.getD (List.map enc e) (Int.toNat (Int.tmod (IntKind.wrap IntKind.i64 (↑(UInt8.toNat y):Int)) (↑(List.length (List.map enc e)):Int))) default)))=AV.pv (PV.rptr (PV.cells ((enc) U)))∧((decide (List.length ([(40:UInt8),(97:UInt8),(32:UInt8)]++PV.asStr (List.getD (PV.cells (enc K)) 0 default)++[(32:UInt8),(98:UInt8),(41:UInt8),(32:UInt8)])+List.length (PV.asStr (List.getD (PV.cells (enc U)) 0 default))<=1099511627776))=true∧((decide (List.length ([(40:UInt8),(97:UInt8),(32:UInt8)]++PV.asStr (List.getD (PV.cells (enc K)) 0 default)++[(32:UInt8),(98:UInt8),(41:UInt8),(32:UInt8)]++PV.asStr (List.getD (PV.cells (enc U)) 0 default))+List.length [(32:UInt8),(99:UInt8)]<=1099511627776))=true∧((Go.Pl.preT (fun(x:Str×Unit)=>decide (List.length (Str.s x.1)<=1048576)) [(.str ([(40:UInt8),(97:UInt8),(32:UInt8)]++PV.asStr (List.getD (PV.cells (enc K)) 0 default)++[(32:UInt8),(98:UInt8),(41:UInt8),(32:UInt8)]++PV.asStr (List.getD (PV.cells (enc U)) 0 default)++[(32:UInt8),(99:UInt8)]))])=true∧(∃ A:R3 TS Int Int,AV.pv (Zj (fun(x:Str×Unit)=>r3S (Yc x.1)) [(.str ([(40:UInt8),(97:UInt8),(32:UInt8)]++PV.asStr (List.getD (PV.cells (enc K)) 0 default)++[(32:UInt8),(98:UInt8),(41:UInt8),(32:UInt8)]++PV.asStr (List.getD (PV.cells (enc U)) 0 default)++[(32:UInt8),(99:UInt8)]))])=AV.pv (enc A)∧((decide (0<=Int.tmod (IntKind.wrap IntKind.i64 (↑(UInt8.toNat x):Int)) (↑(List.length (List.map enc e)):Int))&&decide (Int.toNat (Int.tmod (IntKind.wrap IntKind.i64 (↑(UInt8.toNat x):Int)) (↑(List.length (List.map enc e)):Int))<List.length (List.map enc e))&&Enc.sz Str==1)=true∧(∃ u:Str,AV.pv (PV.rptr (PV.cells (List.getD (List.map enc e) (Int.toNat (Int.tmod (IntKind.wrap IntKind.i64 (↑(UInt8.toNat x):Int)) (↑(List.length (List.map enc e)):Int))) default)))=AV.pv (PV.rptr (PV.cells ((enc) u)))∧((decide (List.length [(97:UInt8),(32:UInt8)]+List.length (PV.asStr (List.getD (PV.cells (enc u)) 0 default))<=1099511627776))=true∧((decide (List.length ([(97:UInt8),(32:UInt8)]++PV.asStr (List.getD (PV.cells (enc u)) 0 default))+List.length [(32:UInt8),(40:UInt8),(98:UInt8),(32:UInt8)]<=1099511627776))=true∧((decide (0<=Int.tmod (IntKind.wrap IntKind.i64 (↑(UInt8.toNat y):Int)) (↑(List.length (List.map enc e)):Int))&&decide (Int.toNat (Int.tmod (IntKind.wrap IntKind.i64 (↑(UInt8.toNat y):Int)) (↑(List.length (List.map enc e)):Int))<List.length (List.map enc e))&&Enc.sz Str==1)=true∧(∃ C:Str,AV.pv (PV.rptr (PV.cells (List.getD (List.map enc e) (Int.toNat (Int.tmod (IntKind.wrap IntKind.i64 (↑(UInt8.toNat y):Int)) (↑(List.length (List.map enc e)):Int))) default)))=AV.pv (PV.rptr (PV.cells ((enc) C)))∧((decide (List.length ([(97:UInt8),(32:UInt8)]++PV.asStr (List.getD (PV.cells (enc u)) 0 default)++[(32:UInt8),(40:UInt8),(98:UInt8),(32:UInt8)])+List.length (PV.asStr (List.getD (PV.cells (enc C)) 0 default))<=1099511627776))=true∧((decide (List.length ([(97:UInt8),(32:UInt8)]++PV.asStr (List.getD (PV.cells (enc u)) 0 default)++[(32:UInt8),(40:UInt8),(98:UInt8),(32:UInt8)]++PV.asStr (List.getD (PV.cells (enc C)) 0 default))+List.length [(32:UInt8),(99:UInt8),(41:UInt8)]<=1099511627776))=true∧((Go.Pl.preT (fun(x:Str×Unit)=>decide (List.length (Str.s x.1)<=1048576)) [(.str ([(97:UInt8),(32:UInt8)]++PV.asStr (List.getD (PV.cells (enc u)) 0 default)++[(32:UInt8),(40:UInt8),(98:UInt8),(32:UInt8)]++PV.asStr (List.getD (PV.cells (enc C)) 0 default)++[(32:UInt8),(99:UInt8),(41:UInt8)]))])=true∧(∃ r:R3 TS Int Int,AV.pv (Zj (fun(x:Str×Unit)=>r3S (Yc x.1)) [(.str ([(97:UInt8),(32:UInt8)]++PV.asStr (List.getD (PV.cells (enc u)) 0 default)++[(32:UInt8),(40:UInt8),(98:UInt8),(32:UInt8)]++PV.asStr (List.getD (PV.cells (enc C)) 0 default)++[(32:UInt8),(99:UInt8),(41:UInt8)]))])=AV.pv (enc r)∧(if (R3.c g != 0)=true then G ((.bool false))else(if (R3.c A != 0)=true then G ((.bool false))else(if (R3.c r != 0)=true then G ((.bool false))else(if ((↑(List.length (List.map enc (TS.k (R3.a g)))):Int) != 2)=true then G ((.bool false))else(∃ Q:Int,AV.pv (Zj (fun(x:Int×Unit)=>Yz x.1) [(.int .i64 (Int.tmod (IntKind.wrap IntKind.i64 (↑(UInt8.toNat y):Int)) (↑(List.length (List.map enc e)):Int)))])=AV.pv (enc Q)∧(∃ M:Int,AV.pv (Zj (fun(x:Int×Unit)=>Yz x.1) [(.int .i64 (Int.tmod (IntKind.wrap IntKind.i64 (↑(UInt8.toNat x):Int)) (↑(List.length (List.map enc e)):Int)))])=AV.pv (enc M)∧(if (decide (Q>M))=true then(Go.Pl.preT (fun(x:Tm×Tm×Unit)=>tW x.1&&tW x.2.1) [(eS (R3.a g)),(eS (R3.a r))])=true∧(∃ O:Bool,AV.pv (Zj (fun(x:Tm×Tm×Unit)=>R7 x.1 x.2.1) [(eS (R3.a g)),(eS (R3.a r))])=AV.pv (enc O)∧(if (O)=true then if (Str.s (Nd.name (TS.n (R3.a g)))==Str.s (Nd.name (TS.n (R3.a r))))=true then(decide (0<=1)&&decide (Int.toNat 1<List.length (List.map enc (TS.k (R3.a r))))&&Enc.sz Tm==10)=true∧(∃ E:Tm,AV.pv (PV.rptr (PV.cells (List.getD (List.map enc (TS.k (R3.a r))) (Int.toNat 1) default)))=AV.pv (PV.rptr (PV.cells ((enc) E)))∧((decide (0+List.length [Sh.sl 10]<=List.length (List.drop 9 (PV.cells (enc E))))&&XV (List.drop 9 (PV.cells (enc E))) 0 [Sh.sl 10])=true∧(G ((.bool ((↑(List.length (PV.asXs (List.getD (List.drop 9 (PV.cells (enc E))) 0 default))):Int)==2))))))else(G ((.bool false)))else(G ((.bool false)))))else((Go.Pl.preT (fun(x:Tm×Tm×Unit)=>tW x.1&&tW x.2.1) [(eS (R3.a g)),(eS (R3.a A))])=true∧(∃ P:Bool,AV.pv (Zj (fun(x:Tm×Tm×Unit)=>R7 x.1 x.2.1) [(eS (R3.a g)),(eS (R3.a A))])=AV.pv (enc P)∧(if (P)=true then(decide (0<=0)&&decide (Int.toNat 0<List.length (List.map enc (TS.k (R3.a A))))&&Enc.sz Tm==10)=true∧(∃ H:Tm,AV.pv (PV.rptr (PV.cells (List.getD (List.map enc (TS.k (R3.a A))) (Int.toNat 0) default)))=AV.pv (PV.rptr (PV.cells ((enc) H)))∧((decide (0+List.length [Sh.sl 10]<=List.length (List.drop 9 (PV.cells (enc H))))&&XV (List.drop 9 (PV.cells (enc H))) 0 [Sh.sl 10])=true∧(G ((.bool ((↑(List.length (PV.asXs (List.getD (List.drop 9 (PV.cells (enc H))) 0 default))):Int)==2))))))else(G ((.bool false))))))))))))))))))))))))))))))))))else((decide (0<=Int.tmod (IntKind.wrap IntKind.i64 (↑(UInt8.toNat x):Int)) (↑(List.length (List.map enc e)):Int))&&decide (Int.toNat (Int.tmod (IntKind.wrap IntKind.i64 (↑(UInt8.toNat x):Int)) (↑(List.length (List.map enc e)):Int))<List.length (List.map enc e))&&Enc.sz Str==1)=true∧(∃ l:Str,AV.pv (PV.rptr (PV.cells (List.getD (List.map enc e) (Int.toNat (Int.tmod (IntKind.wrap IntKind.i64 (↑(UInt8.toNat x):Int)) (↑(List.length (List.map enc e)):Int))) default)))=AV.pv (PV.rptr (PV.cells ((enc) l)))∧((decide (List.length [(40:UInt8),(97:UInt8),(32:UInt8)]+List.length (PV.asStr (List.getD (PV.cells (enc l)) 0 default))<=1099511627776))=true∧((decide (List.length ([(40:UInt8),(97:UInt8),(32:UInt8)]++PV.asStr (List.getD (PV.cells (enc l)) 0 default))+List.length [(32:UInt8),(98:UInt8),(41:UInt8),(32:UInt8)]<=1099511627776))=true∧((decide (0<=Int.tmod (IntKind.wrap IntKind.i64 (↑(UInt8.toNat y):Int)) (↑(List.length (List.map enc e)):Int))&&decide (Int.toNat (Int.tmod (IntKind.wrap IntKind.i64 (↑(UInt8.toNat y):Int)) (↑(List.length (List.map enc e)):Int))<List.length (List.map enc e))&&Enc.sz Str==1)=true∧(∃ B:Str,AV.pv (PV.rptr (PV.cells (List.getD (List.map enc e) (Int.toNat (Int.tmod (IntKind.wrap IntKind.i64 (↑(UInt8.toNat y):Int)) (↑(List.length (List.map enc e)):Int))) default)))=AV.pv (PV.rptr (PV.cells ((enc) B)))∧((decide (List.length ([(40:UInt8),(97:UInt8),(32:UInt8)]++PV.asStr (List.getD (PV.cells (enc l)) 0 default)++[(32:UInt8),(98:UInt8),(41:UInt8),(32:UInt8)])+List.length (PV.asStr (List.getD (PV.cells (enc B)) 0 default))<=1099511627776))=true∧((decide (List.length ([(40:UInt8),(97:UInt8),(32:UInt8)]++PV.asStr (List.getD (PV.cells (enc l)) 0 default)++[(32:UInt8),(98:UInt8),(41:UInt8),(32:UInt8)]++PV.asStr (List.getD (PV.cells (enc B)) 0 default))+List.length [(32:UInt8),(99:UInt8)]<=1099511627776))=true∧((Go.Pl.preT (fun(x:Str×Unit)=>decide (List.length (Str.s x.1)<=1048576)) [(.str ([(40:UInt8),(97:UInt8),(32:UInt8)]++PV.asStr (List.getD (PV.cells (enc l)) 0 default)++[(32:UInt8),(98:UInt8),(41:UInt8),(32:UInt8)]++PV.asStr (List.getD (PV.cells (enc B)) 0 default)++[(32:UInt8),(99:UInt8)]))])=true∧(∃ z:R3 TS Int Int,AV.pv (Zj (fun(x:Str×Unit)=>r3S (Yc x.1)) [(.str ([(40:UInt8),(97:UInt8),(32:UInt8)]++PV.asStr (List.getD (PV.cells (enc l)) 0 default)++[(32:UInt8),(98:UInt8),(41:UInt8),(32:UInt8)]++PV.asStr (List.getD (PV.cells (enc B)) 0 default)++[(32:UInt8),(99:UInt8)]))])=AV.pv (enc z)∧((decide (0<=Int.tmod (IntKind.wrap IntKind.i64 (↑(UInt8.toNat x):Int)) (↑(List.length (List.map enc e)):Int))&&decide (Int.toNat (Int.tmod (IntKind.wrap IntKind.i64 (↑(UInt8.toNat x):Int)) (↑(List.length (List.map enc e)):Int))<List.length (List.map enc e))&&Enc.sz Str==1)=true∧(∃ q:Str,AV.pv (PV.rptr (PV.cells (List.getD (List.map enc e) (Int.toNat (Int.tmod (IntKind.wrap IntKind.i64 (↑(UInt8.toNat x):Int)) (↑(List.length (List.map enc e)):Int))) default)))=AV.pv (PV.rptr (PV.cells ((enc) q)))∧((decide (List.length [(97:UInt8),(32:UInt8)]+List.length (PV.asStr (List.getD (PV.cells (enc q)) 0 default))<=1099511627776))=true∧((decide (List.length ([(97:UInt8),(32:UInt8)]++PV.asStr (List.getD (PV.cells (enc q)) 0 default))+List.length [(32:UInt8),(40:UInt8),(98:UInt8),(32:UInt8)]<=1099511627776))=true∧((decide (0<=Int.tmod (IntKind.wrap IntKind.i64 (↑(UInt8.toNat y):Int)) (↑(List.length (List.map enc e)):Int))&&decide (Int.toNat (Int.tmod (IntKind.wrap IntKind.i64 (↑(UInt8.toNat y):Int)) (↑(List.length (List.map enc e)):Int))<List.length (List.map enc e))&&Enc.sz Str==1)=true∧(∃ D:Str,AV.pv (PV.rptr (PV.cells (List.getD (List.map enc e) (Int.toNat (Int.tmod (IntKind.wrap IntKind.i64 (↑(UInt8.toNat y):Int)) (↑(List.length (List.map enc e)):Int))) default)))=AV.pv (PV.rptr (PV.cells ((enc) D)))∧((decide (List.length ([(97:UInt8),(32:UInt8)]++PV.asStr (List.getD (PV.cells (enc q)) 0 default)++[(32:UInt8),(40:UInt8),(98:UInt8),(32:UInt8)])+List.length (PV.asStr (List.getD (PV.cells (enc D)) 0 default))<=1099511627776))=true∧((decide (List.length ([(97:UInt8),(32:UInt8)]++PV.asStr (List.getD (PV.cells (enc q)) 0 default)++[(32:UInt8),(40:UInt8),(98:UInt8),(32:UInt8)]++PV.asStr (List.getD (PV.cells (enc D)) 0 default))+List.length [(32:UInt8),(99:UInt8),(41:UInt8)]<=1099511627776))=true∧((Go.Pl.preT (fun(x:Str×Unit)=>decide (List.length (Str.s x.1)<=1048576)) [(.str ([(97:UInt8),(32:UInt8)]++PV.asStr (List.getD (PV.cells (enc q)) 0 default)++[(32:UInt8),(40:UInt8),(98:UInt8),(32:UInt8)]++PV.asStr (List.getD (PV.cells (enc D)) 0 default)++[(32:UInt8),(99:UInt8),(41:UInt8)]))])=true∧(∃ j:R3 TS Int Int,AV.pv (Zj (fun(x:Str×Unit)=>r3S (Yc x.1)) [(.str ([(97:UInt8),(32:UInt8)]++PV.asStr (List.getD (PV.cells (enc q)) 0 default)++[(32:UInt8),(40:UInt8),(98:UInt8),(32:UInt8)]++PV.asStr (List.getD (PV.cells (enc D)) 0 default)++[(32:UInt8),(99:UInt8),(41:UInt8)]))])=AV.pv (enc j)∧(if (R3.c g != 0)=true then G ((.bool false))else(if (R3.c z != 0)=true then G ((.bool false))else(if (R3.c j != 0)=true then G ((.bool false))else(if ((↑(List.length (List.map enc (TS.k (R3.a g)))):Int) != 2)=true then G ((.bool false))else(∃ S:Int,AV.pv (Zj (fun(x:Int×Unit)=>Yz x.1) [(.int .i64 (Int.tmod (IntKind.wrap IntKind.i64 (↑(UInt8.toNat y):Int)) (↑(List.length (List.map enc e)):Int)))])=AV.pv (enc S)∧(∃ L:Int,AV.pv (Zj (fun(x:Int×Unit)=>Yz x.1) [(.int .i64 (Int.tmod (IntKind.wrap IntKind.i64 (↑(UInt8.toNat x):Int)) (↑(List.length (List.map enc e)):Int)))])=AV.pv (enc L)∧(if (decide (S>L))=true then(Go.Pl.preT (fun(x:Tm×Tm×Unit)=>tW x.1&&tW x.2.1) [(eS (R3.a g)),(eS (R3.a j))])=true∧(∃ T:Bool,AV.pv (Zj (fun(x:Tm×Tm×Unit)=>R7 x.1 x.2.1) [(eS (R3.a g)),(eS (R3.a j))])=AV.pv (enc T)∧(if (T)=true then if (Str.s (Nd.name (TS.n (R3.a g)))==Str.s (Nd.name (TS.n (R3.a j))))=true then(decide (0<=1)&&decide (Int.toNat 1<List.length (List.map enc (TS.k (R3.a j))))&&Enc.sz Tm==10)=true∧(∃ F:Tm,AV.pv (PV.rptr (PV.cells (List.getD (List.map enc (TS.k (R3.a j))) (Int.toNat 1) default)))=AV.pv (PV.rptr (PV.cells ((enc) F)))∧((decide (0+List.length [Sh.sl 10]<=List.length (List.drop 9 (PV.cells (enc F))))&&XV (List.drop 9 (PV.cells (enc F))) 0 [Sh.sl 10])=true∧(G ((.bool ((↑(List.length (PV.asXs (List.getD (List.drop 9 (PV.cells (enc F))) 0 default))):Int)==2))))))else(G ((.bool false)))else(G ((.bool false)))))else((Go.Pl.preT (fun(x:Tm×Tm×Unit)=>tW x.1&&tW x.2.1) [(eS (R3.a g)),(eS (R3.a z))])=true∧(∃ V:Bool,AV.pv (Zj (fun(x:Tm×Tm×Unit)=>R7 x.1 x.2.1) [(eS (R3.a g)),(eS (R3.a z))])=AV.pv (enc V)∧(if (V)=true then(decide (0<=0)&&decide (Int.toNat 0<List.length (List.map enc (TS.k (R3.a z))))&&Enc.sz Tm==10)=true∧(∃ I:Tm,AV.pv (PV.rptr (PV.cells (List.getD (List.map enc (TS.k (R3.a z))) (Int.toNat 0) default)))=AV.pv (PV.rptr (PV.cells ((enc) I)))∧((decide (0+List.length [Sh.sl 10]<=List.length (List.drop 9 (PV.cells (enc I))))&&XV (List.drop 9 (PV.cells (enc I))) 0 [Sh.sl 10])=true∧(G ((.bool ((↑(List.length (PV.asXs (List.getD (List.drop 9 (PV.cells (enc I))) 0 default))):Int)==2))))))else(G ((.bool false)))))))))))))))))))))))))))))))))))))))))))))))))):Zb FN 0 (Za Ra G) Rp [] (YC 154 [enc x,enc y]):=Zb.tp (dm [dv Bool,dv (List Str),dr Str,dv (R3 TS Int Int),dv Int,dr Tm] 406 0x222222202222122a12200c451022222222222220222222202222122a12200c422222201e45103242929200014222220222220064222022222222009422202222222222200c4281112711127181112711127122220222222202222122a12200c451022222222222220222222202222122a12200c422222201e45103242929200014222220222220064222022222222009422202222222222200c42811127111271811127111271022222222202222121222712220104201f42229220ce429281112711127111620001452) h
theorem b4j: ∀ x:Unit,true=true->Zb OO 0 (Za RA (Zh XN)) TK [] (YC c2j (encL x)):=by
 rintro⟨⟩ _
 exact d1k (ZE (x:=XN) rfl)
theorem a5u: ∀ x:Int×Unit,true=true->Zb RY 0 (Za DC (Zh (Yz x.1))) Dh [] (YC Ed (encL x)):=by
 rintro⟨k,⟨⟩⟩ _
 show Zb RY 0 (Za DC (Zh (Yz k))) Dh [] (YC Ed [.int .i64 k])
 refine d1a k (Yg (fun h=>Yp ?_) fun a=>Yg (fun h=>Yp ?_) fun h1=>Wq (fun h=>Yp ?_) fun h2=>Wq (fun h=>Yp ?_) fun h3=>Yp ?_)
 ·unfold Yz;rw[if_pos h]
 ·unfold Yz;rw[if_neg a,if_pos h]
 ·unfold Yz;rw[if_neg a,if_neg h1,if_pos h]
 ·unfold Yz;rw[if_neg a,if_neg h1,if_neg h2,if_pos h]
 ·unfold Yz;rw[if_neg a,if_neg h1,if_neg h2,if_neg h3]
theorem c5e(x:UInt8): ∃ i:Nat,i<13∧Int.tmod (IntKind.wrap IntKind.i64 (↑(UInt8.toNat x):Int)) 13=(i:Int):=by
 have h:x.toNat<256:=x.toNat_lt
 refine⟨x.toNat % 13,Nat.mod_lt _ (by decide),?_⟩
 rw[Wl (by omega) (by omega),Int.tmod_eq_emod_of_nonneg (by omega)]
 omega
theorem b6d(t:Tm):(decide (0+List.length [Sh.sl 10]<=List.length (List.drop 9 (PV.cells (enc t))))&&XV (List.drop 9 (PV.cells (enc t))) 0 [Sh.sl 10])=true:=by
 obtain⟨n,ks⟩:=t
 rw[XB]
 rfl
theorem a1k(t:Tm):List.length (PV.asXs (List.getD (List.drop 9 (PV.cells (enc t))) 0 default))=t.ks.length:=by
 obtain⟨n,ks⟩:=t
 rw[XB]
 exact List.length_map _
theorem d1j(a b:Str):(tW (Yc a).a&&tW (Yc b).a)=true:=by rw[GL,GL];rfl
theorem a0q(a b:Str):preT (fun(x:Tm×Tm×Unit)=>tW (Prod.fst x)&&tW (Prod.fst (Prod.snd x))) [eS (Uh (Yc a).a),eS (Uh (Yc b).a)]=true:=by
 have ha:=Qd (Yc a).a
 have hb:=Qd (Yc b).a
 refine RJ ((Yc a).a,(Yc b).a,()) ?_ ?_ (d1j a b)
 ·show(is Tm (eS (Uh (Yc a).a))&&(is Tm (eS (Uh (Yc b).a))&&true))=true
  rw[ha.1,hb.1];rfl
 ·show((dec (eS (Uh (Yc a).a)):Tm),(dec (eS (Uh (Yc b).a)):Tm),())=_
  rw[ha.2,hb.2]
theorem Eh(a b:Str):(decL [eS (Uh (Yc a).a),eS (Uh (Yc b).a)]:Tm×Tm×Unit)=((Yc a).a,(Yc b).a,()):=by
 have ha:=Qd (Yc a).a
 have hb:=Qd (Yc b).a
 show((dec (eS (Uh (Yc a).a)):Tm),(dec (eS (Uh (Yc b).a)):Tm),())=_
 rw[ha.2,hb.2]
theorem EN{i:Nat}(hi:i<XN.length):XN[i].s.length<=2:=by
 have : ∀ s∈XN,s.s.length<=2:=by decide
 exact this _ (List.getElem_mem hi)
theorem a6r: ∀ x:UInt8×UInt8×Unit,true=true->Zb FN 0 (Za Ra (Zh true)) Rp [] (YC c1f (encL x)):=by
 rintro⟨x,y,⟨⟩⟩ _
 obtain⟨i,hi,ex⟩:=c5e x
 obtain⟨k,I,Q⟩:=c5e y
 have L:=d5l hi I
 have g:i<XN.length:=hi
 have l:k<XN.length:=I
 have S:syN i=XN[i].s:=by unfold syN;rw[List.getD_eq_getElem?_getD,List.getElem?_eq_getElem g];rfl
 have T:syN k=XN[k].s:=by unfold syN;rw[List.getD_eq_getElem?_getD,List.getElem?_eq_getElem l];rfl
 have P:=EN g
 have M:=EN l
 unfold lvB at L
 rw[S,T]at L
 have j : ∀ s:Str,PV.asStr (List.getD (PV.cells (enc s)) 0 default)=s.s:=fun _=>rfl
 refine d2p x y (Zf () rfl (YV (by decide) (Zf () rfl ?_)))
 rw[show(((List.map enc XN).length:Nat):Int)=13 from rfl,ex,Q]
 generalize ha:XN[i].s=a at L P
 generalize hb:XN[k].s=b at L M
 have r : ∀ u v w:List UInt8,[PV.str (u++PV.asStr (List.getD (PV.cells (enc XN[i])) 0 default)++v++PV.asStr (List.getD (PV.cells (enc XN[k])) 0 default)++w)]=encL ((⟨u++a++v++b++w⟩:Str),()):=fun u v w=>by
  rw[j,j,ha,hb];rfl
 have B : ∀ u v w:List UInt8,u.length+v.length+w.length<=100->decide ((u++a++v++b++w).length<=1048576)=true:=fun u v w h=>decide_eq_true (by simp only[List.length_append];omega)
 have A : ∀ u:List UInt8,u.length<=100->decide (u.length+(PV.asStr (List.getD (PV.cells (enc XN[i])) 0 default)).length<=1099511627776)=true:=fun u h=>decide_eq_true (by rw[j,ha];omega)
 have z : ∀ u v:List UInt8,u.length+v.length<=100->decide ((u++PV.asStr (List.getD (PV.cells (enc XN[i])) 0 default)).length+v.length<=1099511627776)=true:=fun u v h=>decide_eq_true (by rw[j,ha,List.length_append];omega)
 have H : ∀ u v:List UInt8,u.length+v.length<=100->decide ((u++PV.asStr (List.getD (PV.cells (enc XN[i])) 0 default)++v).length+(PV.asStr (List.getD (PV.cells (enc XN[k])) 0 default)).length<=1099511627776)=true:=fun u v h=>decide_eq_true (by rw[j,j,ha,hb,List.length_append,List.length_append];omega)
 have D : ∀ u v w:List UInt8,u.length+v.length+w.length<=100->decide ((u++PV.asStr (List.getD (PV.cells (enc XN[i])) 0 default)++v++PV.asStr (List.getD (PV.cells (enc XN[k])) 0 default)).length+w.length<=1099511627776)=true:=fun u v w h=>decide_eq_true (by rw[j,j,ha,hb,List.length_append,List.length_append,List.length_append];omega)
 refine⟨by decide,by decide,YT g rfl,XQ g ⟨A _ (by decide),z _ _ (by decide),YT l rfl,XQ l ⟨H _ _ (by decide),D _ _ _ (by decide),Zv ((⟨lvP a b⟩:Str),()) (r _ _ _) (B _ _ _ (by decide)),Zf ((⟨lvP a b⟩:Str),()) (r _ _ _) (Zf ((i:Int),()) rfl (Yg (fun h1=>Zf ((k:Int),()) rfl (Yg (fun h2=> ?c33) fun h2=> ?t1)) fun h1=> ?t2))⟩⟩⟩
 case c33=>
  unfold lvC at L
  rw[if_pos ⟨h1,h2⟩]at L
  simp only[Bool.and_eq_true,decide_eq_true_eq]at L
  refine Yg (fun e=>⟨YT g rfl,XQ g ⟨A _ (by decide),z _ _ (by decide),ZV ?_⟩⟩) fun e=>absurd L.1 e
  rw[j,ha]
  exact beq_iff_eq.2 L.2
 case' t1=>have hn : ¬ (Yz i=3∧Yz k=3):=fun e=>h2 e.2
 case' t2=>have hn : ¬ (Yz i=3∧Yz k=3):=fun e=>h1 e.1
 all_goals
  unfold lvC at L
  rw[if_neg hn]at L
  simp only[Bool.and_eq_true,decide_eq_true_eq]at L
  obtain⟨N,J,U,O,L⟩:=L
  refine⟨YT g rfl,XQ g ⟨A _ (by decide),z _ _ (by decide),YT l rfl,XQ l ⟨H _ _ (by decide),D _ _ _ (by decide),Zv ((⟨lvL a b⟩:Str),()) (r _ _ _) (B _ _ _ (by decide)),Zf ((⟨lvL a b⟩:Str),()) (r _ _ _) ⟨YT g rfl,XQ g ⟨A _ (by decide),z _ _ (by decide),YT l rfl,XQ l ⟨H _ _ (by decide),D _ _ _ (by decide),Zv ((⟨lvR a b⟩:Str),()) (r _ _ _) (B _ _ _ (by decide)),Zf ((⟨lvR a b⟩:Str),()) (r _ _ _) (Aa (fun h=>absurd N h) fun _=>Aa (fun h=>absurd J h) fun _=>Aa (fun h=>absurd U h) fun _=>Aa (fun h=>absurd ?_ h) fun _=>Zf ((k:Int),()) rfl (Zf ((i:Int),()) rfl (Wq (fun C=> ?_) fun C=> ?_)))⟩⟩⟩⟩⟩⟩
  ·rw[List.length_map]
   show(((Yc ⟨lvP a b⟩).a.ks.length:Nat):Int)=2
   rw[O];rfl
  ·rw[if_pos (show Yz i<Yz k from C)]at L
   simp only[Bool.and_eq_true,decide_eq_true_eq]at L
   obtain⟨F,K,q⟩:=L
   have h1:1<(Yc ⟨lvR a b⟩).a.ks.length:=by
    rcases Nat.lt_or_ge 1 (Yc ⟨lvR a b⟩).a.ks.length with h|h
    ·exact h
    ·rw[List.getElem?_map,List.getElem?_eq_none h]at q;cases q
   have E:(Yc ⟨lvR a b⟩).a.ks[1].ks.length=2:=by
    rw[List.getElem?_map,List.getElem?_eq_getElem h1]at q
    exact Option.some.inj q
   refine⟨a0q _ _,Hu _ (Eh ⟨lvP a b⟩ ⟨lvR a b⟩) (Yk (fun _=>Yg (fun _=>⟨YT (i:=1) h1 rfl,XQ (i:=1) h1 ⟨b6d _,ZV ?_⟩⟩) fun h=>absurd (congrArg Str.s K) h) fun h=>absurd (show R7 (Yc ⟨lvP a b⟩).a (Yc ⟨lvR a b⟩).a=false from h) (by rw[F];decide))⟩
   rw[a1k]
   show((((Yc ⟨lvR a b⟩).a.ks[1].ks.length:Nat):Int)==2)=true
   rw[E];rfl
  ·rw[if_neg (show ¬ Yz i<Yz k from C)]at L
   simp only[Bool.and_eq_true,decide_eq_true_eq]at L
   obtain⟨F,q⟩:=L
   have h1:0<(Yc ⟨lvL a b⟩).a.ks.length:=by
    rcases Nat.lt_or_ge 0 (Yc ⟨lvL a b⟩).a.ks.length with h|h
    ·exact h
    ·rw[List.getElem?_map,List.getElem?_eq_none h]at q;cases q
   have E:(Yc ⟨lvL a b⟩).a.ks[0].ks.length=2:=by
    rw[List.getElem?_map,List.getElem?_eq_getElem h1]at q
    exact Option.some.inj q
   refine⟨a0q _ _,Hu _ (Eh ⟨lvP a b⟩ ⟨lvL a b⟩) (Yk (fun _=>⟨YT (i:=0) h1 rfl,XQ (i:=0) h1 ⟨b6d _,ZV ?_⟩⟩) fun h=>absurd (show R7 (Yc ⟨lvP a b⟩).a (Yc ⟨lvL a b⟩).a=false from h) (by rw[F];decide))⟩
   rw[a1k]
   show((((Yc ⟨lvL a b⟩).a.ks[0].ks.length:Nat):Int)==2)=true
   rw[E];rfl
end Go.Pl
