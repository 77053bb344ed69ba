/-
  Texts of mine that belong together (packed by pack.py), for every input: TyYp, QYm, QYn, GYe, TyYq, QYp, GYv, QYv, QYw, TyJi, GJl, QJl, QJm, TyJa, TyJb, TyJd, TyJw, GJw, GJc, GJb, GJa, QJa, TyJc, QJb, TyJe, TyJf, TyJg, TyJh, QJn, VwX, TyAk, VwN, QJw, TyJv, TyJz, TyKa, TyKc, TyKf, TyKg, TyKm, TySy, TySz, TySw, TySv, TySu, TySr, TySq, TyKb, TyKd, TyKn, TyKo, TyKp, TyKq, TyKr, GJs, GJy, QJy, QJs.
-/
import Derived.Test.YtgclceacfcdigaaGreatDoorChecked
import Derived.Test.YtgclceacfcdigaaGreatDoorKD2
import Derived.Test.YtgclceacfcdigaaGreatDoorKD3
import Derived.Test.YtgclceacfcdigaaGreatDoorKD4
import Derived.KernelRfl
set_option linter.unusedVariables false
set_option linter.unusedSimpArgs false
set_option linter.defProp false
namespace Go.Pl
open Go.RowKit
section
theorem c1i: ∀ ks:List Tm,Bg ks=(ks.map KT).sum
 | []=>by rw[Bg];rfl
 | k::ks=>by rw[Bg,c1i ks];rfl
theorem VK(n:Nd)(ks:List Tm):KT (.mk n ks)=wNd n+(ks.map KT).sum:=by rw[KT,c1i]
theorem f5b(k ln num:Int)(n:Str):wNd {Jp k ln n with num:=num}=n.s.length+1:=by
 show n.s.length+0+0+0+0+0+1=_
 omega
theorem TH(k ln:Int)(n:Str):wNd (Jp k ln n)=n.s.length+1:=f5b k ln 0 n
theorem h3h(k ln:Int):wNd (ndK k ln)=1:=rfl
theorem e1j(ln num:Int)(n:Str)(sz:List Lin)(e:List Int):wNd {nd0 with kind:=6,line:=ln,name:=n,num:=num,sizes:=sz,ranks:=e}=n.s.length+e.length+(sz.map Rq).sum+1:=by
 show n.s.length+0+0+0+e.length+(sz.map Rq).sum+1=_
 omega
theorem f2r(ln:Int)(a:Arr):wNd {ndK 3 ln with elem:=a.e,dims:=a.d,data:=a.x}=a.e.s.length+a.d.length+a.x.length+1:=by
 show 0+a.e.s.length+a.d.length+a.x.length+0+0+1=_
 omega
theorem e1z(ln:Int)(l:Lin):wNd {ndK 4 ln with sizes:=[l]}=Rq l+1:=by
 show 0+0+0+0+0+(Rq l+0)+1=_
 omega
theorem c2e: ∀ (n:Nat) {s:PS} {o:List Int},s.i<=s.l.length->(numsP n s o).2.bad=false->(numsP n s o).1.length+s.i<=o.length+(numsP n s o).2.i
 | 0,s,o,_,_=>Nat.le_refl _
 | n+1,s,o,hi,h=>by
  rw[numsP]at h ⊢
  split at h
  ·rename_i h1
   rw[if_pos h1]
   have e:=Ge.num (m:=2147483648) hi
   have g:=Ge.numsP n (o:=o++[(s.num 2147483648).1]) e.hi
   have n1:=QH (g.good h)
   have w:=c2e n (o:=o++[(s.num 2147483648).1]) e.hi h
   rw[List.length_append]at w
   simp only[List.length_cons,List.length_nil]at w
   omega
  ·rename_i h1;rw[if_neg h1];exact Nat.le_refl _
theorem e2k: ∀ (n:Nat) {s:PS} {o:List Int},s.i<=s.l.length->(datP n s o).2.bad=false->(datP n s o).1.length+s.i<=o.length+(datP n s o).2.i
 | 0,s,o,_,_=>Nat.le_refl _
 | n+1,s,o,hi,h=>by
  rw[datP]at h ⊢
  split at h
  ·rename_i h1;rw[if_pos h1];exact Nat.le_refl _
  ·rename_i h1
   rw[if_neg h1]
   split at h
   ·rename_i h2;rw[if_pos h2];exact Nat.le_refl _
   ·rename_i h2
    rw[if_neg h2]
    have e:=Ge.sgs hi
    have g:=Ge.num (m:=2147483648) e.hi
    have j:=Ge.datP n (o:=o++[IntKind.i64.wrap (s.sgn*(s.sgs.num 2147483648).1)]) g.hi
    have n1:=QH (j.good h)
    have w:=e2k n (o:=o++[IntKind.i64.wrap (s.sgn*(s.sgs.num 2147483648).1)]) g.hi h
    have e0:=e.le
    rw[List.length_append]at w
    simp only[List.length_cons,List.length_nil]at w
    omega
theorem g9w{s:PS}(hi:s.i<=s.l.length)(h:s.arr.2.bad=false):s.arr.1.e.s.length+s.arr.1.d.length+s.arr.1.x.length+s.i<=4+s.arr.2.i:=by
 have k0:=Ge.ar0 hi
 have k:=Ge.ar1 hi
 have y:=Ge.ar2 hi
 have k2':Ge s.ar1 s.ar2.2:=Ge.numsP _ k.hi
 have j:=Ge.need (w:=⟨[58]⟩) y.hi
 have g:Ge (s.ar2.2.need ⟨[58]⟩) s.ar3.2:=Ge.datP _ j.hi
 have r:=Ge.need (w:=⟨[93]⟩) g.hi
 have q:s.ar3.2.bad=false:=r.good h
 have z:=g.good q
 have A:=j.good z
 have D:s.ar3.1.length+(s.ar2.2.need ⟨[58]⟩).i<=([]:List Int).length+s.ar3.2.i:=e2k _ j.hi q
 have E:s.ar2.1.length+s.ar1.i<=([]:List Int).length+s.ar2.2.i:=c2e _ k.hi A
 have e1:=k.le
 have e2:=j.le
 have e3:=r.le
 have el:s.arr.1.e.s.length<=4:=by
  show(⟨if s.arB then XN else Vp⟩:Str).s.length<=4
  cases s.arB <;> decide
 have B:s.arr.1.d=s.ar2.1:=rfl
 have u:s.arr.1.x=s.ar3.1:=rfl
 have C:s.arr.2.i=(s.ar3.2.need ⟨[93]⟩).i:=rfl
 rw[B,u,C]
 simp only[List.length_nil]at E D
 omega
theorem ones(l:List Int):(l.map fun _=>1).sum=l.length:=by
 induction l with
 | nil=>rfl
 | cons a l ih=>simp only[List.map_cons,List.sum_cons,List.length_cons,ih];omega
theorem f3q{s:PS}(g:ZI s.l=true)(hi:s.i<=s.l.length)(h:s.sizesN.2.bad=false):(s.sizesN.1.map Rq).sum+260*s.i<=260*s.sizesN.2.i:=by
 unfold PS.sizesN at h ⊢
 split at h
 ·rename_i h1
  rw[if_pos h1]
  have k:=Ge.step (Zc h1)
  have r:=Ge.list (one:=PS.linear) (fun s h=>Ge.linear h) k.hi
  have q:=Ge.need (w:=⟨[93]⟩) r.hi
  have w:=a6j (one:=PS.linear) (B:=fun _=>True) (f:=Rq) (e:=130) (by omega) (fun _ _ _ _=>trivial) (fun s _ h=>Ge.linear h) (fun s g _ hi h=>f8k g hi h) (s:=s.step) g trivial k.hi (q.good h)
  have j:=(c5u h).2
  have e1:s.step.i=s.i+1:=rfl
  show((listL PS.linear s.step).1.map Rq).sum+260*s.i<=260*((listL PS.linear s.step).2.need ⟨[93]⟩).i
  have j:((listL PS.linear s.step).2.need ⟨[93]⟩).i=(listL PS.linear s.step).2.i+1:=j
  omega
 ·rename_i h1;rw[if_neg h1];exact Nat.le_of_eq (Nat.zero_add _)
theorem e9k{s:PS}(k:ZI s.l=true)(hi:s.i<=s.l.length)(h:s.ranksN.2.bad=false):s.ranksN.1.length+260*s.i<=260*s.ranksN.2.i:=by
 unfold PS.ranksN at h ⊢
 split at h
 ·rename_i h1
  rw[if_pos h1]
  have j:=Ge.step (Zc h1)
  have g:=Ge.need (w:=⟨[40]⟩) j.hi
  have r:=Ge.list (one:=PS.numM) (fun s h=>Ge.num h) g.hi
  have q:=Ge.need (w:=⟨[41]⟩) r.hi
  have w:=a6j (one:=PS.numM) (B:=fun _=>True) (f:=fun _=>1) (e:=0) (by omega) (fun _ _ _ _=>trivial) (fun s _ h=>Ge.num h) (fun s k _ hi h=>by have:=QH (s:=s) (m:=2147483648) h;show 1+260*s.i<=260*(s.num 2147483648).2.i+0;omega) (s:=s.step.need ⟨[40]⟩) (by rw[g.l,j.l];exact k) trivial g.hi (q.good h)
  rw[ones]at w
  have e1:=j.le
  have e2:=g.le
  have e4:=q.le
  show(listL PS.numM (s.step.need ⟨[40]⟩)).1.length+260*s.i<=260*((listL PS.numM (s.step.need ⟨[40]⟩)).2.need ⟨[41]⟩).i
  omega
 ·rename_i h1;rw[if_neg h1];exact Nat.le_of_eq (Nat.zero_add _)
def WX(N:Nat)(ex:PS->Tm×PS):Prop:= ∀ s,ZI s.l=true->Yb N s->s.i<=s.l.length->(ex s).2.bad=false->KT (ex s).1+260*s.i<=260*(ex s).2.i
def WU(N:Nat)(un:PS->(Tm×Int)×PS):Prop:= ∀ s,ZI s.l=true->Yb N s->s.i<=s.l.length->(un s).2.bad=false->KT (un s).1.1+260*s.i<=260*(un s).2.i
section
variable {N:Nat} {ex:PS->Tm×PS}
theorem d2f(g:Hf N ex)(u:WX N ex){s:PS}(r:ZI s.l=true)(j:Yb N s)(hi:s.i<=s.l.length)(h:(listL ex s).2.bad=false):((listL ex s).1.map KT).sum+260*s.i<=260*(listL ex s).2.i:=
 a6j (one:=ex) (B:=Yb N) (f:=KT) (e:=0) (by omega) (fun s t h k=>h.ge k) (fun s h k=>g s h k) (fun s q b i h=>u s q b i h) r j hi h
theorem g1w(j:Hf N ex)(D:WX N ex){s:PS}(z:ZI s.l=true)(y:Yb N s)(hi:s.i<=s.l.length)(h:(XZ ex s).2.bad=false):((XZ ex s).1.map KT).sum+260*s.i<=260*(XZ ex s).2.i:=by
 have e:=Ge.need (w:=⟨[40]⟩) hi
 have A:=Ge.need (w:=⟨[41]⟩) e.hi
 have e1:=e.le
 have e3:=A.le
 unfold XZ at h ⊢
 split at h
 ·rename_i q;rw[if_pos q];show 0+260*s.i<=260*((s.need ⟨[40]⟩).need ⟨[41]⟩).i;omega
 ·rename_i q
  rw[if_neg q]
  split at h
  ·rename_i g;rw[if_pos g];show 0+260*s.i<=260*((s.need ⟨[40]⟩).need ⟨[41]⟩).i;omega
  ·rename_i g
   rw[if_neg g]
   have u:=y.ge e
   have C:=Ge.listL (B:=Yb N) (fun s t h k=>h.ge k) (fun s h k=>j s h k) u e.hi
   have r:=Ge.need (w:=⟨[41]⟩) C.hi
   have w:=d2f j D (by rw[e.l];exact z) u e.hi (r.good h)
   have e4:=r.le
   show((listL ex (s.need ⟨[40]⟩)).1.map KT).sum+260*s.i<=260*((listL ex (s.need ⟨[40]⟩)).2.need ⟨[41]⟩).i
   omega
theorem f0q(q:Hf N ex)(D:WX N ex){ln:Int}{n:Str}{s:PS}(j:ZI s.l=true)(A:Yb N s)(hi:s.i<=s.l.length)(h:(Vs ex ln n s).2.bad=false):KT (Vs ex ln n s).1+260*s.i<=n.s.length+1+260*(Vs ex ln n s).2.i:=by
 have k:=Ge.sizesN hi
 have e:=Ge.frameN k.hi
 have g:=Ge.ranksN e.hi
 have y:=k.trans (e.trans g)
 have z:=A.ge y
 have B:=Ge.kids q z g.hi
 have u:(XZ ex s.sizesN.2.frameN.2.ranksN.2).2.bad=false:=h
 have r:=B.good u
 have C:=g.good r
 have b1:=e.good C
 have w1:=f3q j hi b1
 have w3:=e9k (s:=s.sizesN.2.frameN.2) (by rw[e.l,k.l];exact j) e.hi r
 have w4:=g1w q D (s:=s.sizesN.2.frameN.2.ranksN.2) (by rw[y.l];exact j) z g.hi u
 have e2:=e.le
 show KT (.mk {nd0 with kind:=6,line:=ln,name:=n,num:=s.sizesN.2.frameN.1,sizes:=s.sizesN.1,ranks:=s.sizesN.2.frameN.2.ranksN.1} (XZ ex s.sizesN.2.frameN.2.ranksN.2).1)+260*s.i<=n.s.length+1+260*(XZ ex s.sizesN.2.frameN.2.ranksN.2).2.i
 rw[VK,e1j]
 omega
theorem f4s(j:Hf N ex)(B:WX N ex){s:PS}(e:ZI s.l=true)(r:Yb (N+1) s)(C:(s.peek 0).k=1)(h:(Xd ex s).2.bad=false):KT (Xd ex s).1+260*s.i<=260*(Xd ex s).2.i:=by
 have hi:=YU (s:=s) (by omega)
 have z:=Ge.step hi
 have h1:=Ge.func1 C
 have u:=z.trans h1
 unfold Xd at h ⊢
 split at h
 ·rename_i q
  rw[if_pos q]
  have y:=RH e (by omega) h
  rw[VK,TH]
  show s.func.1.s.length+1+0+260*s.i<=260*s.func.2.i
  omega
 ·rename_i q
  rw[if_neg q]
  have g:Yb N s.func.2:=(r.step hi).ge h1
  have A:=Ge.callB j (ln:=(s.peek 0).ln) (n:=s.func.1) g h1.hi
  have y:=RH e (by omega) (A.good h)
  have w:=f0q j B (ln:=(s.peek 0).ln) (n:=s.func.1) (s:=s.func.2) (by rw[u.l];exact e) g h1.hi h
  omega
theorem g4t(y:Hf N ex)(H:WX N ex){ln:Int}{s:PS}(k:ZI s.l=true)(I:Yb N s)(hi:s.i<=s.l.length)(h:(C8 ex ln s).2.bad=false):KT (C8 ex ln s).1+260*s.i<=260*(C8 ex ln s).2.i:=by
 have j:=Ge.need (w:=⟨[40]⟩) hi
 have F:=Ge.func j.hi
 have e:=Ge.need (w:=⟨[44]⟩) F.hi
 have q:=j.trans (F.trans e)
 have u:=I.ge q
 have r:=y _ u e.hi
 have g:=Ge.need (w:=⟨[44]⟩) r.hi
 have B:=r.trans g
 have z:=u.ge B
 have C:=y _ z g.hi
 have A:=Ge.need (w:=⟨[41]⟩) C.hi
 have E:=A.good h
 have K:=C.good E
 have D:=g.good K
 have J:=r.good D
 have n1:=RH (s:=s.need ⟨[40]⟩) (by rw[j.l];exact k) j.hi (e.good J)
 have w4:=H _ (by rw[q.l];exact k) u e.hi D
 have w6:=H _ (by rw[B.l,q.l];exact k) z g.hi E
 have e1:=j.le
 have e3:=e.le
 have e5:=g.le
 have e7:=A.le
 unfold C8
 dsimp only
 rw[VK,TH]
 simp only[List.map_cons,List.map_nil,List.sum_cons,List.sum_nil]
 omega
theorem g6m(A:Hf N ex)(D:WX N ex){ln:Int}{s:PS}(j:ZI s.l=true)(B:Yb N s)(hi:s.i<=s.l.length)(h:(Bo ex ln s).2.bad=false):KT (Bo ex ln s).1+260*s.i<=260*(Bo ex ln s).2.i:=by
 have g:=Ge.need (w:=⟨[40]⟩) hi
 have z:=Ge.func g.hi
 have e:=Ge.need (w:=⟨[44]⟩) z.hi
 have q:=g.trans (z.trans e)
 have u:=B.ge q
 have r:=A _ u e.hi
 have k:=Ge.need (w:=⟨[41]⟩) r.hi
 have y:=k.good h
 have C:=r.good y
 have n1:=RH (s:=s.need ⟨[40]⟩) (by rw[g.l];exact j) g.hi (e.good C)
 have w4:=D _ (by rw[q.l];exact j) u e.hi y
 have e1:=g.le
 have e3:=e.le
 have e5:=k.le
 unfold Bo
 dsimp only
 rw[VK,TH]
 simp only[List.map_cons,List.map_nil,List.sum_cons,List.sum_nil]
 omega
theorem f3e{ln:Int}{s:PS}(j:ZI s.l=true)(hi:s.i<=s.l.length)(h:(Jz ln s).2.bad=false):KT (Jz ln s).1+260*s.i<=260*(Jz ln s).2.i:=by
 have e:=Ge.need (w:=⟨[91]⟩) hi
 have q:=Ge.linear e.hi
 have k:=Ge.need (w:=⟨[93]⟩) q.hi
 have g:=(c5u h).2
 have w:=f8k (s:=s.need ⟨[91]⟩) (by rw[e.l];exact j) e.hi (k.good h)
 have e1:=e.le
 unfold Jz at g ⊢
 dsimp only at g ⊢
 rw[VK,e1z]
 show Rq (s.need ⟨[91]⟩).linear.1+1+0+260*s.i<=260*((s.need ⟨[91]⟩).linear.2.need ⟨[93]⟩).i
 omega
end
section
variable {N:Nat} {ex:PS->Tm×PS}
theorem g5t(r:Hf N ex)(D:WX N ex){s:PS}(u:ZI s.l=true)(y:Yb (N+1) s)(hi:s.i<=s.l.length)(h:(Xe ex s).2.bad=false):KT (Xe ex s).1+260*s.i<=260*(Xe ex s).2.i:=by
 by_cases q1:(s.peek 0).k=3
 ·rw[show Xe ex s=(.mk {Jp 2 (s.peek 0).ln ⟨Vp⟩with num:=(s.num 2147483647).1} [],(s.num 2147483647).2)from if_pos q1]at h ⊢
  have n:=QH h
  rw[VK,f5b]
  show 3+1+0+260*s.i<=260*(s.num 2147483647).2.i
  omega
 by_cases q2:(s.peek 0).k=1
 ·rw[show Xe ex s=Xd ex s from(if_neg q1).trans (if_pos q2)]at h ⊢
  exact f4s r D u y q2 h
 unfold Xe at h ⊢
 dsimp only at h ⊢
 rw[if_neg q1,if_neg q2]at h ⊢
 split at h
 ·rename_i q;rw[if_pos q,VK,f5b]
  show 4+1+0+260*s.i<=260*(s.i+1)
  omega
 ·rename_i q;rw[if_neg q]
  split at h
  ·rename_i q;rw[if_pos q,VK,TH]
   show 4+1+0+260*s.i<=260*(s.i+1)
   omega
  ·rename_i q;rw[if_neg q]
   split at h
   ·rename_i q;rw[if_pos q]
    have g:=Zc q
    have j:=Ge.step g
    have A:=y.step g
    have C:=r _ A j.hi
    have z:=Ge.need (w:=⟨[41]⟩) C.hi
    have w:=D s.step u A j.hi (z.good h)
    have F:=z.le
    have E:s.step.i=s.i+1:=rfl
    show KT (ex s.step).1+260*s.i<=260*((ex s.step).2.need ⟨[41]⟩).i
    omega
   ·rename_i q;rw[if_neg q]
    split at h
    ·rename_i q;rw[if_pos q]
     have g:=Zc q
     have j:=Ge.step g
     have A:=y.step g
     have C:=Ge.listL (B:=Yb N) (fun s t h k=>h.ge k) (fun s h k=>r s h k) A j.hi
     have z:=Ge.need (w:=⟨[93]⟩) C.hi
     have w:=d2f r D (s:=s.step) u A j.hi (z.good h)
     have F:=z.le
     have E:s.step.i=s.i+1:=rfl
     rw[VK,h3h]
     show 1+((listL ex s.step).1.map KT).sum+260*s.i<=260*((listL ex s.step).2.need ⟨[93]⟩).i
     omega
    ·rename_i q;rw[if_neg q]
     have E:s.step.i=s.i+1:=rfl
     split at h
     ·rename_i q;rw[if_pos q]
      have g:=Zc q
      have w:=g4t r D (ln:=(s.peek 0).ln) (s:=s.step) u (y.step g) (Ge.step g).hi h
      omega
     ·rename_i q;rw[if_neg q]
      split at h
      ·rename_i q;rw[if_pos q]
       have g:=Zc q
       have w:=g6m r D (ln:=(s.peek 0).ln) (s:=s.step) u (y.step g) (Ge.step g).hi h
       omega
      ·rename_i q;rw[if_neg q]
       split at h
       ·rename_i q;rw[if_pos q]
        have g:=Zc q
        have w:=f3e (ln:=(s.peek 0).ln) (s:=s.step) u (Ge.step g).hi h
        omega
       ·rename_i q;rw[if_neg q]
        split at h
        ·rename_i q;rw[if_pos q]
         have g:=Zc q
         have j:=Ge.step g
         have C:=Ge.arr j.hi
         have e2:=C.le
         have w:=g9w (s:=s.step) j.hi h
         rw[VK,f2r]
         show s.step.arr.1.e.s.length+s.step.arr.1.d.length+s.step.arr.1.x.length+1+0+260*s.i<=260*s.step.arr.2.i
         omega
        ·cases h
theorem c1u(w:Str)(u:Bool):(Hr w u).a.s.length<=61:=by
 unfold Hr
 split
 ·rename_i r hr
  have h1:r∈KL:=List.mem_of_find?_eq_some hr
  have h2 : ∀ r∈KL,r.n.length<=61:=by decide
  exact h2 r h1
 ·exact Nat.zero_le _
theorem h0f(r:Hf N ex)(y:WX N ex){un:PS->(Tm×Int)×PS}(hu:Rs N un)(u:WU N un){s:PS}(k:ZI s.l=true)(j:Yb (N+1) s)(hi:s.i<=s.l.length)(h:(V8 ex un s).2.bad=false):KT (V8 ex un s).1.1+260*s.i<=260*(V8 ex un s).2.i:=by
 have e1:s.step.i=s.i+1:=rfl
 unfold V8 at h ⊢
 dsimp only at h ⊢
 split at h
 ·rename_i q
  rw[if_pos q]
  have n:=QH h
  rw[VK,f5b]
  show 3+1+0+260*s.i<=260*(s.step.num 2147483648).2.i
  omega
 ·rename_i q
  rw[if_neg q]
  split at h
  ·rename_i e
   rw[if_pos e]
   have g:s.i<s.l.length:=by
    simp only[Bool.or_eq_true]at e
    rcases e with e|e
    ·exact Zc e
    ·exact Zc e
   have w:=u s.step k (j.step g) (Ge.step g).hi h
   have l1:=c1u (s.peek 0).t true
   rw[VK,TH]
   simp only[List.map_cons,List.map_nil,List.sum_cons,List.sum_nil]
   show(Hr (s.peek 0).t true).a.s.length+1+(KT (un s.step).1.1+0)+260*s.i<=260*(un s.step).2.i
   omega
  ·rename_i e
   rw[if_neg e]
   exact g5t r y k j hi h
theorem d4k(s:PS):s.oper.1.1.s.length<=61:=by
 unfold PS.oper
 split
 ·exact c1u _ _
 ·exact Nat.zero_le _
theorem a9u{fr:PS->(Tm×Int)×PS}{lev ln:Int}(y:lev≠0)(hu:Rs (N+1) fr)(k:WU (N+1) fr): ∀ (n:Nat) {s:PS} {l:Tm},ZI s.l=true->Yb (N+1) s->s.i<=s.l.length->(opLoop fr lev ln n s l).2.bad=false->KT (opLoop fr lev ln n s l).1.1+260*s.i<=KT l+260*(opLoop fr lev ln n s l).2.i
 | 0,s,l,_,_,_,_=>Nat.le_refl _
 | n+1,s,l,hl,hf,hi,h=>by
  rw[opLoop]at h ⊢
  split at h
  ·rename_i q;rw[if_pos q];exact Nat.le_refl _
  ·rename_i q
   rw[if_neg q]
   split at h
   ·rename_i q;rw[if_pos q];exact Nat.le_refl _
   ·rename_i A
    rw[if_neg A]
    have u:=Dr (s:=s) (by omega)
    have j:=Ge.step u
    have e:=hf.ge j
    have g:=hu _ e j.hi
    have l1:=d4k s
    have e1:s.step.i=s.i+1:=rfl
    split at h
    ·rename_i r
     rw[if_pos r]
     have w:=k s.step hl e j.hi h
     rw[VK,TH]
     simp only[List.map_cons,List.map_nil,List.sum_cons,List.sum_nil]
     show s.oper.1.1.s.length+1+(KT l+(KT (fr s.step).1.1+0))+260*s.i<=KT l+260*(fr s.step).2.i
     omega
    ·rename_i r
     rw[if_neg r]
     have B:=Ge.opLoop (ln:=ln) y hu n (l:=.mk (Jp 6 ln s.oper.1.1) [l,(fr s.step).1.1]) (e.ge g) g.hi
     have w:=k s.step hl e j.hi (B.good h)
     have z:=a9u y hu k n (l:=.mk (Jp 6 ln s.oper.1.1) [l,(fr s.step).1.1]) (by rw[g.l];exact hl) (e.ge g) g.hi h
     rw[VK,TH]at z
     simp only[List.map_cons,List.map_nil,List.sum_cons,List.sum_nil]at z
     omega
theorem b3z{un:PS->(Tm×Int)×PS}(hu:Rs (N+1) un)(j:WU (N+1) un): ∀ d:Nat,d<=5->WU (N+1) (Yt un d)
 | 0,_=>j
 | d+1,hd=>fun s k g hi h=>by
  have i:=Ge.from hu d (by omega)
  have e:=i s g hi
  have q:=Ge.opLoop (ln:=(Yt un d s).1.2) (lev:=5 - (d:Int)) (by omega) i (s.l.length+1) (l:=(Yt un d s).1.1) (g.ge e) e.hi
  rw[Yt]at h ⊢
  have w1:=b3z hu j d (by omega) s k g hi (q.good h)
  have w2:=a9u (lev:=5 - (d:Int)) (by omega) i (b3z hu j d (by omega)) (s.l.length+1) (l:=(Yt un d s).1.1) (by rw[e.l];exact k) (g.ge e) e.hi h
  omega
theorem g8b(z:Hf N ex)(F:WX N ex){un:PS->(Tm×Int)×PS}(hu:Rs (N+1) un)(J:WU (N+1) un){s:PS}(k:ZI s.l=true)(A:Yb (N+1) s)(hi:s.i<=s.l.length)(h:(exB ex un s).2.bad=false):KT (exB ex un s).1+260*s.i<=260*(exB ex un s).2.i:=by
 unfold exB at h ⊢
 dsimp only at h ⊢
 split at h
 ·rename_i q
  rw[if_pos q]
  have j:=Zc q
  have M:=Ge.step j
  have L:=A.step j
  have E:=Ge.name M.hi
  have e:=Ge.need (w:=⟨[61]⟩) E.hi
  have r:=E.trans e
  have y:=L.ge r
  have u:=z _ y e.hi
  have g:=Ge.need (w:=⟨[105,110]⟩) u.hi
  have C:=u.trans g
  have B:=y.ge C
  have K:=z _ B g.hi
  have I:=K.good h
  have D:=g.good I
  have H:=u.good D
  have n1:=Ai (s:=s.step) k (e.good H)
  have w4:=F _ (by rw[r.l];exact k) y e.hi D
  have w6:=F _ (by rw[C.l,r.l];exact k) B g.hi h
  have e1:s.step.i=s.i+1:=rfl
  have e3:=e.le
  have e5:=g.le
  rw[VK,TH]
  simp only[List.map_cons,List.map_nil,List.sum_cons,List.sum_nil]
  omega
 ·rename_i q
  rw[if_neg q]
  exact b3z hu J 5 (by omega) s k A hi h
end
theorem Ns: ∀ N,WX N (ZZ N)∧WU N (Qm N)
 | 0=>⟨fun t _ e=>by unfold Yb at e;omega,fun t _ e=>by unfold Yb at e;omega⟩
 | N+1=>by
  obtain⟨l,q⟩:=Ns N
  obtain⟨k,hu⟩:=XJ N
  have i:=(XJ (N+1)).2
  have g:WU (N+1) (Qm (N+1)):=fun t j e hi h=>by
   rw[Q3]at h ⊢
   exact h0f k l hu q j e hi h
  exact⟨fun t j e hi h=>by
   rw[UB]at h ⊢
   exact g8b k l i g j e hi h,g⟩
theorem C9{s:PS}(hs:Zb s=true)(q:ZI s.l=true)(h:s.expr.2.bad=false):tW s.expr.1=true:=by
 have h1:=Zm hs
 have j:Yb 4001 s:=by unfold Yb;omega
 have w:=(Ns 4001).1 s q j h1.2 h
 have k:=Ge.expr j h1.2
 have e:=k.hi
 have g:=k.l
 unfold tW
 refine decide_eq_true ?_
 have w:KT s.expr.1+260*s.i<=260*s.expr.2.i:=w
 have e:s.expr.2.i<=s.expr.2.l.length:=e
 have g:s.expr.2.l=s.l:=g
 rw[g]at e
 omega
end
open Enc (enc dec is)
open EncL (encL decL isL)
theorem e9o: ∀ (s:PS) (a:Unit),Zb s=true->Zj e1d 1 (Zz 1 b5d (ZK [] [] (Om s a).1 (Om s a).2)) b6i [] (Z8 g3c (ZF a) ([]++[Zi s])):=by
 rintro s ⟨⟩ hs
 show Zj e1d 1 (Zz 1 b5d (ZK [] [] () s.endp)) b6i [] _
 unfold PS.endp
 refine g9j s (Yo (fun h=>JQ hs ?_) fun h=> ?_)
 ·rw[if_pos (by rw[List.length_map]at h;omega)];exact Zg c7w
 ·rw[if_neg (by rw[List.length_map]at h;omega)];exact Zg c7w
theorem TG{s:PS}{K:Unit->PS->Prop}(hs:Zb s=true)(h:K () s.endp):WR ZF Y5 [] [] (fun(s:PS) (_:Unit)=>Zb s) Om [.ptr 0 0] [Zi s] K:=YT ZR s () rfl rfl hs h
theorem e7k(s:List UInt8):Zj c4e 0 (Ye 0 a1e (fun r=>r=EU [.pv (.str s)] [])) a2t [] (Z8 d9b [.pv (.str s)] []):=
 h0h s ⟨Zo ((⟨s⟩:Str),()) rfl rfl,Zf ((⟨s⟩:Str),()) rfl rfl⟩
theorem a5s{s:PS}{K:TS->PS->Prop}(hs:Zb s=true)(h:K (GH s.expr.1) s.expr.2):WR ZF Y5 [] [] (fun(s:PS) (_:Unit)=>Zb s) EI [.ptr 0 0] [Zi s] K:=YT ZR s () rfl rfl hs h
theorem Ws{α:Type}[Enc α]{x:α}{a b:Int}{p:PV}(h:Ze x p):Ze (⟨x,a,b⟩:R3 α Int Int) (.tup [p,.int .i64 a,.int .i64 b]):=by
 refine⟨?_,?_⟩
 ·show(is α p&&true&&true)=true
  rw[h.1];rfl
 ·show(⟨dec p,a,b⟩:R3 α Int Int)=⟨x,a,b⟩
  rw[h.2]
theorem c1q{f:Tm->Bool}{t:Tm}{p:PV}(h:Ze t p)(k:f t=true):preT (fun x:Tm×Unit=>f x.1) [p]=true:=a5d (t,()) (by show(is Tm p&&true)=true;rw[h.1];rfl) (by show((dec p:Tm),())=_;rw[h.2]) k
theorem f1s{β:Type}[Enc β]{f:Tm->β}{t:Tm}{p:PV}{P:β->Prop}(h:Ze t p)(k:P (f t)): ∃ y,AV.pv (Zt (fun x:Tm×Unit=>f x.1) [p])=AV.pv (enc y)∧P y:=PL (t,()) (by show((dec p:Tm),())=_;rw[h.2]) k
theorem Vo{w:List UInt8}{ln:Int}{o:List Pm}{g:Bool}{ty:TyS}{t:Tm}{p e r d b0 b1 q h u l y i j s:PV}(h1:Ze o p)(h2:Ze ty.elem e)(h3:Ze ty.row r)(B:Ze ty.dims d)(ht:Ze (GH t) (.agg [b0,b1,q,h,u,l,y,i,j,s])):Ze (Hl ⟨w⟩ ln o (g,ty) t) (.agg [.str w,.int .i64 ln,p,.bool g,e,r,d,b0,b1,q,h,u,l,y,i,j,s]):=by
 obtain⟨n,ks⟩:=t
 obtain⟨A,z⟩:=ht
 have A:(is Int b0&&is Int b1&&is Str q&&is Int h&&is Str u&&is (List Int) l&&is (List Int) y&&is (List Lin) i&&is (List Int) j&&is (List Tm) s)=true:=A
 have z:(⟨⟨dec b0,dec b1,dec q,dec h,dec u,dec l,dec y,dec i,dec j⟩,dec s⟩:TS)=⟨n,ks⟩:=z
 have F:(⟨dec b0,dec b1,dec q,dec h,dec u,dec l,dec y,dec i,dec j⟩:Nd)=n:=congrArg TS.n z
 have C:(dec s:List Tm)=ks:=congrArg TS.k z
 simp only[Bool.and_eq_true]at A
 obtain⟨⟨⟨⟨⟨⟨⟨⟨⟨E,D⟩,a2⟩,a3⟩,a4⟩,a5⟩,a6⟩,a7⟩,a8⟩,a9⟩:=A
 refine⟨?_,?_⟩
 ·show(true&&true&&is (List Pm) p&&true&&is Str e&&is Str r&&is (List Lin) d&&is Int b0&&is Int b1&&is Str q&&is Int h&&is Str u&&is (List Int) l&&is (List Int) y&&is (List Lin) i&&is (List Int) j&&is (List Tm) s)=true
  rw[h1.1,h2.1,h3.1,B.1,E,D,a2,a3,a4,a5,a6,a7,a8,a9]
  rfl
 ·show(⟨⟨w⟩,ln,dec p,g,⟨dec e,dec r,dec d⟩,⟨dec b0,dec b1,dec q,dec h,dec u,dec l,dec y,dec i,dec j⟩,dec s⟩:Df)=⟨⟨w⟩,ln,o,g,ty,n,ks⟩
  rw[h1.2,h2.2,h3.2,B.2,F,C]
theorem c3d:Ze (GH (Tm.mk nd0 [])) (.agg [.int .i64 0,.int .i64 0,.str [],.int .i64 0,.str [],.sl 0 true [],.sl 0 true [],.sl 0 true [],.sl 0 true [],.sl 0 true []]):=Ga (YL rfl) (YL rfl) (Zy rfl) (YL rfl) (Zy rfl) Zk Zk Zk Zk Zk
theorem Pe{s:PS}{d:Tm->Df}(h:s.bad=true):s.dfE d=((d (.mk nd0 []),false),s):=if_pos h
theorem a0s{s:PS}{d:Tm->Df}(h:s.bad=false)(h2:s.expr.2.bad=true):s.dfE d=((d s.expr.1,false),s.expr.2):=(if_neg (by rw[h];decide)).trans (if_pos h2)
theorem Uc{s:PS}{d:Tm->Df}(h:s.bad=false)(h2:s.expr.2.bad=false):s.dfE d=((d s.expr.1,s.expr.2.big||(!(YB s.expr.1)||(decide ((d s.expr.1).ps.length>8)||decide ((d s.expr.1).line>10000)))),s.expr.2):=(if_neg (by rw[h];decide)).trans (if_neg (by rw[h2];decide))
theorem e3k{w:List UInt8}{ln:Int}{o:List Pm}{e r:List UInt8}{d:List Lin}{s:PS}(hs:Zb s=true)(q:ZI s.l=true):d9s (ZK [] [] ((s.need ⟨[61]⟩).dfE (Hl ⟨w⟩ ln o (true,⟨⟨e⟩,⟨r⟩,d⟩))).1 ((s.need ⟨[61]⟩).dfE (Hl ⟨w⟩ ln o (true,⟨⟨e⟩,⟨r⟩,d⟩))).2) s w ln o e r d:=by
 have u:=Zm hs
 have k:=Ge.need (w:=⟨[61]⟩) u.2
 have h:=k.ok hs
 have i:ZI (s.need ⟨[61]⟩).l=true:=by rw[k.l];exact q
 refine ZL hs ?_
 generalize s.need ⟨[61]⟩=t at h i ⊢
 refine Z4 (fun h1=> ?_) fun h1=>a5s h (Z4 (fun h2=> ?_) fun h2=>Z4 (fun h3=> ?_) fun h3=>⟨c1q (Jo t.expr.1) (c0s (C9 h i h2)),f1s (Jo t.expr.1) (Yy (fun g=> ?_) fun g=>Yo (fun j=> ?_) fun j=> ?_)⟩)
 ·rw[Pe h1];exact Zg (Vq (Vo (Zq (x:=o) rfl) (Zy rfl) (Zy rfl) (Zq (x:=d) rfl) c3d) (ZG rfl))
 ·rw[a0s h1 h2];exact Zg (Vq (Vo (Zq (x:=o) rfl) (Zy rfl) (Zy rfl) (Zq (x:=d) rfl) (UN _)) (ZG rfl))
 ·rw[Uc h1 h2,h3];exact Zg (Vq (Vo (Zq (x:=o) rfl) (Zy rfl) (Zy rfl) (Zq (x:=d) rfl) (UN _)) (ZG rfl))
 ·rw[Uc h1 h2,h3]
  have g:YB t.expr.1=false:=g
  rw[g];exact Zg (Vq (Vo (Zq (x:=o) rfl) (Zy rfl) (Zy rfl) (Zq (x:=d) rfl) (UN _)) (ZG rfl))
 ·rw[Uc h1 h2,h3]
  have g:YB t.expr.1=true:=g
  rw[g,decide_eq_true (show((Hl ⟨w⟩ ln o (true,⟨⟨e⟩,⟨r⟩,d⟩)) t.expr.1).ps.length>8 by show o.length>8;rw[List.length_map]at j;omega)];exact Zg (Vq (Vo (Zq (x:=o) rfl) (Zy rfl) (Zy rfl) (Zq (x:=d) rfl) (UN _)) (ZG rfl))
 ·rw[Uc h1 h2,h3]
  have g:YB t.expr.1=true:=g
  rw[g,decide_eq_false (show ¬ ((Hl ⟨w⟩ ln o (true,⟨⟨e⟩,⟨r⟩,d⟩)) t.expr.1).ps.length>8 by show ¬ o.length>8;rw[List.length_map]at j;omega)];exact Zg (Vq (Vo (Zq (x:=o) rfl) (Zy rfl) (Zy rfl) (Zq (x:=d) rfl) (UN _)) (ZG rfl))
theorem d2s{w:List UInt8}{ln:Int}{o:List Pm}{s:PS}(hs:Zb s=true)(k:ZI s.l=true):d4w (ZK [] [] ((s.need ⟨[61]⟩).dfE (Hl ⟨w⟩ ln o (false,ty0))).1 ((s.need ⟨[61]⟩).dfE (Hl ⟨w⟩ ln o (false,ty0))).2) s w ln o:=by
 have q:=Zm hs
 have j:=Ge.need (w:=⟨[61]⟩) q.2
 have g:=j.ok hs
 have h:ZI (s.need ⟨[61]⟩).l=true:=by rw[j.l];exact k
 refine ZL hs ?_
 generalize s.need ⟨[61]⟩=t at g h ⊢
 refine Z4 (fun h1=> ?_) fun h1=>a5s g (Z4 (fun h2=> ?_) fun h2=>Z4 (fun h3=> ?_) fun h3=>⟨c1q (Jo t.expr.1) (c0s (C9 g h h2)),f1s (Jo t.expr.1) (Yy (fun e=> ?_) fun e=>Yo (fun i=> ?_) fun i=> ?_)⟩)
 ·rw[Pe h1];exact Zg (Vq (Vo (Zq (x:=o) rfl) (Zy rfl) (Zy rfl) Zk c3d) (ZG rfl))
 ·rw[a0s h1 h2];exact Zg (Vq (Vo (Zq (x:=o) rfl) (Zy rfl) (Zy rfl) Zk (UN _)) (ZG rfl))
 ·rw[Uc h1 h2,h3];exact Zg (Vq (Vo (Zq (x:=o) rfl) (Zy rfl) (Zy rfl) Zk (UN _)) (ZG rfl))
 ·rw[Uc h1 h2,h3]
  have e:YB t.expr.1=false:=e
  rw[e];exact Zg (Vq (Vo (Zq (x:=o) rfl) (Zy rfl) (Zy rfl) Zk (UN _)) (ZG rfl))
 ·rw[Uc h1 h2,h3]
  have e:YB t.expr.1=true:=e
  rw[e,decide_eq_true (show((Hl ⟨w⟩ ln o (false,ty0)) t.expr.1).ps.length>8 by show o.length>8;rw[List.length_map]at i;omega)];exact Zg (Vq (Vo (Zq (x:=o) rfl) (Zy rfl) (Zy rfl) Zk (UN _)) (ZG rfl))
 ·rw[Uc h1 h2,h3]
  have e:YB t.expr.1=true:=e
  rw[e,decide_eq_false (show ¬ ((Hl ⟨w⟩ ln o (false,ty0)) t.expr.1).ps.length>8 by show ¬ o.length>8;rw[List.length_map]at i;omega)];exact Zg (Vq (Vo (Zq (x:=o) rfl) (Zy rfl) (Zy rfl) Zk (UN _)) (ZG rfl))
theorem e5g{w:List UInt8}{ln:Int}{e r:List UInt8}{d:List Lin}{s:PS}(hs:Zb s=true)(k:ZI s.l=true):d5z (ZK [] [] ((s.need ⟨[61]⟩).dfE (Hl ⟨w⟩ ln [] (true,⟨⟨e⟩,⟨r⟩,d⟩))).1 ((s.need ⟨[61]⟩).dfE (Hl ⟨w⟩ ln [] (true,⟨⟨e⟩,⟨r⟩,d⟩))).2) s w ln e r d:=by
 have q:=Zm hs
 have j:=Ge.need (w:=⟨[61]⟩) q.2
 have g:=j.ok hs
 have i:ZI (s.need ⟨[61]⟩).l=true:=by rw[j.l];exact k
 refine ZL hs ?_
 generalize s.need ⟨[61]⟩=t at g i ⊢
 refine Z4 (fun h1=> ?_) fun h1=>a5s g (Z4 (fun h2=> ?_) fun h2=>Z4 (fun h3=> ?_) fun h3=>⟨c1q (Jo t.expr.1) (c0s (C9 g i h2)),f1s (Jo t.expr.1) (Yy (fun h=> ?_) fun h=> ?_)⟩)
 ·rw[Pe h1];exact Zg (Vq (Vo Zk (Zy rfl) (Zy rfl) (Zq (x:=d) rfl) c3d) (ZG rfl))
 ·rw[a0s h1 h2];exact Zg (Vq (Vo Zk (Zy rfl) (Zy rfl) (Zq (x:=d) rfl) (UN _)) (ZG rfl))
 ·rw[Uc h1 h2,h3];exact Zg (Vq (Vo Zk (Zy rfl) (Zy rfl) (Zq (x:=d) rfl) (UN _)) (ZG rfl))
 ·rw[Uc h1 h2,h3]
  have h:YB t.expr.1=false:=h
  rw[h];exact Zg (Vq (Vo Zk (Zy rfl) (Zy rfl) (Zq (x:=d) rfl) (UN _)) (ZG rfl))
 ·rw[Uc h1 h2,h3]
  have h:YB t.expr.1=true:=h
  rw[h];exact Zg (Vq (Vo Zk (Zy rfl) (Zy rfl) (Zq (x:=d) rfl) (UN _)) (ZG rfl))
theorem d6y{w:List UInt8}{ln:Int}{s:PS}(hs:Zb s=true)(j:ZI s.l=true):d3r (ZK [] [] ((s.need ⟨[61]⟩).dfE (Hl ⟨w⟩ ln [] (false,ty0))).1 ((s.need ⟨[61]⟩).dfE (Hl ⟨w⟩ ln [] (false,ty0))).2) s w ln:=by
 have k:=Zm hs
 have i:=Ge.need (w:=⟨[61]⟩) k.2
 have e:=i.ok hs
 have h:ZI (s.need ⟨[61]⟩).l=true:=by rw[i.l];exact j
 refine ZL hs ?_
 generalize s.need ⟨[61]⟩=t at e h ⊢
 refine Z4 (fun h1=> ?_) fun h1=>a5s e (Z4 (fun h2=> ?_) fun h2=>Z4 (fun h3=> ?_) fun h3=>⟨c1q (Jo t.expr.1) (c0s (C9 e h h2)),f1s (Jo t.expr.1) (Yy (fun g=> ?_) fun g=> ?_)⟩)
 ·rw[Pe h1];exact Zg (Vq (Vo Zk (Zy rfl) (Zy rfl) Zk c3d) (ZG rfl))
 ·rw[a0s h1 h2];exact Zg (Vq (Vo Zk (Zy rfl) (Zy rfl) Zk (UN _)) (ZG rfl))
 ·rw[Uc h1 h2,h3];exact Zg (Vq (Vo Zk (Zy rfl) (Zy rfl) Zk (UN _)) (ZG rfl))
 ·rw[Uc h1 h2,h3]
  have g:YB t.expr.1=false:=g
  rw[g];exact Zg (Vq (Vo Zk (Zy rfl) (Zy rfl) Zk (UN _)) (ZG rfl))
 ·rw[Uc h1 h2,h3]
  have g:YB t.expr.1=true:=g
  rw[g];exact Zg (Vq (Vo Zk (Zy rfl) (Zy rfl) Zk (UN _)) (ZG rfl))
theorem f2o{nm:Str}{ln:Int}{o:List Pm}{ty:TyS}{s:PS}(hs:Zb s=true)(g:ZI s.l=true):d9s (ZK [] [] ((s.need ⟨[61]⟩).dfE (Hl nm ln o (true,ty))).1 ((s.need ⟨[61]⟩).dfE (Hl nm ln o (true,ty))).2) s nm.s ln o ty.elem.s ty.row.s ty.dims:=by
 obtain⟨w⟩:=nm
 obtain⟨⟨e⟩,⟨r⟩,d⟩:=ty
 exact e3k hs g
theorem f5e{nm:Str}{ln:Int}{o:List Pm}{s:PS}(hs:Zb s=true)(e:ZI s.l=true):d4w (ZK [] [] ((s.need ⟨[61]⟩).dfE (Hl nm ln o (false,ty0))).1 ((s.need ⟨[61]⟩).dfE (Hl nm ln o (false,ty0))).2) s nm.s ln o:=by
 obtain⟨w⟩:=nm
 exact d2s hs e
theorem c4t{nm:Str}{ln:Int}{ty:TyS}{s:PS}(hs:Zb s=true)(g:ZI s.l=true):d5z (ZK [] [] ((s.need ⟨[61]⟩).dfE (Hl nm ln [] (true,ty))).1 ((s.need ⟨[61]⟩).dfE (Hl nm ln [] (true,ty))).2) s nm.s ln ty.elem.s ty.row.s ty.dims:=by
 obtain⟨w⟩:=nm
 obtain⟨⟨e⟩,⟨r⟩,d⟩:=ty
 exact e5g hs g
theorem c3o{nm:Str}{ln:Int}{s:PS}(hs:Zb s=true)(e:ZI s.l=true):d3r (ZK [] [] ((s.need ⟨[61]⟩).dfE (Hl nm ln [] (false,ty0))).1 ((s.need ⟨[61]⟩).dfE (Hl nm ln [] (false,ty0))).2) s nm.s ln:=by
 obtain⟨w⟩:=nm
 exact d6y hs e
theorem f1q{s:PS}(h:s.bad=true):s.dfP=([],s):=if_pos h
theorem f9v{s:PS}(h:s.bad=false)(h2:s.next ⟨[41]⟩=true):s.dfP=([],s):=(if_neg (by rw[h];decide)).trans (if_pos h2)
theorem g2q{s:PS}(h:s.bad=false)(h2:s.next ⟨[41]⟩=false):s.dfP=listL PS.param s:=(if_neg (by rw[h];decide)).trans (if_neg (by rw[h2];decide))
theorem e2o{s:PS}(h:s.next ⟨[58]⟩=true):s.dfR=((true,s.step.typ.1),s.step.typ.2):=if_pos h
theorem d8s{s:PS}(h:s.next ⟨[58]⟩=false):s.dfR=((false,ty0),s):=if_neg (by rw[h];decide)
theorem Dj{s:PS}{ps:List Pm×PS}{r:(Bool×TyS)×PS}(h1:(s.df0.name.2.need ⟨[40]⟩).dfP=ps)(h2:(ps.2.need ⟨[41]⟩).dfR=r):s.defP=(r.2.need ⟨[61]⟩).dfE (Hl s.df0.name.1 (s.peek 0).ln ps.1 r.1):=by subst h1 h2;rfl
set_option maxHeartbeats 2000000 in
theorem e9u: ∀ (s:PS) (a:Unit),(Zb s&&ZI s.l)=true->Zj d1r 1 (Zz 1 b8q (ZK [] [] (c9d s a).1 (c9d s a).2)) b6f [] (Z8 g2w (ZF a) ([]++[Zi s])):=by
 rintro s ⟨⟩ h
 rw[Bool.and_eq_true]at h
 obtain⟨hs,M⟩:=h
 have O:=Zm hs
 have kd:=Ge.need (w:=⟨[100,101,102]⟩) O.2
 have C:=kd.ok hs
 have hu:Zb s.df0=true:=C
 have N:ZI s.df0.l=true:=by show ZI (s.need _).l=true;rw[kd.l];exact M
 have P:=Zm hu
 have H:=Ge.name P.2
 have A:=H.ok hu
 have F:=Ge.need (w:=⟨[40]⟩) H.hi
 have j:=F.ok A
 have E:=H.trans F
 show Zj d1r 1 (Zz 1 b8q (ZK [] [] s.defP.1 s.defP.2)) b6f [] _
 have D : ∀ {ps:List Pm×PS} (h1:(s.df0.name.2.need ⟨[40]⟩).dfP=ps) (k:Ge s.df0 ps.2),
   Zb (ps.2.need ⟨[41]⟩)=true∧ZI (ps.2.need ⟨[41]⟩).l=true∧(ps.2.need ⟨[41]⟩).i<=(ps.2.need ⟨[41]⟩).l.length:=fun {ps} h1 k=>by
  have Q:=Ge.need (w:=⟨[41]⟩) k.hi
  have K:=k.trans Q
  exact⟨K.ok hu,by rw[K.l];exact N,K.hi⟩
 have ty : ∀ {t:PS},Zb t=true->ZI t.l=true->t.next ⟨[58]⟩=true->Zb t.step=true∧Zb t.step.typ.2=true∧ZI t.step.typ.2.l=true:=fun {t} a b c=>by
  have B:=Ge.step (Zc c)
  have I:=Ge.typ B.hi
  exact⟨B.ok a,I.ok (B.ok a),by rw[I.l,B.l];exact b⟩
 refine g7v s (Xf hs (ZL hs (c4j (s:=s.df0) rfl hu (ZL A (Yy (fun hb=>YW j (Yy (fun hn=> ?_) fun hn=> ?_)) fun hb=> ?_)))))
 ·have e:=g2q hb hn
  have L:=Ge.list (one:=PS.param) (fun s h=>Ge.param h) F.hi
  obtain⟨g,r,J⟩:=D e (E.trans L)
  refine d8j j (ZL (L.ok j) (Yg g (fun q=>Yd rfl ?_) fun q=>Yj (by simp) ?_))
  ·obtain⟨y,u,z⟩:=ty g r q
   refine c3l y ?_
   rw[Dj e (e2o q)]
   exact f2o u z
  ·rw[Dj e (d8s q)]
   exact f5e g r
 ·have e:=f9v hb hn
  obtain⟨g,r,J⟩:=D e E
  refine ZL j (Yg g (fun q=>Yd rfl ?_) fun q=>Yj (by simp) ?_)
  ·obtain⟨y,u,z⟩:=ty g r q
   refine c3l y ?_
   rw[Dj e (e2o q)]
   exact c4t u z
  ·rw[Dj e (d8s q)]
   exact c3o g r
 ·have e:=f1q hb
  obtain⟨g,r,J⟩:=D e E
  refine ZL j (Yg g (fun q=>Yd rfl ?_) fun q=>Yj (by simp) ?_)
  ·obtain⟨y,u,z⟩:=ty g r q
   refine c3l y ?_
   rw[Dj e (e2o q)]
   exact c4t u z
  ·rw[Dj e (d8s q)]
   exact c3o g r
theorem c5a{s:PS}{K:Df×Bool->PS->Prop}(hs:Zb s=true)(e:ZI s.l=true)(h:K s.defP.1 s.defP.2):WR ZF Y5 [] [] (fun(s:PS) (_:Unit)=>Zb s&&ZI s.l) c9d [.ptr 0 0] [Zi s] K:=YT ZR s () rfl rfl (by rw[hs,e];rfl) h
set_option maxRecDepth 100000
abbrev EG(args:List AV)(os:List AObj):=WR (Pi 34) (CX) ([]) ([]) (fun(s:PS) (x:Unit)=>Zb s) (Xr PS.name) args os
abbrev a3h(args:List AV)(os:List AObj):=WR (ZF) (Y5) ([]) ([]) (fun(s:PS) (x:Unit)=>Zb s&&ZI (PS.l s)) (c9d) args os
abbrev a4e(args:List AV)(os:List AObj):=WR (ZF) (Y5) ([]) ([]) (fun(s:PS) (x:Unit)=>Zb s) (Om) args os
noncomputable def YC:IC:=X5 Proofs.Tryz.f18
def YA:List IRes:=[(.cell true 4 2),(.tmp 3),(.tmp 4)]
abbrev f9h:Nat:=108
noncomputable def Xk:ZP:=Y9 [(25,.own Ao EU),PT,a8d,CJ,(36,.own (X3 (Pi 34) [] [] (fun(s:PS) (_:Unit)=>Zb s)) (WA CX [] [] (Xr PS.name))),a2g,Be,(39,.own (X3 ZF [] [] (fun(s:PS) (_:Unit)=>Zb s&&ZI s.l)) (WA Y5 [] [] c9d)),(27,.own (X3 ZF [] [] (fun(s:PS) (_:Unit)=>Zb s)) (WA Y5 [] [] Om))]
def HY:PV:=.agg [.str [],.sl 0 true [],.sl 0 true [],.sl 0 true []]
def JV:List (Nat×AV):=[(2,.ptr 0 0),(5,.ptr 1 0)]
def g6v{G:PV->Prop}(s:List UInt8):=Qb ((Ao [.pv (.str s)] [])=true∧(if (R3.c (Y4 (Str.mk s)) != 0)=true then G (.tup [HY,.int .i64 (R3.b (Y4 (Str.mk s))),.int .i64 (R3.c (Y4 (Str.mk s)))])else(ZV [.ptr 0 0,.pv (.str [109,111,100,117,108,101])] [.box [.pv (.sl 4 false (List.map enc (PS.l (Kb s)))),.pv (.int .i64 (↑(PS.i (Kb s)):Int)),.pv (.int .i64 (PS.sz (Kb s))),Vf,.pv (.int .i64 (PS.wr (Kb s))),Vf]] fun y0 h=>(QM [.ptr 0 0] [Zi h] fun g e=>(At Xk 0 (Za YA G) YC 0 108 JV [.obj (.box [.pv (.str (Str.s g)),Yc,Yc,Yc]),.obj (Zi e)]))))) G (dm [dv Unit,dO PS,dv Str] 16 0x67165100014231) Xk YA YC (YN 108 [.str s]) (by delta HY Vf JV Yc;exact rfl)
def a0g:List AV:=[.ptr 0 0,.pv (.str [105,109,112,111,114,116])]
def Ev(e:List UInt8)(Zn:PS):ZC:=[.obj (.box [.pv (.str e),Yc,Yc,Yc]),.obj (Zi Zn)]
def a5v:List AV:=[.ptr 0 0,.pv (.str [101,120,112,111,114,116])]
def Tk:List (Nat×AV):=[(2,.ptr 0 0),(5,.ptr 1 0),(6,.pv (.int .i64 (-1)))]
def f4j{G:PV->Prop}(s:List UInt8)(w:List UInt8)(q:PS):=WQ (Yh a0g [Zi q] fun k i=>(if (k)=true then EG CP [Zi i] fun e h=>((List.isEmpty (List.map enc e)||Enc.sz Str==1)=true∧(if (List.isEmpty (List.map enc e))=true then At Xk 0 (Za YA G) YC 0 108 JV (Ev w h)else(((List.isEmpty ([]:List PV)||0==1)&&decide ((List.length ([]:List PV)+List.length (List.map enc e))*16<=1099511627776)&&decide (List.length ([]:List PV)+List.length (List.map enc e)<=1099511627776))=true∧(At Xk 0 (Za YA G) YC 0 108 JV [.obj (.box [.pv (.str w),.row 2 (List.length ([]:List PV)+List.length (List.map enc e)) 0 (List.length ([]:List PV)+List.length (List.map enc e)),Yc,Yc]),.obj (Zi h),.obj (.row false 9 1 (([]:List PV)++List.map enc e))]))))else(Yh a5v [Zi i] fun j g=>(if (j)=true then EG CP [Zi g] fun r l=>(At Xk 0 (Za YA G) YC 1 108 Tk [.obj (.box [.pv (.str w),Yc,.pv (.sl 1 false (List.map enc r)),Yc]),.obj (Zi l)])else(At Xk 0 (Za YA G) YC 1 108 Tk (Ev w g)))))) G (dm [dv Bool,dO PS,dv (List Str)] 32 0x671004465101000142167100c4651) Xk YA YC 0 108 JV (Ev w q) (by delta a0g CP JV Yc Ev a5v Tk;exact rfl)
def DU(e:List Str):Slot:=.obj (.row false 9 1 (List.map enc e))
def f5h{G:PV->Prop}(s:List UInt8)(w:List UInt8)(q:PS)(o:List Str)(L:Nat):=WQ (Yh a0g [Zi q] fun k h=>(if (k)=true then EG CP [Zi h] fun e i=>((List.isEmpty (List.map enc e)||Enc.sz Str==1)=true∧((List.length (List.map enc o)==L&&L==L&&decide ((L+List.length (List.map enc e))*16<=1099511627776)&&decide (L+List.length (List.map enc e)<=1099511627776))=true∧(At Xk 0 (Za YA G) YC 0 108 JV [.obj (.box [.pv (.str w),.row 2 (L+List.length (List.map enc e)) 0 (L+List.length (List.map enc e)),Yc,Yc]),.obj (Zi i),.obj (.row false 9 1 (List.map enc o++List.map enc e))])))else(Yh a5v [Zi h] fun j g=>(if (j)=true then EG CP [Zi g] fun r l=>(At Xk 0 (Za YA G) YC 1 108 Tk [.obj (.box [.pv (.str w),.row 2 L 0 L,.pv (.sl 1 false (List.map enc r)),Yc]),.obj (Zi l),DU o])else(At Xk 0 (Za YA G) YC 1 108 Tk [.obj (.box [.pv (.str w),.row 2 L 0 L,Yc,Yc]),.obj (Zi g),DU o]))))) G (dm [dv Bool,dO PS,dv (List Str)] 26 0x67100446510116710064651) Xk YA YC 0 108 JV [.obj (.box [.pv (.str w),.row 2 L 0 L,Yc,Yc]),.obj (Zi q),a1t o] (by delta a0g CP JV Yc a5v Tk DU;exact rfl)
def HZ(e:Tok):List (Nat×AV):=[(2,.ptr 0 0),(5,.ptr 1 0),(6,.pv (.int .i64 (Tok.o e)))]
def f4x(e:Df×Bool):Slot:=.obj (.row false 56 17 [.agg [.str (Str.s (Df.name e.1)),.int .i64 (Df.line e.1),.sl 5 false (List.map enc (Df.ps e.1)),.bool (Df.given e.1),.str (Str.s (TyS.elem (Df.res e.1))),.str (Str.s (TyS.row (Df.res e.1))),.sl 2 false (List.map enc (TyS.dims (Df.res e.1))),.int .i64 (Nd.kind (Df.n e.1)),.int .i64 (Nd.line (Df.n e.1)),.str (Str.s (Nd.name (Df.n e.1))),.int .i64 (Nd.num (Df.n e.1)),.str (Str.s (Nd.elem (Df.n e.1))),.sl 1 false (List.map enc (Nd.dims (Df.n e.1))),.sl 1 false (List.map enc (Nd.data (Df.n e.1))),.sl 2 false (List.map enc (Nd.sizes (Df.n e.1))),.sl 1 false (List.map enc (Nd.ranks (Df.n e.1))),.sl 10 false (List.map enc (Df.ks e.1))]])
def a1i(i:List UInt8)(Zn:Nat)(e:Bool)(j:List PV)(h:PS)(g:Df×Bool):ZC:=[.obj (.box [.pv (.str i),Yc,.pv (.sl Zn e j),.row 2 1 0 1]),.obj (Zi h),f4x g]
def Ql(e:Int):List (Nat×AV):=[(2,.ptr 0 0),(5,.ptr 1 0),(6,ZU e)]
def Fy(e:PS):PV:=.tup [HY,.int .i64 (PS.wr e),.int .i64 6]
def Gg(e:Int):PV:=.tup [HY,.int .i64 e,.int .i64 3]
def H9(e:List PV):Bool:=decide ((↑(List.length e):Int)>60)
def Ty:PV:=.tup [HY,.int .i64 0,.int .i64 3]
def d8a(i:PS)(Zn:PV->Prop)(e:Int)(h:List PV)(l:List UInt8)(k:Nat)(j:Bool):Prop:=a4e [.ptr 0 0] [Zi i] fun z0' g=>(if (PS.bad g)=true then Zn (Fy g)else(if (decide (e ≥ 0))=true then Zn (Gg e)else(if (H9 h)=true then Zn (Ty)else(Zn (.tup [.agg [.str l,.sl 0 true [],.sl k j h,.sl 0 true []],.int .i64 0,.int .i64 0])))))
def f1y{G:PV->Prop}(s:List UInt8)(w:List UInt8)(q:PS)(v:Int)(k:Nat)(n:Bool)(xs:List PV):=WQ (if (!PS.bad q)=true then Xw KF [Zi q] fun l h=>(if (l)=true then XC Y1 [Zi h] fun j i=>(a3h [.ptr 0 0] [Zi i] fun e g=>(if e.2=true then if (decide (v<0))=true then At Xk 0 (Za YA G) YC 1 108 (HZ j) (a1i w k n xs g e)else(At Xk 0 (Za YA G) YC 1 108 (Ql v) (a1i w k n xs g e))else(At Xk 0 (Za YA G) YC 1 108 (Ql v) (a1i w k n xs g e))))else(d8a h G v xs w k n))else(d8a q G v xs w k n)) G (dm [dv Bool,dO PS,dv Tok,dv (Df×Bool),dv Unit] 131 0x222222022222006422222220001420001469122202222220222220064222222200014200014691022222222022222022222006422201346816710264265120554) Xk YA YC 1 108 (Ql v) [.obj (.box [.pv (.str w),Yc,.pv (.sl k n xs),Yc]),.obj (Zi q)] (by delta KF ZA Y1 HZ Yc f4x a1i ZU Ql HY Fy Gg H9 Ty d8a;exact rfl)
def a5t(e:List UInt8)(Zn i:Nat)(l:Bool)(k:List PV)(j:PS)(h:List Str)(g:Df×Bool):ZC:=[.obj (.box [.pv (.str e),.row 2 Zn 0 Zn,.pv (.sl i l k),.row 3 1 0 1]),.obj (Zi j),DU h,f4x g]
def e2c(k:PS)(Zn:PV->Prop)(g:Int)(e:Nat)(j:List PV)(i:List Str)(q:List UInt8)(l:Nat)(r:Bool):Prop:=a4e [.ptr 0 0] [Zi k] fun z0' h=>(if (PS.bad h)=true then Zn (Fy h)else(if (decide (g ≥ 0))=true then Zn (Gg g)else(if (decide ((↑(e - 0):Int)>20))=true then Zn (Ty)else(if (H9 j)=true then Zn (Ty)else((Ck i e)=true∧(Zn (.tup [.agg [.str q,.sl 1 false (List.drop 0 (List.take e (List.map enc i))),.sl l r j,.sl 0 true []],.int .i64 0,.int .i64 0])))))))
def e6w{G:PV->Prop}(s:List UInt8)(w:List UInt8)(q:PS)(v:Int)(k:Nat)(n:Bool)(xs:List PV)(o:List Str)(L:Nat):=WQ (if (!PS.bad q)=true then Xw KF [Zi q] fun l h=>(if (l)=true then XC Y1 [Zi h] fun j i=>(a3h [.ptr 0 0] [Zi i] fun e g=>(if e.2=true then if (decide (v<0))=true then At Xk 0 (Za YA G) YC 1 108 (HZ j) (a5t w L k n xs g o e)else(At Xk 0 (Za YA G) YC 1 108 (Ql v) (a5t w L k n xs g o e))else(At Xk 0 (Za YA G) YC 1 108 (Ql v) (a5t w L k n xs g o e))))else(e2c h G v L xs o w k n))else(e2c q G v L xs o w k n)) G (dm [dv Bool,dO PS,dv Tok,dv (Df×Bool),dv Unit] 161 0x12222220222220064222220222222222200b4200014200014691222012222220222220064222220222222222200b4200014200014691022222222022222022222006422201346816710264265120644) Xk YA YC 1 108 (Ql v) [.obj (.box [.pv (.str w),.row 2 L 0 L,.pv (.sl k n xs),Yc]),.obj (Zi q),a1t o] (by delta KF ZA Y1 HZ DU f4x a5t ZU Ql HY Fy Gg Ty H9 Ck e2c;exact rfl)
def e0n(e:Df×Bool):List PV:=List.drop 0 (List.take 1 [PV.agg [enc (Df.name e.1),enc (Df.line e.1),enc (Df.ps e.1),enc (Df.given e.1),enc (TyS.elem (Df.res e.1)),enc (TyS.row (Df.res e.1)),enc (TyS.dims (Df.res e.1)),enc (Nd.kind (Df.n e.1)),enc (Nd.line (Df.n e.1)),enc (Nd.name (Df.n e.1)),enc (Nd.num (Df.n e.1)),enc (Nd.elem (Df.n e.1)),enc (Nd.dims (Df.n e.1)),enc (Nd.data (Df.n e.1)),enc (Nd.sizes (Df.n e.1)),enc (Nd.ranks (Df.n e.1)),enc (Df.ks e.1)]])
def TR(g:List Df)(Zn:Nat)(e:Df×Bool):Bool:=List.length (List.map enc g)==Zn&&Zn==Zn&&decide ((Zn+List.length (e0n e))*288<=1099511627776)&&decide (Zn+List.length (e0n e)<=1099511627776)
def El(e:Nat)(Zn:Df×Bool):Nat:=e+List.length (e0n Zn)
def f4u(e:List Df)(Zn:Df×Bool):Slot:=.obj (.row false 56 17 (List.map enc e++List.drop 0 (List.take 1 [PV.agg [enc (Df.name Zn.1),enc (Df.line Zn.1),enc (Df.ps Zn.1),enc (Df.given Zn.1),enc (TyS.elem (Df.res Zn.1)),enc (TyS.row (Df.res Zn.1)),enc (TyS.dims (Df.res Zn.1)),enc (Nd.kind (Df.n Zn.1)),enc (Nd.line (Df.n Zn.1)),enc (Nd.name (Df.n Zn.1)),enc (Nd.num (Df.n Zn.1)),enc (Nd.elem (Df.n Zn.1)),enc (Nd.dims (Df.n Zn.1)),enc (Nd.data (Df.n Zn.1)),enc (Nd.sizes (Df.n Zn.1)),enc (Nd.ranks (Df.n Zn.1)),enc (Df.ks Zn.1)]])))
def a4q(h:List UInt8)(Zn:Nat)(k:Bool)(l:List PV)(g:Nat)(e:Df×Bool)(j:PS)(i:List Df):ZC:=[.obj (.box [.pv (.str h),Yc,.pv (.sl Zn k l),.row 2 (El g e) 0 (El g e)]),.obj (Zi j),f4u i e]
def d3c(k:PS)(Zn:PV->Prop)(g:Int)(j:List PV)(e:Nat)(i:List Df)(q:List UInt8)(l:Nat)(r:Bool):Prop:=a4e [.ptr 0 0] [Zi k] fun z0' h=>(if (PS.bad h)=true then Zn (Fy h)else(if (decide (g ≥ 0))=true then Zn (Gg g)else(if (H9 j)=true then Zn (Ty)else(if (decide ((↑(e - 0):Int)>60))=true then Zn (Ty)else((List.length (List.map enc i)==e)=true∧(Zn (.tup [.agg [.str q,.sl 0 true [],.sl l r j,.sl 17 false (List.drop 0 (List.take e (List.map enc i)))],.int .i64 0,.int .i64 0])))))))
def f2g{G:PV->Prop}(s:List UInt8)(w:List UInt8)(q:PS)(v:Int)(k:Nat)(n:Bool)(xs:List PV)(ds:List Df)(D:Nat):=WQ (if (!PS.bad q)=true then Xw KF [Zi q] fun l h=>(if (l)=true then XC Y1 [Zi h] fun j i=>(a3h [.ptr 0 0] [Zi i] fun e g=>(if e.2=true then if (decide (v<0))=true then(TR ds D e)=true∧(At Xk 0 (Za YA G) YC 1 108 (HZ j) (a4q w k n xs D e g ds))else((TR ds D e)=true∧(At Xk 0 (Za YA G) YC 1 108 (Ql v) (a4q w k n xs D e g ds)))else((TR ds D e)=true∧(At Xk 0 (Za YA G) YC 1 108 (Ql v) (a4q w k n xs D e g ds)))))else(d3c h G v xs D ds w k n))else(d3c q G v xs D ds w k n)) G (dm [dv Bool,dO PS,dv Tok,dv (Df×Bool),dv Unit] 135 0x1000142222202222200642222222000142000146912220100014222220222220064222222200014200014691012222201220122004422200f46816710204265120544) Xk YA YC 1 108 (Ql v) [.obj (.box [.pv (.str w),Yc,.pv (.sl k n xs),.row 2 D 0 D]),.obj (Zi q),.obj (.row false 56 17 (ds.map enc))] (by delta KF ZA Y1 e0n TR HZ Yc El f4u a4q ZU Ql HY Fy Gg H9 Ty d3c;exact rfl)
def a2f(h:List UInt8)(Zn k:Nat)(r:Bool)(l:List PV)(g:Nat)(e:Df×Bool)(i:PS)(q:List Str)(j:List Df):ZC:=[.obj (.box [.pv (.str h),.row 2 Zn 0 Zn,.pv (.sl k r l),.row 3 (El g e) 0 (El g e)]),.obj (Zi i),DU q,f4u j e]
def a5f:PV:=.tup [HY,.int .i64 0,.int .i64 3]
def d1p(r:PS)(Zn:PV->Prop)(j:Int)(g:Nat)(l:List PV)(e:Nat)(i:List Str)(h:List Df)(u:List UInt8)(s:Nat)(q:Bool):Prop:=a4e [.ptr 0 0] [Zi r] fun z0' k=>(if (PS.bad k)=true then Zn (.tup [HY,.int .i64 (PS.wr k),.int .i64 6])else(if (decide (j ≥ 0))=true then Zn (Gg j)else(if (decide ((↑(g - 0):Int)>20))=true then Zn (a5f)else(if (H9 l)=true then Zn (a5f)else(if (decide ((↑(e - 0):Int)>60))=true then Zn (a5f)else((Ck i g)=true∧((List.length (List.map enc h)==e)=true∧(Zn (.tup [.agg [.str u,PG g i,.sl s q l,.sl 17 false (List.drop 0 (List.take e (List.map enc h)))],.int .i64 0,.int .i64 0])))))))))
def f1j{G:PV->Prop}(s:List UInt8)(w:List UInt8)(q:PS)(v:Int)(k:Nat)(n:Bool)(xs:List PV)(o:List Str)(L:Nat)(ds:List Df)(D:Nat):=WQ (if (!PS.bad q)=true then Xw KF [Zi q] fun l h=>(if (l)=true then XC Y1 [Zi h] fun j i=>(a3h [.ptr 0 0] [Zi i] fun e g=>(if e.2=true then if (decide (v<0))=true then(TR ds D e)=true∧(At Xk 0 (Za YA G) YC 1 108 (HZ j) (a2f w L k n xs D e g o ds))else((TR ds D e)=true∧(At Xk 0 (Za YA G) YC 1 108 (Ql v) (a2f w L k n xs D e g o ds)))else((TR ds D e)=true∧(At Xk 0 (Za YA G) YC 1 108 (Ql v) (a2f w L k n xs D e g o ds)))))else(d1p h G v L xs D o ds w k n))else(d1p q G v L xs D o ds w k n)) G (dm [dv Bool,dO PS,dv Tok,dv (Df×Bool),dv Unit] 165 0x1100014222220222220064222220222222222200b420001420001469122201100014222220222220064222220222222222200b4200014200014691012222201220122004422200f46816710204265120634) Xk YA YC 1 108 (Ql v) [.obj (.box [.pv (.str w),.row 2 L 0 L,.pv (.sl k n xs),.row 3 D 0 D]),.obj (Zi q),a1t o,.obj (.row false 56 17 (ds.map enc))] (by delta KF ZA Y1 e0n TR HZ El DU f4u a2f ZU Ql HY Gg a5f H9 Ck PG d1p;exact rfl)
end Go.Pl
namespace Go.Pl
open Go.RowKit
def Xx(nm:Str)(im ex:List Str)(r:(Int×List Df)×PS):R3 Mdu Int Int:=
 if r.2.endp.bad then⟨md0,r.2.endp.wr,6⟩
 else if 0<=r.1.1 then⟨md0,r.1.1,3⟩
 else if im.length>20∨ex.length>60∨r.1.2.length>60 then⟨md0,0,3⟩
 else⟨⟨nm,im,ex,r.1.2⟩,0,0⟩
def b4s(L:Nat)(nm:Str)(r:List Str×PS):R3 Mdu Int Int:=Xx nm r.1 r.2.expo.1 (defL (L+1) r.2.expo.2 (-1) [])
theorem a2e{s:Str}(h:(Y4 s).c=0):YH s=b4s (Kb s.s).l.length ((Kb s.s).need ⟨[109,111,100,117,108,101]⟩).name.1 (impL ((Kb s.s).l.length+1) ((Kb s.s).need ⟨[109,111,100,117,108,101]⟩).name.2 []):=by
 unfold YH
 rw[if_neg (fun k=>k h)]
 rfl
theorem Ge.dfP{s:PS}(h:s.i<=s.l.length):Ge s s.dfP.2:=by
 unfold PS.dfP
 split
 ·exact Ge.refl h
 ·split
  ·exact Ge.refl h
  ·exact Ge.list (one:=PS.param) (fun s h=>Ge.param h) h
theorem Ge.dfR{s:PS}(h:s.i<=s.l.length):Ge s s.dfR.2:=by
 unfold PS.dfR
 split
 ·have e:=Ge.step (Zc ‹_›)
  exact e.trans (Ge.typ e.hi)
 ·exact Ge.refl h
theorem Ge.dfE{s:PS}{d:Tm->Df}(hs:Zb s=true):Ge s (s.dfE d).2:=by
 have e:=Zm hs
 have k:Ge s s.expr.2:=Ge.expr (by unfold Yb;omega) e.2
 unfold PS.dfE
 split
 ·exact Ge.refl e.2
 ·split
  ·exact k
  ·exact k
theorem Ge.defP{s:PS}(hs:Zb s=true):Ge s.df0 s.defP.2:=by
 have k:=Zm hs
 have kd:=Ge.need (w:=⟨[100,101,102]⟩) k.2
 have hu:Zb s.df0=true:=kd.ok hs
 have j:=Ge.name (Zm hu).2
 have e:=Ge.need (w:=⟨[40]⟩) j.hi
 have g:=Ge.dfP e.hi
 have i:=Ge.need (w:=⟨[41]⟩) g.hi
 have h:=Ge.dfR i.hi
 have l:=Ge.need (w:=⟨[61]⟩) h.hi
 have K:=j.trans (e.trans (g.trans (i.trans (h.trans l))))
 exact K.trans (Ge.dfE (K.ok hu))
theorem JG{s:PS}(hs:Zb s=true)(j:ZI s.l=true)(h:s.next ⟨[100,101,102]⟩=true):Zb s.defP.2=true∧ZI s.defP.2.l=true∧s.defP.2.l=s.l∧s.i+1<=s.defP.2.i:=by
 have k:=Ge.defP hs
 have e:s.need ⟨[100,101,102]⟩=s.step:=if_pos h
 have hu:Zb s.df0=true:=(Ge.need (w:=⟨[100,101,102]⟩) (Zm hs).2).ok hs
 have g:s.df0.l=s.l:=by show(s.need _).l=s.l;rw[e];rfl
 have ei:s.df0.i=s.i+1:=by show(s.need _).i=_;rw[e];rfl
 have k2:=k.le
 exact⟨k.ok hu,by rw[k.l,g];exact j,by rw[k.l,g],by omega⟩
open Enc (enc dec is)
open EncL (encL decL isL)
theorem a5o{w:List UInt8}{im ex:List Str}{ds:List Df}{a b c:PV}(h1:Ze im a)(h2:Ze ex b)(h3:Ze ds c):Ze (⟨⟨w⟩,im,ex,ds⟩:Mdu) (.agg [.str w,a,b,c]):=by
 refine⟨?_,?_⟩
 ·show(true&&is (List Str) a&&is (List Str) b&&is (List Df) c)=true
  rw[h1.1,h2.1,h3.1];rfl
 ·show(⟨⟨w⟩,dec a,dec b,dec c⟩:Mdu)=⟨⟨w⟩,im,ex,ds⟩
  rw[h1.2,h2.2,h3.2]
theorem Xp:Ze md0 (.agg [.str [],.sl 0 true [],.sl 0 true [],.sl 0 true []]):=a5o Zk Zk Zk
theorem a5w{ex:List Str}{k:Nat}{n:Bool}{xs:List PV}(h:Ze ex (.sl k n xs)):xs.length=ex.length:=by
 have h2:(xs.map dec:List Str)=ex:=h.2
 rw[<- h2,List.length_map]
theorem BS{f:Nat}{s:PS}{w:Int}{o:List Df}(h:s.bad=true):defL f s w o=((w,o),s):=by
 cases f with
 | zero=>rfl
 | succ f=>rw[defL,if_pos h]
theorem Ph{f:Nat}{s:PS}{w:Int}{o:List Df}(h:s.next ⟨[100,101,102]⟩=false):defL f s w o=((w,o),s):=by
 cases f with
 | zero=>rfl
 | succ f=>
  rw[defL]
  split
  ·rfl
  ·rw[if_neg (by rw[h];decide)]
theorem Ry{f:Nat}{s:PS}{w:Int}{o:List Df}(hb:s.bad=false)(h:s.next ⟨[100,101,102]⟩=true):defL (f+1) s w o=defL f s.defP.2 (if s.defP.1.2&&decide (w<0)then(s.peek 0).o else w) (o++[s.defP.1.1]):=by rw[defL,if_neg (by rw[hb];decide),if_pos h]
theorem d3e{s w:List UInt8}{k:Nat}{n:Bool}{xs:List PV}{ex:List Str}(u:Ze ex (.sl k n xs))(R:R3 Mdu Int Int): ∀ (f:Nat) (q:PS) (v:Int) (ds:List Df) (D:Nat),Zb q=true->ZI q.l=true->q.l.length<q.i+f->D=ds.length->D<=q.i->R=Xx ⟨w⟩ [] ex (defL f q v ds) ->
  At Xk 0 (Za YA (Ze R)) YC 1 108 [(2,.ptr 0 0),(5,.ptr 1 0),(6,.pv (.int .i64 v))] [.obj (.box [.pv (.str w),.pv (.sl 0 true []),.pv (.sl k n xs),.row 2 D 0 D]),.obj (Zi q),.obj (.row false 56 17 (ds.map enc))]:=by
 have hxl:=a5w u
 intro f
 induction f with
 | zero=>intro q v ds D r z C;have:=Zm r;omega
 | succ f ih=>
  intro q v ds D r z C g hDi j
  have hl:=Zm r
  refine f2g s w q v k n xs ds D (Yy (fun hb=>YW r (Z4 (fun hd=>Xf r (c5a r z ?_)) fun hd=>TG r ?_)) fun hb=>TG r ?_)
  ·rw[Ry hb hd]at j
   obtain⟨B,A,F,a4⟩:=JG r z hd
   have y:q.defP.2.l.length<q.defP.2.i+f:=by rw[F];omega
   have e:List.map (enc:Df->PV) ds++List.drop 0 (List.take 1 [PV.agg [enc (Df.name q.defP.1.1),enc (Df.line q.defP.1.1),enc (Df.ps q.defP.1.1),enc (Df.given q.defP.1.1),enc (TyS.elem (Df.res q.defP.1.1)),enc (TyS.row (Df.res q.defP.1.1)),enc (TyS.dims (Df.res q.defP.1.1)),enc (Nd.kind (Df.n q.defP.1.1)),enc (Nd.line (Df.n q.defP.1.1)),enc (Nd.name (Df.n q.defP.1.1)),enc (Nd.num (Df.n q.defP.1.1)),enc (Nd.elem (Df.n q.defP.1.1)),enc (Nd.dims (Df.n q.defP.1.1)),enc (Nd.data (Df.n q.defP.1.1)),enc (Nd.sizes (Df.n q.defP.1.1)),enc (Nd.ranks (Df.n q.defP.1.1)),enc (Df.ks q.defP.1.1)]])=(ds++[q.defP.1.1]).map enc:=DF ds q.defP.1.1
   have sz:(List.length (List.map (enc:Df->PV) ds)==D&&D==D&&decide ((D+1)*136<=1099511627776)&&decide (D+1<=1099511627776))=true:=by simp[g];omega
   refine Z4 (fun h1=>Yo (fun h2=>⟨by simp[g];omega,?_⟩) fun h2=>⟨by simp[g];omega,?_⟩) fun h1=>⟨by simp[g];omega,?_⟩
   ·rw[e]
    rw[if_pos (by rw[h1,decide_eq_true h2];rfl)]at j
    exact ih _ _ _ _ B A y (by simp[g]) (by simp;omega) j
   ·rw[e]
    rw[if_neg (by rw[h1,decide_eq_false h2];decide)]at j
    exact ih _ _ _ _ B A y (by simp[g]) (by simp;omega) j
   ·rw[e]
    rw[if_neg (by rw[h1];simp)]at j
    exact ih _ _ _ _ B A y (by simp[g]) (by simp;omega) j
  ·rw[Ph hd]at j
   subst j
   exact Z4 (fun h1=>by rw[Xx,if_pos h1];exact Ws Xp) fun h1=>Yo (fun h2=>by rw[Xx,if_neg (by rw[h1];decide),if_pos h2];exact Ws Xp) fun h2=>Yo (fun h=>by rw[Xx,if_neg (by rw[h1];decide),if_neg h2,if_pos (Or.inr (Or.inl (show ex.length>60 by omega)))];exact Ws Xp) fun E=>Yo (fun h=>by rw[Xx,if_neg (by rw[h1];decide),if_neg h2,if_pos (Or.inr (Or.inr (show ds.length>60 by omega)))];exact Ws Xp) fun H=>⟨by simp[g],by rw[Xx,if_neg (by rw[h1];decide),if_neg h2,if_neg (by rintro(h|h|h);exact absurd h (by decide);(have h:ex.length>60:=h;omega);(have h:ds.length>60:=h;omega))];exact Ws (a5o Zk u (by rw[VW ds g];exact Um ds rfl))⟩
  ·rw[BS hb]at j
   subst j
   exact Z4 (fun h1=>by rw[Xx,if_pos h1];exact Ws Xp) fun h1=>Yo (fun h2=>by rw[Xx,if_neg (by rw[h1];decide),if_pos h2];exact Ws Xp) fun h2=>Yo (fun h=>by rw[Xx,if_neg (by rw[h1];decide),if_neg h2,if_pos (Or.inr (Or.inl (show ex.length>60 by omega)))];exact Ws Xp) fun E=>Yo (fun h=>by rw[Xx,if_neg (by rw[h1];decide),if_neg h2,if_pos (Or.inr (Or.inr (show ds.length>60 by omega)))];exact Ws Xp) fun H=>⟨by simp[g],by rw[Xx,if_neg (by rw[h1];decide),if_neg h2,if_neg (by rintro(h|h|h);exact absurd h (by decide);(have h:ex.length>60:=h;omega);(have h:ds.length>60:=h;omega))];exact Ws (a5o Zk u (by rw[VW ds g];exact Um ds rfl))⟩
theorem d7a{s w:List UInt8}{k:Nat}{n:Bool}{xs:List PV}(o:List Str)(L:Nat)(z:L=o.length){ex:List Str}(u:Ze ex (.sl k n xs))(R:R3 Mdu Int Int): ∀ (f:Nat) (q:PS) (v:Int) (ds:List Df) (D:Nat),Zb q=true->ZI q.l=true->q.l.length<q.i+f->D=ds.length->D<=q.i->R=Xx ⟨w⟩ o ex (defL f q v ds) ->
  At Xk 0 (Za YA (Ze R)) YC 1 108 [(2,.ptr 0 0),(5,.ptr 1 0),(6,.pv (.int .i64 v))] [.obj (.box [.pv (.str w),.row 2 L 0 L,.pv (.sl k n xs),.row 3 D 0 D]),.obj (Zi q),.obj (.row false 9 1 (o.map enc)),.obj (.row false 56 17 (ds.map enc))]:=by
 have hxl:=a5w u
 intro f
 induction f with
 | zero=>intro q v ds D r A E;have:=Zm r;omega
 | succ f ih=>
  intro q v ds D r A E g hDi j
  have hl:=Zm r
  refine f1j s w q v k n xs o L ds D (Yy (fun hb=>YW r (Z4 (fun hd=>Xf r (c5a r A ?_)) fun hd=>TG r ?_)) fun hb=>TG r ?_)
  ·rw[Ry hb hd]at j
   obtain⟨B,C,I,a4⟩:=JG r A hd
   have y:q.defP.2.l.length<q.defP.2.i+f:=by rw[I];omega
   have e:List.map (enc:Df->PV) ds++List.drop 0 (List.take 1 [PV.agg [enc (Df.name q.defP.1.1),enc (Df.line q.defP.1.1),enc (Df.ps q.defP.1.1),enc (Df.given q.defP.1.1),enc (TyS.elem (Df.res q.defP.1.1)),enc (TyS.row (Df.res q.defP.1.1)),enc (TyS.dims (Df.res q.defP.1.1)),enc (Nd.kind (Df.n q.defP.1.1)),enc (Nd.line (Df.n q.defP.1.1)),enc (Nd.name (Df.n q.defP.1.1)),enc (Nd.num (Df.n q.defP.1.1)),enc (Nd.elem (Df.n q.defP.1.1)),enc (Nd.dims (Df.n q.defP.1.1)),enc (Nd.data (Df.n q.defP.1.1)),enc (Nd.sizes (Df.n q.defP.1.1)),enc (Nd.ranks (Df.n q.defP.1.1)),enc (Df.ks q.defP.1.1)]])=(ds++[q.defP.1.1]).map enc:=DF ds q.defP.1.1
   have sz:(List.length (List.map (enc:Df->PV) ds)==D&&D==D&&decide ((D+1)*136<=1099511627776)&&decide (D+1<=1099511627776))=true:=by simp[g];omega
   refine Z4 (fun h1=>Yo (fun h2=>⟨by simp[g];omega,?_⟩) fun h2=>⟨by simp[g];omega,?_⟩) fun h1=>⟨by simp[g];omega,?_⟩
   ·rw[e]
    rw[if_pos (by rw[h1,decide_eq_true h2];rfl)]at j
    exact ih _ _ _ _ B C y (by simp[g]) (by simp;omega) j
   ·rw[e]
    rw[if_neg (by rw[h1,decide_eq_false h2];decide)]at j
    exact ih _ _ _ _ B C y (by simp[g]) (by simp;omega) j
   ·rw[e]
    rw[if_neg (by rw[h1];simp)]at j
    exact ih _ _ _ _ B C y (by simp[g]) (by simp;omega) j
  ·rw[Ph hd]at j
   subst j
   exact Z4 (fun h1=>by rw[Xx,if_pos h1];exact Ws Xp) fun h1=>Yo (fun h2=>by rw[Xx,if_neg (by rw[h1];decide),if_pos h2];exact Ws Xp) fun h2=>Yo (fun h=>by rw[Xx,if_neg (by rw[h1];decide),if_neg h2,if_pos (Or.inl (show o.length>20 by omega))];exact Ws Xp) fun J=>Yo (fun h=>by rw[Xx,if_neg (by rw[h1];decide),if_neg h2,if_pos (Or.inr (Or.inl (show ex.length>60 by omega)))];exact Ws Xp) fun F=>Yo (fun h=>by rw[Xx,if_neg (by rw[h1];decide),if_neg h2,if_pos (Or.inr (Or.inr (show ds.length>60 by omega)))];exact Ws Xp) fun H=>⟨by simp[z],by simp[g],by rw[Xx,if_neg (by rw[h1];decide),if_neg h2,if_neg (by rintro(h|h|h);(have h:o.length>20:=h;omega);(have h:ex.length>60:=h;omega);(have h:ds.length>60:=h;omega))];exact Ws (a5o (by rw[VW o z];exact Um o rfl) u (by rw[VW ds g];exact Um ds rfl))⟩
  ·rw[BS hb]at j
   subst j
   exact Z4 (fun h1=>by rw[Xx,if_pos h1];exact Ws Xp) fun h1=>Yo (fun h2=>by rw[Xx,if_neg (by rw[h1];decide),if_pos h2];exact Ws Xp) fun h2=>Yo (fun h=>by rw[Xx,if_neg (by rw[h1];decide),if_neg h2,if_pos (Or.inl (show o.length>20 by omega))];exact Ws Xp) fun J=>Yo (fun h=>by rw[Xx,if_neg (by rw[h1];decide),if_neg h2,if_pos (Or.inr (Or.inl (show ex.length>60 by omega)))];exact Ws Xp) fun F=>Yo (fun h=>by rw[Xx,if_neg (by rw[h1];decide),if_neg h2,if_pos (Or.inr (Or.inr (show ds.length>60 by omega)))];exact Ws Xp) fun H=>⟨by simp[z],by simp[g],by rw[Xx,if_neg (by rw[h1];decide),if_neg h2,if_neg (by rintro(h|h|h);(have h:o.length>20:=h;omega);(have h:ex.length>60:=h;omega);(have h:ds.length>60:=h;omega))];exact Ws (a5o (by rw[VW o z];exact Um o rfl) u (by rw[VW ds g];exact Um ds rfl))⟩
theorem f7i{s w:List UInt8}{k:Nat}{n:Bool}{xs:List PV}{ex:List Str}(e:Ze ex (.sl k n xs))(R:R3 Mdu Int Int): ∀ (f:Nat) (q:PS) (v:Int),Zb q=true->ZI q.l=true->q.l.length<q.i+f->R=Xx ⟨w⟩ [] ex (defL f q v []) ->
  At Xk 0 (Za YA (Ze R)) YC 1 108 [(2,.ptr 0 0),(5,.ptr 1 0),(6,.pv (.int .i64 v))] [.obj (.box [.pv (.str w),.pv (.sl 0 true []),.pv (.sl k n xs),.pv (.sl 0 true [])]),.obj (Zi q)]:=by
 have hxl:=a5w e
 intro f q v j z hf g
 have hl:=Zm j
 obtain⟨f,rfl⟩ : ∃ m,f=m+1:=⟨f - 1,by omega⟩
 refine f1y s w q v k n xs (Yy (fun hb=>YW j (Z4 (fun hd=>Xf j (c5a j z ?_)) fun hd=>TG j ?_)) fun hb=>TG j ?_)
 ·rw[Ry hb hd]at g
  obtain⟨y,u,B,a4⟩:=JG j z hd
  have r:q.defP.2.l.length<q.defP.2.i+f:=by rw[B];omega
  refine Z4 (fun h1=>Yo (fun h2=> ?_) fun h2=> ?_) fun h1=> ?_
  ·rw[if_pos (by rw[h1,decide_eq_true h2];rfl)]at g
   exact d3e (s:=s) e R f _ _ [q.defP.1.1] 1 y u r rfl (by omega) g
  ·rw[if_neg (by rw[h1,decide_eq_false h2];decide)]at g
   exact d3e (s:=s) e R f _ _ [q.defP.1.1] 1 y u r rfl (by omega) g
  ·rw[if_neg (by rw[h1];simp)]at g
   exact d3e (s:=s) e R f _ _ [q.defP.1.1] 1 y u r rfl (by omega) g
 ·rw[Ph hd]at g
  subst g
  exact Z4 (fun h1=>by rw[Xx,if_pos h1];exact Ws Xp) fun h1=>Yo (fun h2=>by rw[Xx,if_neg (by rw[h1];decide),if_pos h2];exact Ws Xp) fun h2=>Yo (fun h=>by rw[Xx,if_neg (by rw[h1];decide),if_neg h2,if_pos (Or.inr (Or.inl (show ex.length>60 by omega)))];exact Ws Xp) fun A=>by rw[Xx,if_neg (by rw[h1];decide),if_neg h2,if_neg (by rintro(h|h|h);exact absurd h (by decide);(have h:ex.length>60:=h;omega);exact absurd h (by show ¬ 0>60;decide))];exact Ws (a5o Zk e Zk)
 ·rw[BS hb]at g
  subst g
  exact Z4 (fun h1=>by rw[Xx,if_pos h1];exact Ws Xp) fun h1=>Yo (fun h2=>by rw[Xx,if_neg (by rw[h1];decide),if_pos h2];exact Ws Xp) fun h2=>Yo (fun h=>by rw[Xx,if_neg (by rw[h1];decide),if_neg h2,if_pos (Or.inr (Or.inl (show ex.length>60 by omega)))];exact Ws Xp) fun A=>by rw[Xx,if_neg (by rw[h1];decide),if_neg h2,if_neg (by rintro(h|h|h);exact absurd h (by decide);(have h:ex.length>60:=h;omega);exact absurd h (by show ¬ 0>60;decide))];exact Ws (a5o Zk e Zk)
theorem f5x{s w:List UInt8}{k:Nat}{n:Bool}{xs:List PV}(o:List Str)(L:Nat)(u:L=o.length){ex:List Str}(e:Ze ex (.sl k n xs))(R:R3 Mdu Int Int): ∀ (f:Nat) (q:PS) (v:Int),Zb q=true->ZI q.l=true->q.l.length<q.i+f->R=Xx ⟨w⟩ o ex (defL f q v []) ->
  At Xk 0 (Za YA (Ze R)) YC 1 108 [(2,.ptr 0 0),(5,.ptr 1 0),(6,.pv (.int .i64 v))] [.obj (.box [.pv (.str w),.row 2 L 0 L,.pv (.sl k n xs),.pv (.sl 0 true [])]),.obj (Zi q),.obj (.row false 9 1 (o.map enc))]:=by
 have hxl:=a5w e
 intro f q v j A hf g
 have hl:=Zm j
 obtain⟨f,rfl⟩ : ∃ m,f=m+1:=⟨f - 1,by omega⟩
 refine e6w s w q v k n xs o L (Yy (fun hb=>YW j (Z4 (fun hd=>Xf j (c5a j A ?_)) fun hd=>TG j ?_)) fun hb=>TG j ?_)
 ·rw[Ry hb hd]at g
  obtain⟨z,y,D,a4⟩:=JG j A hd
  have r:q.defP.2.l.length<q.defP.2.i+f:=by rw[D];omega
  refine Z4 (fun h1=>Yo (fun h2=> ?_) fun h2=> ?_) fun h1=> ?_
  ·rw[if_pos (by rw[h1,decide_eq_true h2];rfl)]at g
   exact d7a (s:=s) o L u e R f _ _ [q.defP.1.1] 1 z y r rfl (by omega) g
  ·rw[if_neg (by rw[h1,decide_eq_false h2];decide)]at g
   exact d7a (s:=s) o L u e R f _ _ [q.defP.1.1] 1 z y r rfl (by omega) g
  ·rw[if_neg (by rw[h1];simp)]at g
   exact d7a (s:=s) o L u e R f _ _ [q.defP.1.1] 1 z y r rfl (by omega) g
 ·rw[Ph hd]at g
  subst g
  exact Z4 (fun h1=>by rw[Xx,if_pos h1];exact Ws Xp) fun h1=>Yo (fun h2=>by rw[Xx,if_neg (by rw[h1];decide),if_pos h2];exact Ws Xp) fun h2=>Yo (fun h=>by rw[Xx,if_neg (by rw[h1];decide),if_neg h2,if_pos (Or.inl (show o.length>20 by omega))];exact Ws Xp) fun C=>Yo (fun h=>by rw[Xx,if_neg (by rw[h1];decide),if_neg h2,if_pos (Or.inr (Or.inl (show ex.length>60 by omega)))];exact Ws Xp) fun B=>⟨by simp[u],by rw[Xx,if_neg (by rw[h1];decide),if_neg h2,if_neg (by rintro(h|h|h);(have h:o.length>20:=h;omega);(have h:ex.length>60:=h;omega);exact absurd h (by show ¬ 0>60;decide))];exact Ws (a5o (by rw[VW o u];exact Um o rfl) e Zk)⟩
 ·rw[BS hb]at g
  subst g
  exact Z4 (fun h1=>by rw[Xx,if_pos h1];exact Ws Xp) fun h1=>Yo (fun h2=>by rw[Xx,if_neg (by rw[h1];decide),if_pos h2];exact Ws Xp) fun h2=>Yo (fun h=>by rw[Xx,if_neg (by rw[h1];decide),if_neg h2,if_pos (Or.inl (show o.length>20 by omega))];exact Ws Xp) fun C=>Yo (fun h=>by rw[Xx,if_neg (by rw[h1];decide),if_neg h2,if_pos (Or.inr (Or.inl (show ex.length>60 by omega)))];exact Ws Xp) fun B=>⟨by simp[u],by rw[Xx,if_neg (by rw[h1];decide),if_neg h2,if_neg (by rintro(h|h|h);(have h:o.length>20:=h;omega);(have h:ex.length>60:=h;omega);exact absurd h (by show ¬ 0>60;decide))];exact Ws (a5o (by rw[VW o u];exact Um o rfl) e Zk)⟩
theorem Fh{α:Type}{one:PS->α×PS}(e : ∀ s:PS,s.i<=s.l.length->Ge s (one s).2): ∀ (n:Nat) {s:PS} {o:List α},s.i<=s.l.length->(moreL one n s o).1.length+s.i<=o.length+(moreL one n s o).2.i
 | 0,s,o,_=>Nat.le_refl _
 | n+1,s,o,hi=>by
  rw[moreL]
  split
  ·exact Nat.le_refl _
  ·split
   ·have h:=Ge.step (Zc ‹_›)
    have g:=e _ h.hi
    have w:=Fh e n (o:=o++[(one s.step).1]) g.hi
    have e1:s.step.i=s.i+1:=rfl
    have e2:=g.le
    rw[List.length_append]at w
    simp only[List.length_cons,List.length_nil]at w
    omega
   ·exact Nat.le_refl _
theorem OG{α:Type}{one:PS->α×PS}(g : ∀ s:PS,s.i<=s.l.length->Ge s (one s).2){s:PS}(hi:s.i<=s.l.length):(listL one s).1.length+s.i<=1+(listL one s).2.i:=by
 have h:=g _ hi
 have w:=Fh g (s.l.length+1) (o:=[(one s).1]) h.hi
 have e:=h.le
 simp only[List.length_cons,List.length_nil]at w
 unfold listL
 omega
theorem b0k{α:Type}{one:PS->α×PS}: ∀ (n:Nat) {s:PS} {o:List α},o≠[]->(moreL one n s o).1≠[]
 | 0,s,o,h=>h
 | n+1,s,o,h=>by
  rw[moreL]
  split
  ·exact h
  ·split
   ·exact b0k n (by simp)
   ·exact h
theorem d5e{α:Type}{one:PS->α×PS}{s:PS}:(listL one s).1≠[]:=b0k _ (by simp)
theorem d2c{f:Nat}{s:PS}{o:List Str}(h:s.next ⟨[105,109,112,111,114,116]⟩=true):impL (f+1) s o=impL f (listL PS.name s.step).2 (o++(listL PS.name s.step).1):=by rw[impL,if_pos h]
theorem a6n{f:Nat}{s:PS}{o:List Str}(h:s.next ⟨[105,109,112,111,114,116]⟩=false):impL f s o=(o,s):=by
 cases f with
 | zero=>rfl
 | succ f=>rw[impL,if_neg (by rw[h];decide)]
theorem e5m{s:PS}(h:s.next ⟨[101,120,112,111,114,116]⟩=true):s.expo=listL PS.name s.step:=if_pos h
theorem d1n{s:PS}(h:s.next ⟨[101,120,112,111,114,116]⟩=false):s.expo=([],s):=if_neg (by rw[h];decide)
theorem g9o{s w:List UInt8}(W:Nat)(R:R3 Mdu Int Int): ∀ (f:Nat) (q:PS) (o:List Str) (L:Nat),Zb q=true->ZI q.l=true->q.l.length=W->q.l.length<q.i+f->L=o.length->L<=q.i->R=b4s W ⟨w⟩ (impL f q o) ->
  At Xk 0 (Za YA (Ze R)) YC 0 108 [(2,.ptr 0 0),(5,.ptr 1 0)] [.obj (.box [.pv (.str w),.row 2 L 0 L,.pv (.sl 0 true []),.pv (.sl 0 true [])]),.obj (Zi q),.obj (.row false 9 1 (o.map enc))]:=by
 intro f
 induction f with
 | zero=>intro q o L g _ _ A;have:=Zm g;omega
 | succ f ih=>
  intro q o L g z C A y hLi u
  have hl:=Zm g
  refine f5h s w q o L (Yg g (fun h=>Yd rfl ?_) fun h=>Yj (by simp) (Yg g (fun h2=>Yd rfl ?_) fun h2=>Yj (by simp) ?_))
  ·rw[d2c h]at u
   have j:=Ge.step (Zc h)
   have e:=j.ok g
   have k:=Ge.list (one:=PS.name) (fun s h=>Ge.name h) j.hi
   have n1:=OG (one:=PS.name) (fun s h=>Ge.name h) j.hi
   have e1:q.step.i=q.i+1:=rfl
   have e2:=k.le
   have B:=k.hi
   have r:(listL PS.name q.step).2.l=q.l:=by rw[k.l,j.l]
   rw[r]at B
   refine RZ e ⟨by rw[show(Enc.sz Str==1)=true from rfl,Bool.or_true],by simp[y];omega,?_⟩
   rw[<- List.map_append]
   exact ih _ _ _ (k.ok e) (by rw[r];exact z) (by rw[r];exact C) (by rw[r];omega) (by simp[y]) (by simp;omega) u
  ·rw[a6n h]at u
   have j:=Ge.step (Zc h2)
   have e:=j.ok g
   have k:=Ge.list (one:=PS.name) (fun s h=>Ge.name h) j.hi
   have r:(listL PS.name q.step).2.l=q.l:=by rw[k.l,j.l]
   refine RZ e ?_
   refine f5x (s:=s) o L y (ex:=(listL PS.name q.step).1) (Zq rfl) R (W+1) _ (-1) (k.ok e) (by rw[r];exact z) (by rw[r];omega) ?_
   rw[u];unfold b4s;rw[e5m h2]
  ·rw[a6n h]at u
   refine f5x (s:=s) o L y (ex:=[]) Zk R (W+1) _ (-1) g z (by omega) ?_
   rw[u];unfold b4s;rw[d1n h2]
theorem g7d{s w:List UInt8}(W:Nat)(R:R3 Mdu Int Int)(f:Nat)(q:PS)(u:Zb q=true)(y:ZI q.l=true)(A:q.l.length=W)(hf:q.l.length<q.i+(f+1))(k:R=b4s W ⟨w⟩ (impL (f+1) q [])):
  At Xk 0 (Za YA (Ze R)) YC 0 108 [(2,.ptr 0 0),(5,.ptr 1 0)] [.obj (.box [.pv (.str w),.pv (.sl 0 true []),.pv (.sl 0 true []),.pv (.sl 0 true [])]),.obj (Zi q)]:=by
 have hl:=Zm u
 refine f4j s w q (Yg u (fun h=>Yd rfl ?_) fun h=>Yj (by simp) (Yg u (fun h2=>Yd rfl ?_) fun h2=>Yj (by simp) ?_))
 ·rw[d2c h]at k
  have g:=Ge.step (Zc h)
  have e:=g.ok u
  have r:=Ge.list (one:=PS.name) (fun s h=>Ge.name h) g.hi
  have n1:=OG (one:=PS.name) (fun s h=>Ge.name h) g.hi
  have e1:q.step.i=q.i+1:=rfl
  have e2:=r.le
  have z:=r.hi
  have j:(listL PS.name q.step).2.l=q.l:=by rw[r.l,g.l]
  rw[j]at z
  have ne:= @d5e Str PS.name q.step
  refine RZ e ⟨by rw[show(Enc.sz Str==1)=true from rfl,Bool.or_true],Yj (by simpa using ne) ⟨by simp;omega,?_⟩⟩
  rw[List.nil_append]at k ⊢
  exact g9o (s:=s) W R f _ _ _ (r.ok e) (by rw[j];exact y) (by rw[j];exact A) (by rw[j];omega) (by simp) (by simp;omega) k
 ·rw[a6n h]at k
  have g:=Ge.step (Zc h2)
  have e:=g.ok u
  have r:=Ge.list (one:=PS.name) (fun s h=>Ge.name h) g.hi
  have j:(listL PS.name q.step).2.l=q.l:=by rw[r.l,g.l]
  refine RZ e ?_
  refine f7i (s:=s) (ex:=(listL PS.name q.step).1) (Zq rfl) R (W+1) _ (-1) (r.ok e) (by rw[j];exact y) (by rw[j];omega) ?_
  rw[k];unfold b4s;rw[e5m h2]
 ·rw[a6n h]at k
  refine f7i (s:=s) (ex:=[]) Zk R (W+1) _ (-1) u y (by omega) ?_
  rw[k];unfold b4s;rw[d1n h2]
theorem f3f: ∀ x:Str×Unit,true=true->Zj Xk 0 (Za YA (Ze (YH x.1))) YC [] (YN f9h (encL x)):=by
 rintro⟨⟨s⟩,⟨⟩⟩ hs
 have hb:=a4d s
 have i:ZI (Kb s).l=true:=(Dq ⟨s⟩).1
 have k:=Zm hb
 show Zj Xk 0 (Za YA (Ze (YH ⟨s⟩))) YC [] _
 refine g6v s ⟨rfl,a9k (fun h=> ?_) fun h=> ?_⟩
 ·unfold YH;rw[if_pos h];exact Ws Xp
 rw[a2e h]
 have g:=Ge.need (w:=⟨[109,111,100,117,108,101]⟩) k.2
 have e:=g.ok hb
 have j:=Ge.name g.hi
 have K:=g.trans j
 refine ZL hb (KM e ?_)
 exact g7d (s:=s) (Kb s).l.length _ (Kb s).l.length _ (K.ok hb) (by rw[K.l];exact i) (by rw[K.l]) (by rw[K.l];omega) rfl
set_option maxRecDepth 100000
noncomputable def d9x:IC:=X5 Proofs.Tryz.f137
def d6v:List IRes:=[(.cell true 2 2)]
abbrev g5n:Nat:=7
noncomputable def f7k:ZP:=Y9 []
theorem h1p{G:PV->Prop}(s:List UInt8)(h:G ((.agg [(.int .i64 0),(.sl 2 false [(.agg [(.str s),(.int .i64 1)])])]))):Zj f7k 0 (Za d6v G) d9x [] (YN 7 [.str s]):=Zj.tp (.lit (.lit (.nil))) h
noncomputable def d8l:IC:=X5 Proofs.Tryz.f98
def d5p:List IRes:=[(.tmp 2),(.tmp 3)]
abbrev g5f:Nat:=41
noncomputable def f8j:ZP:=Y9 [f6p,(123,.pure (preT (fun x:Str×Unit=>decide (x.1.s.length<=281474976710656))) (Zt (fun x:Str×Unit=>Yz x.1)))]
def CQ:PV:=.tup [.int .i64 0,.bool false]
def e0q(h:List UInt8)(Zn:PV->Prop):Prop:=(Go.Pl.preT (fun(g:Str×Unit)=>decide (List.length (Str.s g.1)<=281474976710656)) [.str h])=true∧(∃ e:Int×Er,(AV.pv (Zt (fun(g:Str×Unit)=>Yz g.1) [.str h])=AV.pv (enc e))∧((TF (enc e.2)&&Prod.fst (true,PV.bool !Ul (enc e.2)))=true∧(if (!Ul (enc e.2))=true then Zn (CQ)else(if (decide (e.1>2147483648))=true then Zn (CQ)else(Zn (.tup [.int .i64 e.1,.bool true]))))))
def g9a{G:PV->Prop}(s:List UInt8):=Qb (if (s==[])=true then G (CQ)else(if (decide ((↑(List.length s):Int)>10))=true then G (CQ)else((Go.Pl.preT Lx (SF s))=true∧(∃ e:Str,(AV.pv (Zt Nq (SF s))=AV.pv (enc e))∧(if (!Str.s e==s)=true then G (CQ)else((KI s)=true∧(if ((↑(TD s):Int)==48)=true then if (decide ((↑(List.length s):Int)>1))=true then G (CQ)else(e0q s G)else(e0q s G)))))))) G (dm [dv Str,dv (Int×Er)] 126 0x1422202220044161222222000014222022200441610001422222201f42221202222220074222251202222222222200c42222022222222222222201042) f8j d5p d8l (YN 41 [.str s]) (by delta CQ Lx SF Nq KI TD e0q;exact rfl)
def b6c:IC:=(Hu [Xj 0 (.alloc (.agg [(.str []),(.str []),(.str []),(.str []),(.str []),(.str []),(.str []),(.str []),(.str []),(.str []),(.str []),(.str []),(.str []),(.str []),(.str []),(.str []),(.str []),(.str []),(.str []),(.str []),(.str []),(.str []),(.str []),(.str []),(.str []),(.str []),(.str []),(.str [])])) 0] (Hu [Xj 1 (.build [(.str []),(.str []),(.str []),(.str []),(.str []),(.str []),(.str []),(.str []),(.str []),(.str []),(.str []),(.str []),(.str []),(.str []),(.str []),(.str []),(.str []),(.str []),(.str []),(.str []),(.str []),(.str []),(.str []),(.str []),(.str []),(.str []),(.str []),(.str [])] [(0,(1,(.c (.str [46,46])))),(1,(1,(.c (.str [61,61])))),(2,(1,(.c (.str [33,61])))),(3,(1,(.c (.str [60,61])))),(4,(1,(.c (.str [62,61])))),(5,(1,(.c (.str [45,62])))),(6,(1,(.c (.str [38,38])))),(7,(1,(.c (.str [124,124])))),(8,(1,(.c (.str [40])))),(9,(1,(.c (.str [41])))),(10,(1,(.c (.str [91])))),(11,(1,(.c (.str [93])))),(12,(1,(.c (.str [123])))),(13,(1,(.c (.str [125])))),(14,(1,(.c (.str [44])))),(15,(1,(.c (.str [58])))),(16,(1,(.c (.str [46])))),(17,(1,(.c (.str [64])))),(18,(1,(.c (.str [35])))),(19,(1,(.c (.str [61])))),(20,(1,(.c (.str [60])))),(21,(1,(.c (.str [62])))),(22,(1,(.c (.str [43])))),(23,(1,(.c (.str [45])))),(24,(1,(.c (.str [42])))),(25,(1,(.c (.str [47])))),(26,(1,(.c (.str [37])))),(27,(1,(.c (.str [33]))))]) 0,o'' (.store 28 (.t 0) (.t 1)) 0] .ret))
def b4a:List IRes:=[(.cell true 28 0)]
abbrev g4p:Nat:=2
noncomputable def d1w:ZP:=Y9 []
theorem g6y{G:PV->Prop}(h:G ((.agg [(.str [(46:UInt8),(46:UInt8)]),(.str [(61:UInt8),(61:UInt8)]),(.str [(33:UInt8),(61:UInt8)]),(.str [(60:UInt8),(61:UInt8)]),(.str [(62:UInt8),(61:UInt8)]),(.str [(45:UInt8),(62:UInt8)]),(.str [(38:UInt8),(38:UInt8)]),(.str [(124:UInt8),(124:UInt8)]),(.str [(40:UInt8)]),(.str [(41:UInt8)]),(.str [(91:UInt8)]),(.str [(93:UInt8)]),(.str [(123:UInt8)]),(.str [(125:UInt8)]),(.str [(44:UInt8)]),(.str [(58:UInt8)]),(.str [(46:UInt8)]),(.str [(64:UInt8)]),(.str [(35:UInt8)]),(.str [(61:UInt8)]),(.str [(60:UInt8)]),(.str [(62:UInt8)]),(.str [(43:UInt8)]),(.str [(45:UInt8)]),(.str [(42:UInt8)]),(.str [(47:UInt8)]),(.str [(37:UInt8)]),(.str [(33:UInt8)])]))):Zj d1w 0 (Za b4a G) b6c [] (YN 2 []):=Zj.tp (.nil) h
theorem f2d: ∀ x:Str×Unit,true=true->Zj f7k 0 (Za d6v (Ze (BD x.1))) d9x [] (YN g5n (encL x)):=by
 rintro⟨⟨s⟩,⟨⟩⟩ _
 exact h1p s (Zq (x:=BD ⟨s⟩) rfl)
theorem e7x(ps:List PV)(h:RV ps=true):Zj d1w 0 (Za b4a (fun p=>p=a2u ps)) b6c [] (YN g4p ps):=by
 unfold RV at h
 split at h
 ·exact g6y rfl
 ·cases h
theorem e0x{d:List UInt8}(k:d≠[])(hd:d.all digB=true)(j:d.length<=10):Yz ⟨d⟩=(Lv d,⟨false⟩):=by
 cases d with
 | nil=>exact absurd rfl k
 | cons c r=>
  have h1:=hd
  simp only[List.all_cons,Bool.and_eq_true,WT]at h1
  have hv:=EN (c::r) 0 hd
  have hp:10 ^ (c::r).length<=10 ^ 10:=Nat.pow_le_pow_right (by omega) j
  have g:=Sg (c::r) 0 hd (by omega)
  have h:Lib.atoiAll (c::r) = .ok (Jm 0 (c::r):Int):=by
   have l : ¬ (c.toNat=43∨c.toNat=45):=by omega
   have i : ¬ c.toNat=45:=by omega
   simp only[Lib.atoiAll,if_neg l,Lib.parseMag,if_neg (show ¬ (c::r=[]) by simp),g]
   rw[if_neg (by omega),if_neg (fun e=>i e.1),if_neg i]
  simp only[Yz,h]
  rw[d9o _ _ rfl hd]
theorem Fx{p:UInt8->Bool}: ∀ {s:List UInt8},s.takeWhile p=s->s.all p=true
 | [],_=>rfl
 | c::s,h=>by
  rw[List.takeWhile_cons]at h
  split at h
  ·rename_i q
   rw[List.all_cons,q,Fx (List.cons.inj h).2];rfl
  ·cases h
theorem OW{p:UInt8->Bool}: ∀ {s:List UInt8},s.all p=true->s.takeWhile p=s
 | [],_=>rfl
 | c::s,h=>by
  rw[List.all_cons,Bool.and_eq_true]at h
  rw[List.takeWhile_cons,if_pos h.1,OW h.2]
theorem OI{n:Int}{b:Bool}:Ze ((n,b):Int×Bool) (.tup [.int .i64 n,.bool b]):=⟨rfl,rfl⟩
theorem e7l: ∀ x:Str×Unit,decide (x.1.s.length<=1048576)=true->Zj f8j 0 (Za d5p (Ze (U1 x.1))) d8l [] (YN g5f (encL x)):=by
 rintro⟨⟨s⟩,⟨⟩⟩ hs
 have hw:s.length<=1048576:=of_decide_eq_true hs
 have k:Mr s=false->U1 ⟨s⟩=(0,false):=fun h=>by unfold U1;rw[h];rfl
 refine g9a s (Yw (fun g=> ?_) fun g=>Yo (fun h1=> ?_) fun h1=>⟨Zo ((⟨s⟩:Str),false,()) rfl hs,Zf ((⟨s⟩:Str),false,()) rfl (Yy (fun h2=> ?_) fun h2=> ?_)⟩)
 ·have g:s=[]:=g
  subst g
  exact OI
 ·rw[show U1 ((⟨s⟩:Str),()).1=_ from k (by unfold Mr;rw[decide_eq_false (show ¬ s.length<=10 by omega)];simp)]
  exact OI
 ·have h2:((YQ ⟨s⟩ false).s==s)=false:=h2
  have hd:s.all digB=false:=by
   cases e:s.all digB with
   | false=>rfl
   | true=>
    have y:(YQ ⟨s⟩ false).s=s:=OW (p:=fun c=>digB c||(false&&lowB c)) (by
     rw[show(fun c=>digB c||(false&&lowB c))=digB from funext fun c=>by simp]
     exact e)
    rw[y]at h2
    simp at h2
  rw[show U1 ((⟨s⟩:Str),()).1=_ from k (by unfold Mr;rw[hd];simp)]
  exact OI
 ·have g:s≠[]:=g
  have h2:((YQ ⟨s⟩ false).s==s)=true:=h2
  have hd:s.all digB=true:=by
   have h3:(YQ ⟨s⟩ false).s=s:=by simpa using h2
   have:=Fx (p:=fun c=>digB c||(false&&lowB c)) (s:=s) h3
   rw[show(fun c=>digB c||(false&&lowB c))=digB from funext fun c=>by simp]at this
   exact this
  have l:s.length<=10:=by omega
  have hp:0<s.length:=List.length_pos_iff.2 g
  have u:s.isEmpty=false:=by cases s with|nil=>exact absurd rfl g|cons _ _=>rfl
  have ha:=e0x g hd l
  have last:(decide (s.head? = some 48)&&decide (1<s.length))=false->preT (fun(x:Str×Unit)=>decide (List.length (Str.s (Prod.fst x))<=281474976710656)) [(.str s)]=true∧ ∃ i:Int×Er,AV.pv (Zt (fun(x:Str×Unit)=>Yz (Prod.fst x)) [(.str s)])=AV.pv (enc i)∧((TF (enc (Prod.snd i))&&Prod.fst (true,PV.bool !Ul (enc (Prod.snd i))))=true∧(if (!Ul (enc (Prod.snd i)))=true then Ze (U1 ⟨s⟩) (.tup [.int .i64 0,.bool false])else if decide (Prod.fst i>2147483648)=true then Ze (U1 ⟨s⟩) (.tup [.int .i64 0,.bool false])else Ze (U1 ⟨s⟩) (.tup [.int .i64 (Prod.fst i),.bool true]))):=fun j=>by
   refine⟨Zo ((⟨s⟩:Str),()) rfl (decide_eq_true (by show s.length<=281474976710656;omega)),Zf ((⟨s⟩:Str),()) rfl ?_⟩
   rw[show Yz ((⟨s⟩:Str),()).1=(Lv s,⟨false⟩)from ha]
   refine⟨rfl,Yj (show ¬ (!Ul (enc (⟨false⟩:Er)))=true by decide) (Yo (fun h3=> ?_) fun h3=> ?_)⟩
   ·rw[k (by unfold Mr;rw[decide_eq_false (show ¬ Lv s<=2147483648 by omega),Bool.and_false])]
    exact OI
   ·rw[show U1 ⟨s⟩=(Lv s,true) by
     unfold U1 Mr
     rw[u,decide_eq_true l,hd,j,decide_eq_true (show Lv s<=2147483648 by omega)]
     rfl]
    exact OI
  refine⟨by simp;omega,Yw (fun h3=>Yo (fun q=> ?_) fun q=>last (by rw[decide_eq_false (show ¬ 1<s.length by omega),Bool.and_false])) fun h3=>last ?_⟩
  ·have j:s.head? = some 48:=by
    cases s with
    | nil=>exact absurd rfl g
    | cons c r=>
     have h3:(c.toNat:Int)=48:=h3
     have:c=48:=UInt8.toNat_inj.1 (by show c.toNat=48;omega)
     rw[this];rfl
   rw[show U1 ((⟨s⟩:Str),()).1=_ from k (by unfold Mr;rw[decide_eq_true j,decide_eq_true (show 1<s.length by omega)];simp)]
   exact OI
  ·have j:s.head? ≠ some 48:=by
    cases s with
    | nil=>exact absurd rfl g
    | cons c r=>
     have h3:(c.toNat:Int)≠48:=h3
     intro e
     have e:c=48:=by simpa using e
     rw[e]at h3
     exact h3 rfl
   rw[decide_eq_false j];rfl
theorem g1i{r:Str}{d:List Lin}(h:M3 r d=true):spW ⟨r,d⟩=true:=by
 unfold M3 at h
 unfold spW
 simp only[Bool.and_eq_true]at h ⊢
 exact⟨⟨h.1,h.2.1⟩,h.2.2⟩
structure TyBdF (t:TyS):Prop where
 elem:t.elem.s.length<=1048576
 sp:spW ⟨t.row,t.dims⟩=true
theorem e7p{t:TyS}(h:Ja t=true):TyBdF t:=by
 unfold Ja at h
 simp only[Bool.and_eq_true,decide_eq_true_eq]at h
 exact⟨h.1,g1i h.2⟩
theorem a9d: ∀ x:TyS×Unit,Ja x.1=true->Zj b0v 0 (Za OD (Ze (LG x.1))) FM [] (YN c7c (encL x)):=by
 rintro⟨t,⟨⟩⟩ h
 have g:=e7p h
 have y:elB t.elem.s=true->shV t.row t.dims=LG t:=fun e=>by unfold LG;rw[e];rfl
 refine d5g t (Yw (fun h1=>⟨Zo (⟨t.row,t.dims⟩,()) rfl g.sp,Zf (⟨t.row,t.dims⟩,()) rfl (ZG (y ?_))⟩) fun h1=>Yw (fun h2=>⟨Zo (⟨t.row,t.dims⟩,()) rfl g.sp,Zf (⟨t.row,t.dims⟩,()) rfl (ZG (y ?_))⟩) fun h2=>⟨Zo (t.elem,()) rfl (decide_eq_true g.elem),Zf (t.elem,()) rfl (Z4 (fun h3=>⟨Zo (⟨t.row,t.dims⟩,()) rfl g.sp,Zf (⟨t.row,t.dims⟩,()) rfl (ZG (y ?_))⟩) fun h3=>ZG ?_)⟩)
 ·unfold elB;rw[show t.elem.s=Vp from h1];rfl
 ·unfold elB;rw[show t.elem.s=XN from h2];rfl
 ·unfold elB;rw[show evB t.elem.s=true from h3,Bool.or_true]
 ·have h3:evB t.elem.s=false:=h3
  unfold LG elB
  rw[h3,decide_eq_false (show ¬ t.elem.s=Vp from h1),decide_eq_false (show ¬ t.elem.s=XN from h2)];rfl
def RS.tok(s:RS)(k:Nat):Tok:=s.l.getD (s.i+k) ⟨0,⟨[]⟩,0,0⟩
end Go.Pl
namespace Go.Pl
open Go.RowKit
open Enc (enc dec is)
open EncL (encL decL isL)
end Go.Pl
namespace Go.Pl
open Go.RowKit
open Enc (enc dec is)
open EncL (encL decL isL)
theorem e4p{args:List AV}{os:List AObj}(h:Ao args os=true): ∃ s:List UInt8,args=[.pv (.str s)]∧os=[]:=by
 unfold Ao at h
 split at h
 ·exact⟨_,rfl,rfl⟩
 ·cases h
theorem f2w: ∀ args os,Ao args os=true->Zj c4e os.length (Ye os.length a1e (fun r=>r=EU args os)) a2t [] (Z8 d9b args os):=fun args os h=>by
 obtain⟨s,rfl,rfl⟩:=e4p h
 exact e7k s
section
mutual
theorem a8q: ∀ t:Tm,exM t t=true
 | .mk n ks=>by rw[exM,decide_eq_true rfl,Og ks];rfl
theorem Og: ∀ ts:List Tm,Re ts ts=true
 | []=>rfl
 | k::ks=>by rw[Re,a8q k,Og ks];rfl
end
end
end Go.Pl
namespace Go.Pl
open Go.RowKit
section
def Am(l:List Tok):Prop:=l.Pairwise (fun a b=>a.ln<=b.ln)∧ ∀ t∈l,1<=t.ln∧0<=t.o
theorem Am.nil:Am []:=⟨.nil,fun t h=>by cases h⟩
theorem c5q: ∀ (f:Nat) (s:List UInt8) (i:Nat) (ln:Int) (o:List Tok),1<=ln->Am o->(∀ t∈o,t.ln<=ln)->Am (Sj f s i ln o).a
 | 0,s,i,ln,o,h1,h2,h3=>h2
 | f+1,s,i,ln,o,h1,h2,h3=>by
  rw[Sj]
  generalize he:ln+((Lib.countByte ((s.drop i).take (QP ⟨s.drop i⟩).toNat) 10:Nat):Int)=ln'
  have hge:ln<=ln':=by omega
  split
  ·exact h2
  ·split
   ·exact Am.nil
   ·split
    ·exact Am.nil
    ·refine c5q f s _ ln' _ (by omega) ⟨?_,?_⟩ ?_
     ·refine List.pairwise_append.2 ⟨h2.1,List.pairwise_singleton _ _,fun a ha b hb=> ?_⟩
      rw[List.mem_singleton]at hb
      subst hb
      have:=h3 a ha
      show a.ln<=ln'
      omega
     ·intro t ht
      rcases List.mem_append.1 ht with ht|ht
      ·exact h2.2 t ht
      ·rw[List.mem_singleton]at ht
       subst ht
       exact⟨show 1<=ln' by omega,Int.natCast_nonneg _⟩
     ·intro t ht
      rcases List.mem_append.1 ht with ht|ht
      ·have:=h3 t ht;omega
      ·rw[List.mem_singleton]at ht
       subst ht
       exact Int.le_refl _
theorem BM(s:Str):Am (Y4 s).a:=by
 unfold Y4
 split
 ·exact Am.nil
 ·exact c5q _ _ _ _ _ (Int.le_refl _) Am.nil (fun t h=>by cases h)
theorem d7w{s t:PS}(h:Am s.l)(g:t.l=s.l)(le:s.i<=t.i)(hi:t.i<t.l.length):(s.peek 0).ln<=(t.peek 0).ln:=by
 have hs:s.i+0<s.l.length:=by rw[g]at hi;omega
 have ht:t.i+0<t.l.length:=hi
 rw[Da hs,Da ht]
 have e:t.l[t.i+0]=s.l[t.i+0]'(by rw[g]at ht;exact ht):=by simp only[g]
 rw[e]
 rcases Nat.eq_or_lt_of_le le with q|q
 ·simp only[q];exact Int.le_refl _
 ·exact List.pairwise_iff_getElem.1 h.1 _ _ _ _ (by omega)
theorem e9v{s t:PS}(h:Am s.l)(k:Ge s t)(hi:t.i<t.l.length):(s.peek 0).ln<=(t.peek 0).ln:=d7w h k.l k.le hi
theorem a7b{s:PS}(h:Am s.l)(hi:s.i<s.l.length):1<=(s.peek 0).ln∧0<=(s.peek 0).o:=by
 have hi:s.i+0<s.l.length:=hi
 rw[Da hi]
 exact h.2 _ (List.getElem_mem _)
def LX(N:Nat)(ex:PS->Tm×PS):Prop:= ∀ s,ZI s.l=true->Am s.l->Yb N s->s.i<=s.l.length->(ex s).2.bad=false->(s.peek 0).ln<=(ex s).1.nd.line
def LU(N:Nat)(un:PS->(Tm×Int)×PS):Prop:= ∀ s,ZI s.l=true->Am s.l->Yb N s->s.i<=s.l.length->(un s).2.bad=false->(s.peek 0).ln<=(un s).1.1.nd.line∧(un s).1.2=(s.peek 0).ln
section
variable {N:Nat} {ex:PS->Tm×PS}
theorem WX.lt(q:WX N ex)(g:Hf N ex){s:PS}(j:ZI s.l=true)(e:Yb N s)(hi:s.i<=s.l.length)(h:(ex s).2.bad=false):s.i<s.l.length:=by
 have w:=q s j e hi h
 have p:=a6c (ex s).1
 have k:=g s e hi
 have r:=k.hi
 rw[k.l]at r
 omega
theorem g2y(u:Hf N ex)(D:WX N ex)(B:LX N ex){s:PS}(y:ZI s.l=true)(hu:Am s.l)(z:Yb (N+1) s)(hi:s.i<=s.l.length)(h:(Xe ex s).2.bad=false):(s.peek 0).ln<=(Xe ex s).1.nd.line:=by
 have r : ∀ (n:Nd) (ks:List Tm),n.line=(s.peek 0).ln->(s.peek 0).ln<=(Tm.mk n ks).nd.line:=fun n ks e=>by show _<=n.line;rw[e];exact Int.le_refl _
 unfold Xe at h ⊢
 dsimp only at h ⊢
 split at h
 ·rename_i q;rw[if_pos q];exact r _ _ rfl
 rename_i q;rw[if_neg q]
 split at h
 ·rename_i q;rw[if_pos q]
  unfold Xd
  split
  ·exact r _ _ rfl
  ·exact r _ _ rfl
 rename_i q;rw[if_neg q]
 split at h
 ·rename_i q;rw[if_pos q];exact r _ _ rfl
 rename_i q;rw[if_neg q]
 split at h
 ·rename_i q;rw[if_pos q];exact r _ _ rfl
 rename_i q;rw[if_neg q]
 split at h
 ·rename_i q;rw[if_pos q]
  have g:=Zc q
  have j:=Ge.step g
  have k:=z.step g
  have C:=u _ k j.hi
  have A:=Ge.need (w:=⟨[41]⟩) C.hi
  have b:=A.good h
  have lt:=D.lt u (s:=s.step) y k j.hi b
  exact Int.le_trans (e9v hu j lt) (B s.step y hu k j.hi b)
 rename_i q;rw[if_neg q]
 split at h
 ·rename_i q;rw[if_pos q];exact r _ _ rfl
 rename_i q;rw[if_neg q]
 split at h
 ·rename_i q;rw[if_pos q];exact r _ _ rfl
 rename_i q;rw[if_neg q]
 split at h
 ·rename_i q;rw[if_pos q];exact r _ _ rfl
 rename_i q;rw[if_neg q]
 split at h
 ·rename_i q;rw[if_pos q];exact r _ _ rfl
 rename_i q;rw[if_neg q]
 split at h
 ·rename_i q;rw[if_pos q];exact r _ _ rfl
 rename_i q;rw[if_neg q]
 exact r _ _ rfl
theorem g7w(e:Hf N ex)(k:WX N ex)(r:LX N ex){un:PS->(Tm×Int)×PS}{s:PS}(j:ZI s.l=true)(hu:Am s.l)(g:Yb (N+1) s)(hi:s.i<=s.l.length)(h:(V8 ex un s).2.bad=false):(s.peek 0).ln<=(V8 ex un s).1.1.nd.line∧(V8 ex un s).1.2=(s.peek 0).ln:=by
 unfold V8 at h ⊢
 dsimp only at h ⊢
 split at h
 ·rename_i q;rw[if_pos q];exact⟨Int.le_refl _,rfl⟩
 rename_i q;rw[if_neg q]
 split at h
 ·rename_i q;rw[if_pos q];exact⟨Int.le_refl _,rfl⟩
 rename_i q;rw[if_neg q]
 exact⟨g2y e k r j hu g hi h,rfl⟩
theorem b2s{fr:PS->(Tm×Int)×PS}{lev ln a:Int}(ha:a<=ln): ∀ (n:Nat) {s:PS} {l:Tm},a<=l.nd.line->a<=(opLoop fr lev ln n s l).1.1.nd.line∧(opLoop fr lev ln n s l).1.2=ln
 | 0,s,l,h=>⟨h,rfl⟩
 | n+1,s,l,h=>by
  rw[opLoop]
  split
  ·exact⟨h,rfl⟩
  ·split
   ·exact⟨h,rfl⟩
   ·split
    ·exact⟨ha,rfl⟩
    ·exact b2s ha n (l:=.mk (Jp 6 ln s.oper.1.1) [l,(fr s.step).1.1]) ha
theorem d7f{un:PS->(Tm×Int)×PS}(hu:Rs (N+1) un)(j:LU (N+1) un): ∀ d:Nat,d<=5->LU (N+1) (Yt un d)
 | 0,_=>j
 | d+1,hd=>fun s u y e hi h=>by
  have i:=Ge.from hu d (by omega)
  have q:=i s e hi
  have r:=Ge.opLoop (ln:=(Yt un d s).1.2) (lev:=5 - (d:Int)) (by omega) i (s.l.length+1) (l:=(Yt un d s).1.1) (e.ge q) q.hi
  rw[Yt]at h ⊢
  have g:=d7f hu j d (by omega) s u y e hi (r.good h)
  have k:=b2s (fr:=Yt un d) (lev:=5 - (d:Int)) (ln:=(Yt un d s).1.2) (a:=(s.peek 0).ln) (by rw[g.2];exact Int.le_refl _) (s.l.length+1) (s:=(Yt un d s).2) (l:=(Yt un d s).1.1) g.1
  exact⟨k.1,k.2.trans g.2⟩
theorem g8f{un:PS->(Tm×Int)×PS}(hu:Rs (N+1) un)(g:LU (N+1) un){s:PS}(j:ZI s.l=true)(k:Am s.l)(e:Yb (N+1) s)(hi:s.i<=s.l.length)(h:(exB ex un s).2.bad=false):(s.peek 0).ln<=(exB ex un s).1.nd.line:=by
 unfold exB at h ⊢
 dsimp only at h ⊢
 split at h
 ·rename_i q;rw[if_pos q];exact Int.le_refl _
 ·rename_i q;rw[if_neg q]
  exact(d7f hu g 5 (by omega) s j k e hi h).1
end
theorem e3q: ∀ N,LX N (ZZ N)∧LU N (Qm N)
 | 0=>⟨fun t _ _ e=>by unfold Yb at e;omega,fun t _ _ e=>by unfold Yb at e;omega⟩
 | N+1=>by
  obtain⟨r,hU⟩:=e3q N
  obtain⟨l,hu⟩:=XJ N
  have q:=(Ns N).1
  have i:=(XJ (N+1)).2
  have g:LU (N+1) (Qm (N+1)):=fun t j k e hi h=>by
   rw[Q3]at h ⊢
   exact g7w l q r j k e hi h
  exact⟨fun t j k e hi h=>by
   rw[UB]at h ⊢
   exact g8f i g j k e hi h,g⟩
theorem g4y{s:PS}(hs:Zb s=true)(e:ZI s.l=true)(j:Am s.l)(h:s.expr.2.bad=false):s.i<s.l.length∧(s.peek 0).ln<=s.expr.1.nd.line:=by
 have h1:=Zm hs
 have g:Yb 4001 s:=by unfold Yb;omega
 exact⟨(Ns 4001).1.lt (XJ 4001).1 e g h1.2 h,(e3q 4001).1 s e j g h1.2 h⟩
end
def ME(s:PS):Prop:=s.bad=false∧s.big=false
theorem Ge.clean{s t:PS}(h:Ge s t)(k:ME t):ME s:=by
 refine⟨h.good k.1,?_⟩
 cases e:s.big with
 | true=>have:=h.big e;rw[k.2]at this;cases this
 | false=>rfl
structure St0 (s:PS):Prop where
 ok:Zb s=true
 lx:ZI s.l=true
 up:Am s.l
theorem St0.ge{s t:PS}(h:St0 s)(k:Ge s t):St0 t:=⟨k.ok h.ok,by rw[k.l];exact h.lx,by rw[k.l];exact h.up⟩
theorem St0.hi{s:PS}(h:St0 s):s.i<=s.l.length:=(Zm h.ok).2
theorem EM{s:PS}(e:ZI s.l=true)(h:s.name.2.bad=false):nameI s.name.1.s=true:=by
 unfold PS.name at h ⊢
 split at h
 ·rename_i h1
  rw[if_pos h1]
  have h2:=b2h e (YU (s:=s) (by omega))
  unfold a1d at h2
  simp only[Bool.and_eq_true,Bool.or_eq_true,decide_eq_true_eq]at h2
  rcases h2.1 with h3|h3
  ·exact absurd h1 h3
  ·exact h3
 ·cases h
def PmQ(p:Pm):Prop:=nameI p.name.s=true∧(p.given=true->LG p.ty=true)∧Ja p.ty=true
theorem c2t{s:PS}(h:St0 s)(k:ME s.param.2):PmQ s.param.1:=by
 unfold PS.param at k ⊢
 split at k
 ·rename_i q;rw[if_pos q]
  have i:=Ge.name h.hi
  have g:=Ge.step (Zc q)
  have j:=Ge.typ (s:=s.name.2.step) g.hi
  have c:=k.2
  refine⟨EM h.lx ((g.trans j).good k.1),fun _=> ?_,a4z (g.ok (i.ok h.ok))⟩
  have c:(s.name.2.step.shape0.2.elem.2.big || !(LG s.name.2.step.typT))=false:=c
  show LG s.name.2.step.typT=true
  cases e:LG s.name.2.step.typT with
  | true=>rfl
  | false=>rw[e]at c;simp at c
 ·rename_i q;rw[if_neg q]
  exact⟨EM h.lx k.1,(fun e=>by cases e),rfl⟩
theorem c2g{α:Type}{one:PS->α×PS}{Q:α->Prop}(j : ∀ s,St0 s->Ge s (one s).2)(h1 : ∀ s,St0 s->ME (one s).2->Q (one s).1): ∀ (n:Nat) {s:PS} {o:List α},St0 s->(∀ x∈o,Q x)->ME (moreL one n s o).2-> ∀ x∈(moreL one n s o).1,Q x
 | 0,s,o,hs,ho,hc=>ho
 | n+1,s,o,hs,ho,hc=>by
  rw[moreL]at hc ⊢
  split at hc
  ·rename_i q;rw[if_pos q];exact ho
  ·rename_i q;rw[if_neg q]
   split at hc
   ·rename_i g;rw[if_pos g]
    have u:=Ge.step (Zc g)
    have i:=hs.ge u
    have l:=j _ i
    have r:Ge (one s.step).2 (moreL one n (one s.step).2 (o++[(one s.step).1])).2:=Ge.moreL (B:=fun s=>St0 s) (fun _ _ h k=>h.ge k) (fun s h _=>j s h) n (i.ge l) l.hi
    refine c2g j h1 n (i.ge l) ?_ hc
    intro x e
    rcases List.mem_append.1 e with e|e
    ·exact ho x e
    ·rw[List.mem_singleton]at e
     subst e
     exact h1 _ i (r.clean hc)
   ·rename_i g;rw[if_neg g];exact ho
theorem h1r{s:PS}(h:St0 s)(k:ME s.dfP.2): ∀ p∈s.dfP.1,PmQ p:=by
 unfold PS.dfP at k ⊢
 split at k
 ·rename_i q;rw[if_pos q];exact fun p i=>by cases i
 ·rename_i q;rw[if_neg q]
  split at k
  ·rename_i g;rw[if_pos g];exact fun p i=>by cases i
  ·rename_i g;rw[if_neg g]
   have e : ∀ s:PS,St0 s->Ge s s.param.2:=fun s h=>Ge.param h.hi
   have j:=e s h
   have u:Ge s.param.2 (listL PS.param s).2:=Ge.moreL (B:=fun s=>St0 s) (fun _ _ h k=>h.ge k) (fun s h _=>e s h) (s.l.length+1) (h.ge j) j.hi
   refine c2g e (fun s h c=>c2t h c) (s.l.length+1) (h.ge j) ?_ k
   intro x r
   rw[List.mem_singleton]at r
   subst r
   exact c2t h (u.clean k)
structure DfQ (d:Df):Prop where
 one:1<=d.line
 nm:nameI d.name.s=true
 np:d.ps.length<=8
 pm : ∀ p∈d.ps,PmQ p
 bv:YB (.mk d.n d.ks)=true
 bw:tW (.mk d.n d.ks)=true
 bl:d.line<=d.n.line
 rb:Ja d.res=true
theorem f9b{s:PS}(h:Zb s=true):Ja s.dfR.1.2=true:=by
 unfold PS.dfR
 split
 ·exact a4z ((Ge.step (Zc ‹_›)).ok h)
 ·rfl
theorem Tm.eta(t:Tm):Tm.mk t.nd t.ks=t:=by cases t;rfl
theorem Ge.exprS{s:PS}(h:Zb s=true):Ge s s.expr.2:=by
 have e:=Zm h
 exact Ge.expr (by unfold Yb;omega) e.2
theorem h1i{s:PS}{nm:Str}{ln:Int}{ps:List Pm}{r:Bool×TyS}(h:St0 s)(e:(s.dfE (Hl nm ln ps r)).2.bad=false)(g:(s.dfE (Hl nm ln ps r)).1.2=false)(j:s.i<s.l.length->ln<=(s.peek 0).ln):
  (s.dfE (Hl nm ln ps r)).1.1=Hl nm ln ps r s.expr.1∧ME s.expr.2∧YB s.expr.1=true∧ps.length<=8∧tW s.expr.1=true∧ln<=s.expr.1.nd.line:=by
 unfold PS.dfE at e g ⊢
 split at e
 ·rename_i q;rw[q]at e;cases e
 ·rename_i q
  rw[if_neg q]at g ⊢
  split at e
  ·rename_i k;rw[k]at e;cases e
  ·rename_i k
   rw[if_neg k]at g ⊢
   have g:(s.expr.2.big||(!(YB s.expr.1)||(decide (ps.length>8)||decide (ln>10000))))=false:=g
   simp only[Bool.or_eq_false_iff,Bool.not_eq_false',decide_eq_false_iff_not]at g
   have w:=C9 h.ok h.lx e
   have l:=g4y h.ok h.lx h.up e
   have l0:=j l.1
   exact⟨rfl,⟨e,g.1⟩,g.2.1,by omega,w,by omega⟩
theorem h1w{s:PS}(h:St0 s)(hn:s.next ⟨[100,101,102]⟩=true)(L:s.defP.2.bad=false)(F:s.defP.1.2=false):DfQ s.defP.1.1∧s.defP.1.1.line=(s.peek 0).ln:=by
 have J:s.need ⟨[100,101,102]⟩=s.step:=if_pos hn
 have hi:=Zc hn
 have kd:=Ge.need (w:=⟨[100,101,102]⟩) h.hi
 have g:St0 s.df0:=⟨kd.ok h.ok,by show ZI (s.need _).l=true;rw[kd.l];exact h.lx,by show Am (s.need _).l;rw[kd.l];exact h.up⟩
 have i0:s.df0.i=s.i+1:=by show(s.need _).i=_;rw[J];rfl
 have I:s.df0.l=s.l:=kd.l
 have E:=Ge.name g.hi
 have y:=Ge.need (w:=⟨[40]⟩) E.hi
 have k:=Ge.dfP y.hi
 have j:=Ge.need (w:=⟨[41]⟩) k.hi
 have z:=Ge.dfR j.hi
 have C:=Ge.need (w:=⟨[61]⟩) z.hi
 have q:=E.trans y
 have A:=q.trans (k.trans (j.trans (z.trans C)))
 have D:=g.ge A
 obtain⟨e,c,v,n,w,l⟩:=h1i D L F (fun r=>d7w h.up (A.l.trans I) (by have:=A.le;omega) r)
 have H:=(Ge.exprS D.ok).clean c
 have B:=(j.trans (z.trans C)).clean H
 have K:=(y.trans k).clean B
 have u:=(a7b h.up hi).1
 have e:s.defP.1.1=Hl s.df0.name.1 (s.peek 0).ln (s.df0.name.2.need ⟨[40]⟩).dfP.1 (((s.df0.name.2.need ⟨[40]⟩).dfP.2.need ⟨[41]⟩).dfR.1) _:=e
 rw[e]
 exact⟨⟨u,EM g.lx K.1,n,h1r (g.ge q) B,by rw[show Tm.mk (Hl _ _ _ _ _).n (Hl _ _ _ _ _).ks=_ from Tm.eta _];exact v,by rw[show Tm.mk (Hl _ _ _ _ _).n (Hl _ _ _ _ _).ks=_ from Tm.eta _];exact w,l,f9b (g.ge (q.trans (k.trans j))).ok⟩,rfl⟩
theorem c4o: ∀ (f:Nat) {s:PS} {w:Int} {o:List Df},s.bad=true->(defL f s w o).2.bad=true
 | 0,s,w,o,h=>h
 | f+1,s,w,o,h=>by rw[defL,if_pos h];exact h
theorem e3d(f:Nat){s:PS}{w:Int}{o:List Df}(h:(defL f s w o).2.bad=false):s.bad=false:=by
 cases e:s.bad with
 | false=>rfl
 | true=>rw[c4o f e]at h;cases h
theorem f7q: ∀ (f:Nat) {s:PS} {w:Int} {o:List Df},0<=w->0<=(defL f s w o).1.1
 | 0,s,w,o,h=>h
 | f+1,s,w,o,h=>by
  rw[defL]
  split
  ·exact h
  ·split
   ·rw[decide_eq_false (show ¬ w<0 by omega),Bool.and_false,if_neg (by decide)]
    exact f7q f h
   ·exact h
theorem f6v: ∀ (f:Nat) {s:PS} {w:Int} {o:List Df},St0 s->(∀ d∈o,DfQ d)->o.Pairwise (fun a b=>a.line<=b.line)->(s.i<s.l.length-> ∀ d∈o,d.line<=(s.peek 0).ln)->(defL f s w o).2.bad=false->(defL f s w o).1.1<0 ->
  (∀ d∈(defL f s w o).1.2,DfQ d)∧(defL f s w o).1.2.Pairwise (fun a b=>a.line<=b.line)
 | 0,s,w,o,hs,h1,h2,h3,kb,kw=>⟨h1,h2⟩
 | f+1,s,w,o,hs,h1,h2,h3,kb,kw=>by
  rw[defL]at kb kw ⊢
  split at kb
  ·rename_i q;rw[if_pos q];exact⟨h1,h2⟩
  ·rename_i q
   rw[if_neg q]at kw ⊢
   split at kb
   ·rename_i h
    rw[if_pos h]at kw ⊢
    have hi:=Zc h
    have g:=JG hs.ok hs.lx h
    have b1:s.defP.2.bad=false:=by
     cases e:s.defP.2.bad with
     | false=>rfl
     | true=>rw[c4o f e]at kb;cases kb
    have u:=a7b hs.up hi
    have z:s.defP.1.2=false:=by
     cases e:s.defP.1.2 with
     | false=>rfl
     | true=>
      exfalso
      have:0<=(defL f s.defP.2 (if (s.defP.1.2&&decide (w<0))=true then(s.peek 0).o else w) (o++[s.defP.1.1])).1.1:=by
       refine f7q f ?_
       rw[e]
       by_cases hw:w<0
       ·rw[decide_eq_true hw];exact u.2
       ·rw[decide_eq_false hw,if_neg (by decide)];omega
      omega
    obtain⟨y,r⟩:=h1w hs h b1 z
    have j:=h3 hi
    refine f6v f ⟨g.1,g.2.1,by rw[g.2.2.1];exact hs.up⟩ ?_ ?_ ?_ kb kw
    ·intro d hd
     rcases List.mem_append.1 hd with hd|hd
     ·exact h1 d hd
     ·rw[List.mem_singleton]at hd
      subst hd
      exact y
    ·refine List.pairwise_append.2 ⟨h2,List.pairwise_singleton _ _,fun a ha b hb=> ?_⟩
     rw[List.mem_singleton]at hb
     subst hb
     rw[r]
     exact j a ha
    ·intro k d hd
     have up:(s.peek 0).ln<=(s.defP.2.peek 0).ln:=d7w hs.up g.2.2.1 (by omega) k
     rcases List.mem_append.1 hd with hd|hd
     ·have:=j d hd;omega
     ·rw[List.mem_singleton]at hd
      subst hd
      rw[r]
      exact up
   ·rename_i h;rw[if_neg h];exact⟨h1,h2⟩
theorem Ge.jimp: ∀ (f:Nat) {s:PS} {o:List Str},s.i<=s.l.length->Ge s (Go.Pl.impL f s o).2
 | 0,s,o,h=>Ge.refl h
 | f+1,s,o,h=>by
  rw[Go.Pl.impL]
  split
  ·have g:=Ge.step (Zc ‹_›)
   have e:=Ge.list (one:=PS.name) (fun s h=>Ge.name h) g.hi
   exact g.trans (e.trans (Ge.jimp f e.hi))
  ·exact Ge.refl h
theorem Ge.jexpo{s:PS}(h:s.i<=s.l.length):Ge s s.expo.2:=by
 unfold PS.expo
 split
 ·have e:=Ge.step (Zc ‹_›)
  exact e.trans (Ge.list (one:=PS.name) (fun s h=>Ge.name h) e.hi)
 ·exact Ge.refl h
theorem c9r{s:PS}(h:s.endp.bad=false):s.bad=false:=by
 unfold PS.endp at h
 split at h
 ·cases h
 ·exact h
theorem g9c(s:List UInt8):St0 (Kb s):=⟨a4d s,(Dq ⟨s⟩).1,BM ⟨s⟩⟩
theorem b4j{s:Str}(h:(YH s).c=0):nameI (YH s).a.name.s=true∧(∀ d∈(YH s).a.ds,DfQ d)∧(YH s).a.ds.Pairwise (fun a b=>a.line<=b.line)∧(YH s).a.ds.length<=60:=by
 unfold YH at h ⊢
 split at h
 ·rename_i q;exact absurd h q
 ·rename_i q
  rw[if_neg q]
  dsimp only at h ⊢
  split at h
  ·cases h
  ·rename_i r
   rw[if_neg r]
   split at h
   ·cases h
   ·rename_i A
    rw[if_neg A]
    split at h
    ·cases h
    ·rename_i u
     rw[if_neg u]
     have g:=g9c s.s
     have i:=Ge.need (w:=⟨[109,111,100,117,108,101]⟩) g.hi
     have z:=Ge.name i.hi
     have j:=Ge.jimp ((Kb s.s).l.length+1) (o:=[]) z.hi
     have k:=Ge.jexpo j.hi
     have h3:=g.ge (i.trans (z.trans (j.trans k)))
     have y:=c9r (by simpa using r)
     have b1:=(j.trans k).good (e3d _ y)
     have dq:=f6v ((Kb s.s).l.length+1) (w:= -1) (o:=[]) h3 (fun d hd=>by cases hd) .nil (fun _ d hd=>by cases hd) y (by omega)
     exact⟨EM (g.ge i).lx b1,dq.1,dq.2,Nat.le_of_not_lt fun e=>u (Or.inr (Or.inr e))⟩
def blB(c:UInt8):Bool:=c==32||(c==9||c==10)
def YP:Nat->List UInt8->Nat
 | 0,_=>0
 | f+1,r=>match r with
  | []=>0
  | c::u=>if blB c then YP f u+1
   else if List.isPrefixOf [47,47] (c::u)then(if Lib.indexByte (c::u) 10<0 then(c::u).length else(Lib.indexByte (c::u) 10).toNat+YP f ((c::u).drop (Lib.indexByte (c::u) 10).toNat))
   else 0
theorem a4c(c:UInt8):blB c=true ↔ c=32∨c=9∨c=10:=by
 unfold blB
 simp only[Bool.or_eq_true,beq_iff_eq]
theorem CY: ∀ (f:Nat) (s:List UInt8) (n:Nat),n<=s.length->UH f s n=n+YP f (s.drop n)
 | 0,s,n,h=>rfl
 | f+1,s,n,h=>by
  rw[UH]
  rcases Nat.lt_or_ge n s.length with h1|h1
  ·have e:s.drop n=s[n]::s.drop (n+1):=List.drop_eq_getElem_cons h1
   have i:s.getD n 0=s[n]:=by rw[List.getD_eq_getElem?_getD,List.getElem?_eq_getElem h1];rfl
   rw[if_neg (by omega),e,i,YP]
   by_cases hb:s[n]=32∨s[n]=9∨s[n]=10
   ·rw[if_pos hb,if_pos ((a4c _).2 hb),CY f s (n+1) h1]
    omega
   ·rw[if_neg hb,if_neg (fun k=>hb ((a4c _).1 k))]
    split
    ·rename_i hp
     rw[<- e]
     have g:=Np 10 (s.drop n)
     rw[List.length_drop]at g
     split
     ·rename_i hi
      rw[List.length_drop]
      omega
     ·rename_i hi
      rw[CY f s _ (by omega),List.drop_drop]
      omega
    ·rfl
  ·rw[if_pos h1,List.drop_eq_nil_of_le h1]
   rfl
theorem e2n(r:List UInt8):(QP ⟨r⟩).toNat=YP (r.length+1) r:=by
 unfold QP
 rw[Int.toNat_natCast]
 have:=CY (r.length+1) r 0 (Nat.zero_le _)
 rw[this,List.drop_zero,Nat.zero_add]
theorem QF: ∀ (f:Nat) (r:List UInt8),YP f r<=r.length:=fun f r=>by
 have h1:=CY f r 0 (Nat.zero_le _)
 have h2:=(HV f r 0 (Nat.zero_le _)).2
 rw[h1,List.drop_zero]at h2
 omega
def Vr:Nat->List UInt8->Nat->Int->List Tok->R3 (List Tok) Int Int
 | 0,r,i,ln,o=>⟨o,0,0⟩
 | f+1,r,i,ln,o=>
  let k:=YP (r.length+1) r
  let e:=ln+Lib.countByte (r.take k) 10
  if k=r.length then⟨o,0,0⟩
  else if (ZE ⟨r.drop k⟩).1=0 then⟨[],(i+k:Nat),6⟩
  else if o.length=4000 then⟨[],(i+k:Nat),3⟩
  else Vr f (r.drop (k+(ZE ⟨r.drop k⟩).2.s.length)) (i+k+(ZE ⟨r.drop k⟩).2.s.length) e (o++[⟨(ZE ⟨r.drop k⟩).1,(ZE ⟨r.drop k⟩).2,e,(i+k:Nat)⟩])
theorem d8n: ∀ (f:Nat) (s:List UInt8) (i:Nat) (ln:Int) (o:List Tok),i<=s.length->Sj f s i ln o=Vr f (s.drop i) i ln o
 | 0,s,i,ln,o,h=>rfl
 | f+1,s,i,ln,o,h=>by
  have hk:=QF ((s.drop i).length+1) (s.drop i)
  rw[Sj,Vr,e2n,List.length_drop]at *
  generalize hk':YP (s.length - i+1) (s.drop i)=k at *
  rw[List.drop_drop,List.drop_drop]
  have e:(i+k=s.length)=(k=s.length - i):=propext ⟨fun _=>by omega,fun _=>by omega⟩
  simp only[e]
  split
  ·rfl
  ·split
   ·rfl
   ·split
    ·rfl
    ·have g:=QW ⟨s.drop (i+k)⟩
     have g:(ZE ⟨s.drop (i+k)⟩).2.s.length<=(s.drop (i+k)).length:=g
     rw[List.length_drop]at g
     rw[d8n f s _ _ _ (by omega),Nat.add_assoc]
theorem Tg(s:List UInt8)(h:s.length<=20000):Y4 ⟨s⟩=Vr (s.length+1) s 0 1 []:=by
 unfold Y4
 rw[if_neg (by show ¬ 20000<s.length;omega),d8n _ _ _ _ _ (Nat.zero_le _),List.drop_zero]
theorem e4u{p:UInt8->Bool}{w r0:List UInt8}(h:(w++r0).takeWhile p=w){c:UInt8}{r:List UInt8}(hc:p c=false):(w++c::r).takeWhile p=w:=by
 have ha : ∀ x∈w,p x=true:=by
  intro x e
  have h2:=List.all_takeWhile (p:=p) (l:=w++r0)
  rw[h]at h2
  exact List.all_eq_true.1 h2 x e
 rw[List.takeWhile_append_of_pos ha,List.takeWhile_cons,if_neg (by rw[hc];decide),List.append_nil]
theorem Pd{c:UInt8}: ∀ {x w r:List UInt8},c ∉ x->x <+: w++c::r->x <+: w
 | [],w,r,_,_=>List.nil_prefix
 | y::x,[],r,hc,h=>by
  rw[List.nil_append,List.cons_prefix_cons]at h
  exact absurd (by rw[h.1];simp) hc
 | y::x,a::w,r,hc,h=>by
  rw[List.cons_append,List.cons_prefix_cons]at h
  rw[List.cons_prefix_cons]
  exact⟨h.1,Pd (fun k=>hc (by simp[k])) h.2⟩
theorem a9b{c:UInt8}{k:Int}{w r0 r:List UInt8}(g:k≠0): ∀ (l:List (List UInt8)),(∀ x∈l,c ∉ x)->Zr l (w++r0)=(k,⟨w⟩)->Zr l (w++c::r)=(k,⟨w⟩)
 | [],_,h=>by
  have:(0:Int)=k:=congrArg Prod.fst h
  exact absurd this.symm g
 | x::l,hl,h=>by
  rw[Zr]at h ⊢
  split at h
  ·have e:x=w:=congrArg (fun q:Int×Str=>q.2.s) h
   rw[if_pos (by rw[List.isPrefixOf_iff_prefix,e];exact List.prefix_append _ _)]
   exact h
  ·rename_i hn
   rw[if_neg (fun q=>hn ?_)]
   ·exact a9b g l (fun y i=>hl y (by simp[i])) h
   ·rw[List.isPrefixOf_iff_prefix]at q ⊢
    exact(Pd (hl x (by simp)) q).trans (List.prefix_append _ _)
theorem PX: ∀ (l:List (List UInt8)) {u:List UInt8} {k:Int} {w:List UInt8},k≠0->Zr l u=(k,⟨w⟩)->w∈l∧w <+: u
 | [],u,k,w,hk,h=>by
  have:(0:Int)=k:=congrArg Prod.fst h
  exact absurd this.symm hk
 | x::l,u,k,w,hk,h=>by
  rw[Zr]at h
  split at h
  ·rename_i g
   have e:x=w:=congrArg (fun q:Int×Str=>q.2.s) h
   rw[<- e]
   exact⟨by simp,List.isPrefixOf_iff_prefix.1 g⟩
  ·have:=PX l hk h
   exact⟨by simp[this.1],this.2⟩
def g4m(c:UInt8):Prop:=c=10∨c=32
def e9f(R:Str):Int×Str:=if Cn.contains R.s then(2,R)else if nameI R.s then(1,R)else(0,⟨[]⟩)
def f0y(R:Str):Int×Str:=if (U1 R).2 then(3,R)else(0,⟨[]⟩)
theorem Bj(a:UInt8)(u:List UInt8):ZE ⟨a::u⟩=if lowB a then e9f (YQ ⟨a::u⟩ true)else if digB a then f0y (YQ ⟨a::u⟩ false)else Zr Zu (a::u):=rfl
theorem ES{R w:Str}{k:Int}(e:k≠0)(h:e9f R=(k,w)):R=w:=by
 unfold e9f at h
 split at h
 ·exact congrArg Prod.snd h
 ·split at h
  ·exact congrArg Prod.snd h
  ·exact absurd (show(0:Int)=k from congrArg Prod.fst h).symm e
theorem a0j{R w:Str}{k:Int}(e:k≠0)(h:f0y R=(k,w)):R=w:=by
 unfold f0y at h
 split at h
 ·exact congrArg Prod.snd h
 ·exact absurd (show(0:Int)=k from congrArg Prod.fst h).symm e
theorem c6q{w r0:List UInt8}{k:Int}(i:w≠[])(g:k≠0)(h:ZE ⟨w++r0⟩=(k,⟨w⟩)){c:UInt8}(hc:g4m c)(r:List UInt8):ZE ⟨w++c::r⟩=(k,⟨w⟩):=by
 have hd : ∀ b:Bool,(digB c||(b&&lowB c))=false:=fun b=>by rcases hc with rfl|rfl <;> cases b <;> decide
 cases w with
 | nil=>exact absurd rfl i
 | cons a w=>
  have run : ∀ b:Bool,YQ ⟨a::(w++r0)⟩ b=⟨a::w⟩->YQ ⟨a::(w++c::r)⟩ b=⟨a::w⟩:=fun b e=>by
   have e:((a::w)++r0).takeWhile (fun c=>digB c||(b&&lowB c))=a::w:=congrArg Str.s e
   exact congrArg Str.mk (e4u e (hd b))
  rw[List.cons_append,Bj]at h ⊢
  by_cases q:lowB a=true
  ·rw[if_pos q]at h ⊢
   have e:=ES g h
   rw[run true e]
   rw[e]at h
   exact h
  ·rw[if_neg q]at h ⊢
   by_cases q1:digB a=true
   ·rw[if_pos q1]at h ⊢
    have e:=a0j g h
    rw[run false e]
    rw[e]at h
    exact h
   ·rw[if_neg q1]at h ⊢
    refine a9b (w:=a::w) (r0:=r0) g Zu ?_ h
    rcases hc with rfl|rfl <;> decide
theorem Fw{u:List UInt8}{k:Int}{w:List UInt8}(g:k≠0)(h:ZE ⟨u⟩=(k,⟨w⟩)):(∃ r0,u=w++r0)∧ ∃ a v,w=a::v∧(lowB a=true∨digB a=true∨w∈Zu):=by
 cases u with
 | nil=>
  have:(0:Int)=k:=congrArg Prod.fst h
  exact absurd this.symm g
 | cons a u=>
  have j : ∀ b:Bool,(digB a||(b&&lowB a))=true->YQ ⟨a::u⟩ b=⟨w⟩->(∃ r0,a::u=w++r0)∧ ∃ v,w=a::v:=fun b ha e=>by
   have e:(a::u).takeWhile (fun c=>digB c||(b&&lowB c))=w:=congrArg Str.s e
   refine⟨⟨(a::u).dropWhile (fun c=>digB c||(b&&lowB c)),?_⟩,?_⟩
   ·rw[<- e,List.takeWhile_append_dropWhile]
   ·rw[List.takeWhile_cons,if_pos ha]at e
    exact⟨_,e.symm⟩
  rw[Bj]at h
  by_cases q:lowB a=true
  ·rw[if_pos q]at h
   obtain⟨h1,v,h2⟩:=j true (by rw[q];simp) (ES g h)
   exact⟨h1,a,v,h2,Or.inl q⟩
  ·rw[if_neg q]at h
   by_cases q1:digB a=true
   ·rw[if_pos q1]at h
    obtain⟨h1,v,h2⟩:=j false (by rw[q1];rfl) (a0j g h)
    exact⟨h1,a,v,h2,Or.inr (Or.inl q1)⟩
   ·rw[if_neg q1]at h
    obtain⟨h1,h2⟩:=PX Zu g h
    have i : ∀ x∈Zu,x≠[]:=by decide
    cases w with
    | nil=>exact absurd rfl (i _ h1)
    | cons b v=>
     obtain⟨r0,hr⟩:=h2
     exact⟨⟨r0,hr.symm⟩,b,v,rfl,Or.inr (Or.inr h1)⟩
structure Gd (t:Tok):Prop where
 k:t.k≠0
 ne:t.t.s≠[]
 ft : ∀ c r,g4m c->ZE ⟨t.t.s++c::r⟩=(t.k,t.t)
 st : ∀ c r f,g4m c->YP f (t.t.s++c::r)=0
theorem Gy{a:UInt8}{u:List UInt8}(h1:blB a=false)(h2:List.isPrefixOf [47,47] (a::u)=false): ∀ f,YP f (a::u)=0
 | 0=>rfl
 | f+1=>by rw[YP,if_neg (by rw[h1];decide),if_neg (by rw[h2];decide)]
theorem e2y{a:UInt8}(h:lowB a=true∨digB a=true):blB a=false∧a≠47:=by
 have g:blB a=false ↔ a≠32∧a≠9∧a≠10:=by
  rw[<- Bool.not_eq_true,a4c]
  constructor
  ·intro h;exact⟨fun e=>h (Or.inl e),fun e=>h (Or.inr (Or.inl e)),fun e=>h (Or.inr (Or.inr e))⟩
  ·rintro⟨h1,h2,h3⟩ (e|e|e)
   ·exact h1 e
   ·exact h2 e
   ·exact h3 e
 rw[g]
 unfold lowB digB at h
 refine⟨⟨?_,?_,?_⟩,?_⟩ <;> (rintro rfl;rcases h with h|h <;> revert h <;> decide)
theorem Ab{u:List UInt8}{ln o:Int}(g:(ZE ⟨u⟩).1≠0):Gd ⟨(ZE ⟨u⟩).1,(ZE ⟨u⟩).2,ln,o⟩:=by
 obtain⟨⟨r0,hr⟩,a,v,hw,hc⟩:=Fw (u:=u) (w:=(ZE ⟨u⟩).2.s) g rfl
 have ne:(ZE ⟨u⟩).2.s≠[]:=by rw[hw];simp
 refine⟨g,ne,fun c r h=> ?_,fun c r f h=> ?_⟩
 ·exact c6q (r0:=r0) ne g (by rw[<- hr]) h r
 ·show YP f ((ZE ⟨u⟩).2.s++c::r)=0
  rcases hc with hc|hc|hc
  ·obtain⟨h1,h2⟩:=e2y (Or.inl hc)
   rw[hw]
   refine Gy h1 ?_ f
   rw[List.isPrefixOf,show((47:UInt8)==a)=false from beq_eq_false_iff_ne.2 (Ne.symm h2)];rfl
  ·obtain⟨h1,h2⟩:=e2y (Or.inr hc)
   rw[hw]
   refine Gy h1 ?_ f
   rw[List.isPrefixOf,show((47:UInt8)==a)=false from beq_eq_false_iff_ne.2 (Ne.symm h2)];rfl
  ·generalize (ZE ⟨u⟩).2.s=w at *
   have hs : ∀ x∈Zu,∀ a v,x=a::v->blB a=false∧(a=47->v=[]):=by
    intro x i a v e
    subst e
    have : ∀ y∈Zu,(match y with|[]=>true|a::v=> !(blB a)&&(!(a==47)||v.isEmpty))=true:=by decide
    have:=this _ i
    simp only[Bool.and_eq_true,Bool.not_eq_true',Bool.or_eq_true,List.isEmpty_iff]at this
    exact⟨this.1,fun e=>this.2.resolve_left (by rw[e];decide)⟩
   obtain⟨h1,h2⟩:=hs w hc a v hw
   rw[hw]
   refine Gy h1 ?_ f
   by_cases ha:a=47
   ·rw[h2 ha,ha]
    rcases h with rfl|rfl <;> rfl
   ·rw[List.isPrefixOf,show((47:UInt8)==a)=false from beq_eq_false_iff_ne.2 (Ne.symm ha)];rfl
def a0m(l:List Tok):Nat:=(l.map fun t=>t.t.s.length).sum
theorem b0x: ∀ (f:Nat) (r:List UInt8) (i:Nat) (ln:Int) (o:List Tok),(∀ t∈o,Gd t)->(∀ t∈(Vr f r i ln o).a,Gd t)∧a0m (Vr f r i ln o).a<=a0m o+r.length∧(∀ t∈(Vr f r i ln o).a,t∈o∨t.ln<=ln+r.length)
 | 0,r,i,ln,o,h=>⟨h,Nat.le_add_right _ _,fun t ht=>Or.inl ht⟩
 | f+1,r,i,ln,o,h=>by
  have hk:=QF (r.length+1) r
  rw[Vr]
  generalize YP (r.length+1) r=k at *
  split
  ·exact⟨h,Nat.le_add_right _ _,fun t ht=>Or.inl ht⟩
  ·split
   ·exact⟨fun t ht=>(by cases ht),Nat.zero_le _,fun t ht=>(by cases ht)⟩
   ·rename_i h1 h2
    split
    ·exact⟨fun t ht=>(by cases ht),Nat.zero_le _,fun t ht=>(by cases ht)⟩
    ·have e:=QW ⟨r.drop k⟩
     have e:(ZE ⟨r.drop k⟩).2.s.length<=(r.drop k).length:=e
     rw[List.length_drop]at e
     have hc:List.count 10 (r.take k)<=k:=Nat.le_trans List.count_le_length (by rw[List.length_take];omega)
     have hc:((Lib.countByte (r.take k) 10:Nat):Int)<=k:=by show((List.count 10 (r.take k):Nat):Int)<=k;omega
     have g:=b0x f (r.drop (k+(ZE ⟨r.drop k⟩).2.s.length)) (i+k+(ZE ⟨r.drop k⟩).2.s.length) (ln+Lib.countByte (r.take k) 10) (o++[⟨(ZE ⟨r.drop k⟩).1,(ZE ⟨r.drop k⟩).2,ln+Lib.countByte (r.take k) 10,(i+k:Nat)⟩]) (by
      intro t ht
      rcases List.mem_append.1 ht with ht|ht
      ·exact h t ht
      ·rw[List.mem_singleton]at ht
       subst ht
       exact Ab h2)
     obtain⟨q,l,j⟩:=g
     refine⟨q,?_,fun t ht=> ?_⟩
     ·refine Nat.le_trans l ?_
      unfold a0m
      rw[List.map_append,List.sum_append,List.length_drop]
      simp only[List.map_cons,List.map_nil,List.sum_cons,List.sum_nil]
      omega
     ·rcases j t ht with h3|h3
      ·rcases List.mem_append.1 h3 with h3|h3
       ·exact Or.inl h3
       ·rw[List.mem_singleton]at h3
        subst h3
        right
        show ln+((Lib.countByte (r.take k) 10:Nat):Int)<=ln+r.length
        omega
      ·right
       rw[List.length_drop]at h3
       omega
theorem Nu(s:List UInt8):(∀ t∈(Y4 ⟨s⟩).a,Gd t)∧a0m (Y4 ⟨s⟩).a<=s.length∧ ∀ t∈(Y4 ⟨s⟩).a,t.ln<=1+s.length:=by
 by_cases h:s.length<=20000
 ·rw[Tg s h]
  obtain⟨h1,h2,h3⟩:=b0x (s.length+1) s 0 1 [] (fun t ht=>by cases ht)
  refine⟨h1,by simpa [a0m]using h2,fun t ht=> ?_⟩
  rcases h3 t ht with h3|h3
  ·cases h3
  ·exact h3
 ·have e:Y4 ⟨s⟩=⟨[],0,3⟩:=by unfold Y4;rw[if_pos (by show 20000<s.length;omega)]
  rw[e]
  exact⟨fun t ht=>(by cases ht),Nat.zero_le _,fun t ht=>(by cases ht)⟩
def spL(lead trail:List UInt8):List Tok->List UInt8
 | []=>[]
 | t::ts=>lead++(t.t.s++(trail++spL lead trail ts))
def g9p(x y:Tok):Prop:=y.k=x.k∧y.t=x.t
inductive FT:List Tok->List Tok->Prop where
 | nil:FT [] []
 | cons {x y:Tok} {a b:List Tok}:g9p x y->FT a b->FT (x::a) (y::b)
theorem FT.len{a b:List Tok}(h:FT a b):b.length=a.length:=by
 induction h with
 | nil=>rfl
 | cons _ _ ih=>rw[List.length_cons,List.length_cons,ih]
theorem FT.get{a b:List Tok}(h:FT a b)(d:Tok): ∀ k,k<a.length->g9p (a.getD k d) (b.getD k d):=by
 induction h with
 | nil=>intro k e;cases e
 | cons hs _ ih=>
  intro k e
  cases k with
  | zero=>exact hs
  | succ k=>exact ih k (Nat.lt_of_succ_lt_succ e)
theorem d8d{lead trail:List UInt8}: ∀ (ts:List Tok),(∀ t∈ts,Gd t)->(spL lead trail ts).length<=a0m ts*(1+lead.length+trail.length)∧ts.length<=a0m ts
 | [],_=>⟨Nat.zero_le _,Nat.le_refl _⟩
 | t::ts,h=>by
  obtain⟨h1,h2⟩:=d8d (lead:=lead) (trail:=trail) ts (fun t ht=>h t (by simp[ht]))
  have g:0<t.t.s.length:=List.length_pos_iff.2 (h t (by simp)).ne
  have e:a0m (t::ts)=t.t.s.length+a0m ts:=rfl
  have i:t.t.s.length*(1+lead.length+trail.length)=t.t.s.length+t.t.s.length*(lead.length+trail.length):=by rw[Nat.add_assoc,Nat.mul_add,Nat.mul_one]
  have k:lead.length+trail.length<=t.t.s.length*(lead.length+trail.length):=Nat.le_mul_of_pos_left _ g
  refine⟨?_,by rw[e,List.length_cons];omega⟩
  rw[e,spL,List.length_append,List.length_append,List.length_append,Nat.add_mul,i]
  omega
theorem OH{a:UInt8}{u:List UInt8}{f:Nat}(h:blB a=true):YP (f+1) (a::u)=YP f u+1:=by rw[YP,if_pos h]
theorem b3l(c:UInt8)(r:List UInt8): ∀ u:List UInt8,(0<=Lib.indexByte u c->Lib.indexByte (u++r) c=Lib.indexByte u c)∧(Lib.indexByte u c<0->Lib.indexByte (u++c::r) c=u.length)
 | []=>⟨fun h=>by rw[Lib.indexByte]at h;exact absurd h (by decide),fun _=>by rw[List.nil_append,Lib.indexByte,if_pos (beq_self_eq_true c)];rfl⟩
 | a::u=>by
  obtain⟨h1,h2⟩:=b3l c r u
  have hb:=Np c u
  refine⟨fun h=> ?_,fun h=> ?_⟩
  ·rw[Lib.indexByte]at h
   rw[List.cons_append,Lib.indexByte,Lib.indexByte]
   split
   ·rfl
   ·rename_i q
    rw[if_neg q]at h
    have hn:0<=Lib.indexByte u c:=by
     split at h
     ·exact absurd h (by decide)
     ·rename_i e
      have e:Lib.indexByte u c ≠ -1:=by simpa using e
      omega
    rw[h1 hn]
  ·rw[Lib.indexByte]at h
   rw[List.cons_append,Lib.indexByte]
   split at h
   ·exact absurd h (by decide)
   ·rename_i q
    rw[if_neg q]
    have hn:Lib.indexByte u c<0:=by
     split at h
     ·rename_i e
      have e:Lib.indexByte u c = -1:=by simpa using e
      omega
     ·rename_i e
      have e:Lib.indexByte u c ≠ -1:=by simpa using e
      omega
    rw[h2 hn,if_neg (by simp),List.length_cons]
    rfl
theorem e9r{c:UInt8}{u:List UInt8}(e:List.isPrefixOf [47,47] (c::u)=true):c=47:=by
 rw[List.isPrefixOf,Bool.and_eq_true,beq_iff_eq]at e
 exact e.1.symm
theorem e2s{c:UInt8}{u:List UInt8}(e:List.isPrefixOf [47,47] (c::u)=true)(hi : ¬ Lib.indexByte (c::u) 10<0):0<(Lib.indexByte (c::u) 10).toNat∧(Lib.indexByte (c::u) 10).toNat<(c::u).length:=by
 have h1:=e5e (c:=10) (l:=c::u) (by rw[e9r e];exact(by decide:(47:UInt8)≠10)) (by simp) (by omega)
 have h2:=Np 10 (c::u)
 omega
theorem Kg: ∀ (f g:Nat) (r:List UInt8),r.length<f->r.length<g->YP f r=YP g r
 | 0,_,r,h,_=>by omega
 | _+1,0,r,_,h=>by omega
 | f+1,g+1,[],_,_=>rfl
 | f+1,g+1,c::u,h1,h2=>by
  rw[List.length_cons]at h1 h2
  rw[YP,YP]
  split
  ·rw[Kg f g u (by omega) (by omega)]
  ·split
   ·rename_i e
    split
    ·rfl
    ·rename_i hi
     obtain⟨p1,p2⟩:=e2s e hi
     rw[Kg f g _ (by rw[List.length_drop,List.length_cons];omega) (by rw[List.length_drop,List.length_cons];omega)]
   ·rfl
theorem f5q{c:UInt8}{u r:List UInt8}:List.isPrefixOf [47,47] (c::u++10::r)=List.isPrefixOf [47,47] (c::u):=by
 have:List.isPrefixOf [47,47] (c::u++10::r)=true ↔ List.isPrefixOf [47,47] (c::u)=true:=by
  rw[List.isPrefixOf_iff_prefix,List.isPrefixOf_iff_prefix]
  exact⟨Pd (by decide),fun h=>h.trans (List.prefix_append _ _)⟩
 cases h:List.isPrefixOf [47,47] (c::u)with
 | true=>exact this.2 h
 | false=>
  cases h2:List.isPrefixOf [47,47] (c::u++10::r)with
  | false=>rfl
  | true=>rw[this.1 h2]at h;cases h
theorem CE(v:List UInt8): ∀ (f F:Nat) (u:List UInt8),u.length<f->(u++10::v).length<F ->
  (YP f u<u.length->YP F (u++10::v)=YP f u)∧(YP f u=u.length->YP F (u++10::v)=u.length+1+YP (v.length+1) v)
 | 0,_,u,h,_=>by omega
 | _+1,0,u,_,h=>by omega
 | f+1,F+1,[],h1,h2=>by
  refine⟨fun h=>by simp at h,fun _=> ?_⟩
  rw[List.nil_append,OH rfl,Kg F (v.length+1) v (by simp at h2;omega) (by omega)]
  simp
  omega
 | f+1,F+1,c::u,h1,h2=>by
  rw[List.length_cons]at h1
  have k:(u++10::v).length+1<F+1:=h2
  rw[List.cons_append,YP,YP]
  by_cases q:blB c=true
  ·rw[if_pos q,if_pos q,List.length_cons]
   obtain⟨i,g⟩:=CE v f F u (by omega) (by omega)
   exact⟨fun h=>by rw[i (by omega)],fun h=>by rw[g (by omega)];omega⟩
  ·rw[if_neg q,if_neg q,<- List.cons_append,f5q]
   by_cases hp:List.isPrefixOf [47,47] (c::u)=true
   ·rw[if_pos hp,if_pos hp]
    obtain⟨l,x2⟩:=b3l 10 (10::v) (c::u)
    obtain⟨_,y⟩:=b3l 10 v (c::u)
    by_cases hi:Lib.indexByte (c::u) 10<0
    ·rw[if_pos hi,y hi,if_neg (by omega)]
     refine⟨fun h=>absurd h (by omega),fun _=> ?_⟩
     have e:((c::u).length:Int).toNat=(c::u).length:=Int.toNat_natCast _
     rw[e,List.drop_left]
     cases F with
     | zero=>omega
     | succ F=>rw[OH rfl,Kg F (v.length+1) v (by rw[List.length_append,List.length_cons]at k;omega) (by omega)];omega
    ·rw[if_neg hi,l (by omega),if_neg hi]
     obtain⟨s,z⟩:=e2s hp hi
     generalize (Lib.indexByte (c::u) 10).toNat=j at s z ⊢
     rw[List.drop_append_of_le_length (by omega)]
     obtain⟨i,g⟩:=CE v f F ((c::u).drop j) (by rw[List.length_drop,List.length_cons];omega) (by rw[List.length_append,List.length_drop,List.length_cons,List.length_cons]at *;omega)
     have r:((c::u).drop j).length=(c::u).length - j:=List.length_drop
     rw[r]at i g
     exact⟨fun h=>by rw[i (by omega)],fun h=>by rw[g (by omega)];omega⟩
   ·rw[if_neg hp,if_neg hp]
    exact⟨fun _=>rfl,fun h=>by simp at h⟩
theorem b0y{p:UInt8->Bool}{c:UInt8}(hc:p c=false)(v:List UInt8): ∀ y:List UInt8,(y++c::v).takeWhile p=y.takeWhile p
 | []=>by rw[List.nil_append,List.takeWhile_cons,if_neg (by rw[hc];decide)];rfl
 | a::y=>by rw[List.cons_append,List.takeWhile_cons,List.takeWhile_cons,b0y hc v y]
theorem b2r{c:UInt8}(v:List UInt8): ∀ (l:List (List UInt8)) (y:List UInt8),(∀ x∈l,c ∉ x)->Zr l (y++c::v)=Zr l y
 | [],y,_=>rfl
 | x::l,y,h=>by
  rw[Zr,Zr,b2r v l y (fun z i=>h z (by simp[i]))]
  have:List.isPrefixOf x (y++c::v)=List.isPrefixOf x y:=by
   have k:List.isPrefixOf x (y++c::v)=true ↔ List.isPrefixOf x y=true:=by
    rw[List.isPrefixOf_iff_prefix,List.isPrefixOf_iff_prefix]
    exact⟨Pd (h x (by simp)),fun h=>h.trans (List.prefix_append _ _)⟩
   cases e:List.isPrefixOf x y with
   | true=>exact k.2 e
   | false=>
    cases g:List.isPrefixOf x (y++c::v)with
    | false=>rfl
    | true=>rw[k.1 g]at e;cases e
  rw[this]
theorem c8t(v:List UInt8){y:List UInt8}(e:y≠[]):ZE ⟨y++10::v⟩=ZE ⟨y⟩:=by
 cases y with
 | nil=>exact absurd rfl e
 | cons a y=>
  have run : ∀ b:Bool,YQ ⟨a::(y++10::v)⟩ b=YQ ⟨a::y⟩ b:=fun b=>congrArg Str.mk (b0y (p:=fun c=>digB c||(b&&lowB c)) (c:=10) (by cases b <;> decide) v (a::y))
  rw[List.cons_append,Bj,Bj,run,run,<- List.cons_append,b2r v Zu (a::y) (by decide)]
theorem d9d{y:List UInt8}(g:(ZE ⟨y⟩).1≠0):(10:UInt8) ∉ (ZE ⟨y⟩).2.s:=by
 cases y with
 | nil=>exact absurd rfl g
 | cons a y=>
  have run : ∀ b:Bool,(10:UInt8) ∉ (YQ ⟨a::y⟩ b).s:=fun b h=>by
   have h2:=List.all_eq_true.1 (List.all_takeWhile (p:=fun c=>digB c||(b&&lowB c)) (l:=a::y)) _ h
   cases b <;> exact absurd h2 (by decide)
  rw[Bj]at g ⊢
  by_cases q:lowB a=true
  ·rw[if_pos q]at g ⊢
   have e:YQ ⟨a::y⟩ true=(e9f (YQ ⟨a::y⟩ true)).2:=ES (R:=YQ ⟨a::y⟩ true) g rfl
   rw[<- e]
   exact run true
  ·rw[if_neg q]at g ⊢
   by_cases q1:digB a=true
   ·rw[if_pos q1]at g ⊢
    have e:YQ ⟨a::y⟩ false=(f0y (YQ ⟨a::y⟩ false)).2:=a0j (R:=YQ ⟨a::y⟩ false) g rfl
    rw[<- e]
    exact run false
   ·rw[if_neg q1]at g ⊢
    obtain⟨h1,_⟩:=PX Zu (u:=a::y) (w:=(Zr Zu (a::y)).2.s) g rfl
    have : ∀ x∈Zu,(10:UInt8) ∉ x:=by decide
    exact this _ h1
theorem Mi(v:List UInt8): ∀ (f:Nat) (F:Nat) (u:List UInt8) (i:Nat) (ln:Int) (o:List Tok),u.length<f->(u++10::v).length<F->(Vr f u i ln o).c=0-> ∃ l,v.length<l∧Vr F (u++10::v) i ln o=Vr l v (i+u.length+1) (ln+List.count 10 u+1) (Vr f u i ln o).a
 | 0,_,u,i,ln,o,h,_,_=>by omega
 | _+1,0,u,i,ln,o,_,h,_=>by omega
 | f+1,F+1,u,i,ln,o,h1,h2,hc=>by
  obtain⟨I,E⟩:=CE v (u.length+1) ((u++10::v).length+1) u (by omega) (by omega)
  have hk:=QF (u.length+1) u
  rw[Vr]at hc
  rw[show Vr (f+1) u i ln o=_ from by rw[Vr]]
  generalize hkk:YP (u.length+1) u=k at *
  by_cases q:k=u.length
  ·rw[if_pos q]
   refine⟨F+1,by rw[List.length_append,List.length_cons]at h2;omega,?_⟩
   have hv:=QF (v.length+1) v
   rw[Vr,Vr,E q]
   generalize YP (v.length+1) v=w at *
   have hd : ∀ n,(u++10::v).drop (u.length+1+n)=v.drop n:=fun n=>by
    rw[Nat.add_assoc,<- List.drop_drop,List.drop_left,Nat.add_comm 1 n]
    rfl
   have ht:((Lib.countByte ((u++10::v).take (u.length+1+w)) 10:Nat):Int)=List.count 10 u+1+Lib.countByte (v.take w) 10:=by
    have e:(u++10::v).take (u.length+1+w)=u++10::v.take w:=by
     rw[Nat.add_assoc,List.take_length_add_append,Nat.add_comm 1 w]
     rfl
    rw[e]
    show((List.count 10 (u++10::v.take w):Nat):Int)=List.count 10 u+1+((List.count 10 (v.take w):Nat):Int)
    rw[List.count_append,List.count_cons_self]
    omega
   have j:(u.length+1+w=(u++10::v).length)=(w=v.length):=propext (by rw[List.length_append,List.length_cons];omega)
   have g:ln+(List.count 10 u+1+((Lib.countByte (v.take w) 10:Nat):Int))=ln+List.count 10 u+1+Lib.countByte (v.take w) 10:=by omega
   have B:i+(u.length+1+w)=i+u.length+1+w:=by omega
   have y : ∀ m,(u++10::v).drop (u.length+1+w+m)=v.drop (w+m):=fun m=>by rw[Nat.add_assoc (u.length+1)];exact hd _
   simp only[hd,y,ht,j,g,B]
  ·have C:k<u.length:=by omega
   rw[if_neg q]at hc ⊢
   have z:(u++10::v).drop k=u.drop k++10::v:=List.drop_append_of_le_length (by omega)
   have r:u.drop k≠[]:=by
    intro e
    have:=congrArg List.length e
    rw[List.length_drop]at this
    simp at this
    omega
   have D:=c8t v r
   have A:(u++10::v).take k=u.take k:=List.take_append_of_le_length (by omega)
   by_cases q1:(ZE ⟨u.drop k⟩).1=0
   ·rw[if_pos q1]at hc;exact absurd (show(6:Int)=0 from hc) (by decide)
   rw[if_neg q1]at hc ⊢
   by_cases q2:o.length=4000
   ·rw[if_pos q2]at hc;exact absurd (show(3:Int)=0 from hc) (by decide)
   rw[if_neg q2]at hc ⊢
   have j:=QW ⟨u.drop k⟩
   have j:(ZE ⟨u.drop k⟩).2.s.length<=(u.drop k).length:=j
   rw[List.length_drop]at j
   have hpos:0<(ZE ⟨u.drop k⟩).2.s.length:=List.length_pos_iff.2 (Ab (ln:=0) (o:=0) q1).ne
   rw[Vr,I C,z,D,A,if_neg (show ¬ k=(u++10::v).length by rw[List.length_append];omega),if_neg q1,if_neg q2,List.drop_append_of_le_length (by omega)]
   obtain⟨l,J,e⟩:=Mi v f F (u.drop (k+(ZE ⟨u.drop k⟩).2.s.length)) (i+k+(ZE ⟨u.drop k⟩).2.s.length) (ln+Lib.countByte (u.take k) 10) _ (by rw[List.length_drop];omega) (by rw[List.length_append,List.length_drop,List.length_cons]at *;omega) hc
   refine⟨l,J,?_⟩
   have K:u.drop k=(ZE ⟨u.drop k⟩).2.s++u.drop (k+(ZE ⟨u.drop k⟩).2.s.length):=by
    obtain⟨⟨H,hr⟩,_⟩:=Fw (u:=u.drop k) (w:=(ZE ⟨u.drop k⟩).2.s) q1 rfl
    have:u.drop (k+(ZE ⟨u.drop k⟩).2.s.length)=H:=by
     rw[<- List.drop_drop]
     generalize (ZE ⟨u.drop k⟩).2.s=w at hr ⊢
     rw[hr,List.drop_left]
    rw[this]
    exact hr
   have hcn:List.count 10 u=List.count 10 (u.take k)+List.count 10 (u.drop (k+(ZE ⟨u.drop k⟩).2.s.length)):=by
    have e1:List.count 10 u=List.count 10 (u.take k)+List.count 10 (u.drop k):=by rw[<- List.count_append,List.take_append_drop]
    have e2:List.count 10 (u.drop k)=List.count 10 (ZE ⟨u.drop k⟩).2.s+List.count 10 (u.drop (k+(ZE ⟨u.drop k⟩).2.s.length)):=by rw[<- List.count_append,<- K]
    have e3:List.count 10 (ZE ⟨u.drop k⟩).2.s=0:=List.count_eq_zero.2 (d9d q1)
    omega
   rw[e,List.length_drop,show i+k+(ZE ⟨u.drop k⟩).2.s.length+(u.length - (k+(ZE ⟨u.drop k⟩).2.s.length))+1=i+u.length+1 by omega]
   have g:ln+((Lib.countByte (u.take k) 10:Nat):Int)+List.count 10 (u.drop (k+(ZE ⟨u.drop k⟩).2.s.length))+1=ln+List.count 10 u+1:=by
    show ln+((List.count 10 (u.take k):Nat):Int)+_+1=_
    omega
   rw[g]
section
mutual
def zT(z:Int->Int):Tm->Tm
 | .mk n ks=>.mk {n with line:=z n.line} (QE z ks)
def QE(z:Int->Int):List Tm->List Tm
 | []=>[]
 | k::ks=>zT z k::QE z ks
end
theorem c2a(z:Int->Int)(a b:List Tm):QE z (a++b)=QE z a++QE z b:=by
 induction a with
 | nil=>rfl
 | cons x a ih=>show zT z x::QE z (a++b)=zT z x::(QE z a++QE z b);rw[ih]
def Qe(y:Tok)(w:List UInt8):Bool:=(decide (y.k=2)||decide (y.k=4))&&decide (y.t=⟨w⟩)
structure Calm (y:Tok):Prop where
 dot:Qe y [46]=false
 sq:Qe y [91]=false
 br:Qe y [123]=false
 at_:Qe y [64]=false
 par:Qe y [40]=false
 op:y.k=4->(Hr y.t false).b=0
structure Cm where
 A:List Tok
 B:List Tok
 d:Nat
 n:Nat
 zA:Int
 zB:Int
 z:Int->Int
 oz:Int->Int
 Wk:Int->Prop
 E:Prop
def Cm.a(c:Cm)(k:Nat):Tok:=c.A.getD k ⟨0,⟨[]⟩,0,c.zA⟩
def Cm.b(c:Cm)(k:Nat):Tok:=c.B.getD k ⟨0,⟨[]⟩,0,c.zB⟩
structure Al (c:Cm) (x y:Tok):Prop where
 k:y.k=x.k
 t:y.t=x.t
 ln:c.z y.ln=c.z x.ln
 o:c.oz y.o=c.oz x.o
structure CmOK (c:Cm):Prop where
 al : ∀ k,k<c.n->Al c (c.a k) (c.b (c.d+k))
 wk : ∀ p,c.n<=p->p<=c.A.length-> ¬ c.Wk (c.a p).o
 en:c.E->c.n=c.A.length∧Calm (c.b (c.d+c.n))
 lx:ZI c.A=true
 ly:ZI c.B=true
 la:c.A.length<=4000
 lb:c.B.length<=4000
structure Rl (c:Cm) (s t:PS):Prop where
 la:s.l=c.A
 lb:t.l=c.B
 za:s.sz=c.zA
 zb:t.sz=c.zB
 i:t.i=c.d+s.i
 sb:s.bad=false
 tb:t.bad=false
 big:t.big=s.big
 hs:s.i<=s.l.length
 ht:t.i<=t.l.length
def UJ{α β:Type}(c:Cm)(V:α->β->Prop)(a:α×PS)(b:β×PS):Prop:=
 (a.2.bad=false->a.2.i<c.n->Rl c a.2 b.2∧V a.1 b.1)∧(a.2.bad=true->c.Wk a.2.wr->b.2.bad=true∧c.oz b.2.wr=c.oz a.2.wr)
def YK{α β:Type}(c:Cm)(V:α->β->Prop)(a:α×PS)(b:β×PS):Prop:=
 (a.2.bad=false->(a.2.i<c.n∨c.E∧a.2.i=c.n)->Rl c a.2 b.2∧V a.1 b.1)∧(a.2.bad=true->c.Wk a.2.wr->b.2.bad=true∧c.oz b.2.wr=c.oz a.2.wr)
def TT(_ _:Unit):Prop:=True
section
variable {α β γ δ:Type} {c:Cm} {s t:PS} {V:α->β->Prop} {W:γ->δ->Prop} {a:α×PS} {b:β×PS} {a':γ×PS} {b':δ×PS}
theorem YK.out(h:YK c V a b):UJ c V a b:=⟨fun h1 h2=>h.1 h1 (Or.inl h2),h.2⟩
theorem Rl.outE(h:Rl c s t){x:α}{y:β}(v:V x y):YK c V (x,s) (y,t):=⟨fun _ _=>⟨h,v⟩,fun k=>by have k:s.bad=true:=k;rw[h.sb]at k;cases k⟩
theorem Ge.wk(hc:CmOK c){u:PS}(g:Ge s u)(h:s.l=c.A)(e:s.sz=c.zA)(sb:s.bad=false)(hn:c.n<=s.i)(j:u.bad=true): ¬ c.Wk u.wr:=by
 obtain⟨p,h1,h2,h3⟩:=g.at_ sb j
 rw[h]at h2 h3
 rw[e]at h3
 rw[h3]
 exact hc.wk p (by omega) h2
theorem UJ.bind(hc:CmOK c)(h:UJ c V a b)(y:a.2.l=c.A)(u:a.2.sz=c.zA)(g:Ge a.2 a'.2)(j:Ge b.2 b'.2)(k:Rl c a.2 b.2->V a.1 b.1->a.2.i<c.n->UJ c W a' b'):UJ c W a' b':=by
 cases e:a.2.bad with
 | true=>
  refine⟨fun h1=>(by rw[g.bad e]at h1;cases h1),fun h1 h2=> ?_⟩
  rw[g.keep e]at h2 ⊢
  have h3:=h.2 e h2
  exact⟨j.bad h3.1,by rw[j.keep h3.1];exact h3.2⟩
 | false=>
  by_cases q:a.2.i<c.n
  ·have r:=h.1 e q
   exact k r.1 r.2 q
  ·refine⟨fun _ h2=>absurd h2 (by have:=g.le;omega),fun h1 h2=>absurd h2 (g.wk hc y u e (by omega) h1)⟩
theorem YK.bind(hc:CmOK c)(h:UJ c V a b)(y:a.2.l=c.A)(u:a.2.sz=c.zA)(g:Ge a.2 a'.2)(j:Ge b.2 b'.2)(hd:c.E->a.2.bad=false->a.2.i=c.n->a'.2.bad=true)(k:Rl c a.2 b.2->V a.1 b.1->a.2.i<c.n->YK c W a' b'):YK c W a' b':=by
 cases e:a.2.bad with
 | true=>
  refine⟨fun h1=>(by rw[g.bad e]at h1;cases h1),fun h1 h2=> ?_⟩
  rw[g.keep e]at h2 ⊢
  have h3:=h.2 e h2
  exact⟨j.bad h3.1,by rw[j.keep h3.1];exact h3.2⟩
 | false=>
  by_cases q:a.2.i<c.n
  ·have r:=h.1 e q
   exact k r.1 r.2 q
  ·refine⟨fun h1 h2=> ?_,fun h1 h2=>absurd h2 (g.wk hc y u e (by omega) h1)⟩
   have:=g.le
   rcases h2 with h2|⟨h2,h3⟩
   ·omega
   ·rw[hd h2 e (by omega)]at h1;cases h1
theorem YK.bindE(hc:CmOK c)(h:YK c V a b)(y:a.2.l=c.A)(u:a.2.sz=c.zA)(g:Ge a.2 a'.2)(j:Ge b.2 b'.2)(k:Rl c a.2 b.2->V a.1 b.1->(a.2.i<c.n∨c.E∧a.2.i=c.n)->YK c W a' b'):YK c W a' b':=by
 cases e:a.2.bad with
 | true=>
  refine⟨fun h1=>(by rw[g.bad e]at h1;cases h1),fun h1 h2=> ?_⟩
  rw[g.keep e]at h2 ⊢
  have h3:=h.2 e h2
  exact⟨j.bad h3.1,by rw[j.keep h3.1];exact h3.2⟩
 | false=>
  by_cases q:a.2.i<c.n∨c.E∧a.2.i=c.n
  ·have r:=h.1 e q
   exact k r.1 r.2 q
  ·refine⟨fun h1 h2=> ?_,fun h1 h2=>absurd h2 (g.wk hc y u e (by omega) h1)⟩
   have:=g.le
   exfalso
   apply q
   rcases h2 with h2|⟨h2,h3⟩
   ·left;omega
   ·rcases Nat.lt_or_ge a.2.i c.n with h4|h4
    ·exact Or.inl h4
    ·exact Or.inr ⟨h2,by omega⟩
theorem Rl.pk(hc:CmOK c)(h:Rl c s t){j:Nat}(hi:s.i+j<c.n):Al c (s.peek j) (t.peek j):=by
 have g:s.peek j=c.a (s.i+j):=by unfold PS.peek Cm.a;rw[h.la,h.za]
 have e:t.peek j=c.b (c.d+(s.i+j)):=by unfold PS.peek Cm.b;rw[h.lb,h.zb,h.i,Nat.add_assoc]
 rw[g,e]
 exact hc.al _ hi
theorem Rl.nx(hc:CmOK c)(h:Rl c s t)(hi:s.i<c.n)(w:Str):t.next w=s.next w:=by
 have k:=h.pk hc (j:=0) hi
 unfold PS.next
 rw[k.k,k.t]
theorem Rl.stepR(h:Rl c s t)(h1:s.i<s.l.length)(h2:t.i<t.l.length):Rl c s.step t.step:=⟨h.la,h.lb,h.za,h.zb,by show t.i+1=c.d+(s.i+1);have:=h.i;omega,h.sb,h.tb,h.big,h1,h2⟩
theorem Rl.step(hc:CmOK c)(h:Rl c s t)(hi:s.i<c.n)(e:(s.peek 0).k≠0):Rl c s.step t.step:=
 h.stepR (YU e) (YU (by rw[(h.pk hc (j:=0) hi).k];exact e))
theorem Rl.stepN(hc:CmOK c)(h:Rl c s t)(hi:s.i<c.n){w:Str}(hn:s.next w=true):Rl c s.step t.step:=
 h.stepR (Zc hn) (Zc (by rw[h.nx hc hi];exact hn))
theorem Rl.failE(hc:CmOK c)(h:Rl c s t)(hi:s.i<c.n)(x:α)(y:β):YK c V (x,s.fail) (y,t.fail):=by
 refine⟨fun k=>(by cases k),fun _ _=>⟨rfl,?_⟩⟩
 show c.oz (if t.bad then t.wr else(t.peek 0).o)=c.oz (if s.bad then s.wr else(s.peek 0).o)
 rw[h.sb,h.tb]
 exact(h.pk hc (j:=0) hi).o
theorem YK.dead(hc:CmOK c)(h:Rl c s t)(g:Ge s a.2)(hn:c.n<=s.i)(hd:c.E->s.i=c.n->a.2.bad=true):YK c V a b:=by
 refine⟨fun h1 h2=> ?_,fun h1 h2=>absurd h2 (g.wk hc h.la h.za h.sb hn h1)⟩
 have:=g.le
 rcases h2 with h2|⟨h2,h3⟩
 ·omega
 ·rw[hd h2 (by omega)]at h1;cases h1
theorem UJ.dead(hc:CmOK c)(h:Rl c s t)(g:Ge s a.2)(hn:c.n<=s.i):UJ c V a b:=
 ⟨fun _ h2=>absurd h2 (by have:=g.le;omega),fun h1 h2=>absurd h2 (g.wk hc h.la h.za h.sb hn h1)⟩
theorem YK.map{ε ζ:Type}{U:ε->ζ->Prop}(o:YK c V a b){x:ε}{y:ζ}(k:V a.1 b.1->U x y):YK c U (x,a.2) (y,b.2):=⟨fun h1 h2=>⟨(o.1 h1 h2).1,k (o.1 h1 h2).2⟩,o.2⟩
theorem bdO(hc:CmOK c)(h:Rl c s t)(g:Ge s a.2)(o:UJ c V a b)(i:Ge a.2 a'.2)(e:Ge b.2 b'.2)(k:Rl c a.2 b.2->V a.1 b.1->UJ c W a' b'):UJ c W a' b':=UJ.bind hc o (g.l.trans h.la) (g.sz.trans h.za) i e fun r v _=>k r v
theorem bdS(hc:CmOK c)(h:Rl c s t)(g:Ge s a.2)(o:UJ c V a b)(j:Ge a.2 a'.2)(e:Ge b.2 b'.2)(hd:c.E->a.2.bad=false->a.2.i=c.n->a'.2.bad=true)(k:Rl c a.2 b.2->V a.1 b.1->YK c W a' b'):YK c W a' b':=YK.bind hc o (g.l.trans h.la) (g.sz.trans h.za) j e hd fun r v _=>k r v
theorem SS(hc:CmOK c)(h:Rl c s t)(g:Ge s a.2)(o:YK c V a b)(i:Ge a.2 a'.2)(e:Ge b.2 b'.2)(k:Rl c a.2 b.2->V a.1 b.1->YK c W a' b'):YK c W a' b':=YK.bindE hc o (g.l.trans h.la) (g.sz.trans h.za) i e fun r v _=>k r v
theorem Wl{u:PS}(h:u.l.length<=u.i)(w:Str):u.next w=false:=by
 unfold PS.next
 rw[Wz (by omega)]
 rfl
theorem Wi{u:PS}(h:u.l.length<=u.i)(w:Str):(u.need w).bad=true:=by
 unfold PS.need
 rw[if_neg (by rw[Wl h];decide)]
 rfl
theorem XX(hc:CmOK c)(h:Rl c s t){u:PS}(g:Ge s u)(e:c.E)(hi:u.i=c.n):u.l.length<=u.i:=by
 rw[g.l,h.la,hi,(hc.en e).1]
 exact Nat.le_refl _
theorem Yl(hc:CmOK c)(h:Rl c s t)(w:Str):YK c TT ((),s.need w) ((),t.need w):=by
 by_cases hi:s.i<c.n
 ·unfold PS.need
  rw[h.nx hc hi]
  split
  ·exact(h.stepN hc hi ‹_›).outE trivial
  ·exact h.failE hc hi () ()
 ·exact YK.dead hc h (a:=((),s.need w)) (Ge.need h.hs) (by omega) fun g e=>Wi (XX hc h (Ge.refl h.hs) g e) w
theorem UO(hc:CmOK c)(h:Rl c s t):YK c Eq s.name t.name:=by
 by_cases hi:s.i<c.n
 ·have k:=h.pk hc (j:=0) hi
  unfold PS.name
  rw[k.k]
  split
  ·rename_i q
   exact(h.step hc hi (by rw[q];decide)).outE k.t.symm
  ·exact h.failE hc hi _ _
 ·refine YK.dead hc h (Ge.name h.hs) (by omega) fun g e=> ?_
  have e1:=XX hc h (Ge.refl h.hs) g e
  unfold PS.name
  rw[Wz (by omega)]
  rfl
theorem CW(hc:CmOK c)(h:Rl c s t)(m:Int):YK c Eq (s.num m) (t.num m):=by
 by_cases hi:s.i<c.n
 ·have k:=h.pk hc (j:=0) hi
  unfold PS.num
  rw[k.k,k.t]
  split
  ·rename_i q
   exact(h.step hc hi (by rw[q.1];decide)).outE rfl
  ·exact h.failE hc hi _ _
 ·refine YK.dead hc h (Ge.num h.hs) (by omega) fun g e=> ?_
  have e1:=XX hc h (Ge.refl h.hs) g e
  unfold PS.num
  rw[Wz (by omega),if_neg (fun q=>by have:=q.1;simp at this)]
  rfl
theorem Rl.nb(h:Rl c s t): ¬ s.bad=true:=by rw[h.sb];decide
theorem Rl.nt(h:Rl c s t): ¬ t.bad=true:=by rw[h.tb];decide
theorem Rl.wide(h:Rl c s t)(b:Bool):Rl c (s.wide b) (t.wide b):=⟨h.la,h.lb,h.za,h.zb,h.i,h.sb,h.tb,by show(t.big||b)=(s.big||b);rw[h.big],h.hs,h.ht⟩
end
end
section
section
variable {c:Cm} {s t:PS}
theorem a4y(hc:CmOK c)(h:Rl c s t):UJ c Eq s.item t.item:=by
 by_cases hi:s.i<c.n
 ·have k:=h.pk hc (j:=0) hi
  have g : ∀ r:PS,r.i<=r.l.length->Ge r (if (r.peek 0).k=1∧r.bad=false then r.name.2.note (Uu (BD r.name.1) (0:Int))else((⟨0,[]⟩:Lin),r)).2:=fun r hr=>by
   split
   ·exact(Ge.name hr).trans (Ge.note (Ge.name hr).hi)
   ·exact Ge.refl hr
  have q : ∀ s:PS,s.i<=s.l.length->Ge (s.num 2147483648).2 (if ((s.num 2147483648).2.peek 0).k=1∧(s.num 2147483648).2.bad=false then(s.num 2147483648).2.name.2.note (Uu (BD (s.num 2147483648).2.name.1) (s.num 2147483648).1)else(⟨(s.num 2147483648).1,[]⟩,(s.num 2147483648).2)).2:=fun s hs=>by
   have u:=Ge.num (m:=2147483648) hs
   split
   ·exact(Ge.name u.hi).trans (Ge.note (Ge.name u.hi).hi)
   ·exact Ge.refl u.hi
  unfold PS.item
  rw[k.k]
  split
  ·exact((UO hc h).map (fun e=>by rw[e])).out
  ·refine bdO hc h (Ge.num h.hs) (CW hc h 2147483648).out (q s h.hs) (q t h.ht) fun r v=> ?_
   by_cases hj:(s.num 2147483648).2.i<c.n
   ·have z:=r.pk hc (j:=0) hj
    rw[z.k,r.sb,r.tb]
    split
    ·refine bdO hc r (Ge.name r.hs) (UO hc r).out (Ge.note (Ge.name r.hs).hi) (Ge.note (Ge.name r.ht).hi) fun y A=> ?_
     rw[v,A]
     exact(Rl.outE (y.wide _) rfl).out
    ·exact(r.outE (by rw[v])).out
   ·exact UJ.dead hc r (q s h.hs) (by omega)
 ·exact UJ.dead hc h (Ge.item h.hs) (by omega)
theorem Mm(hc:CmOK c): ∀ (n m:Nat) {s t:PS} {l:Lin},Rl c s t->Yb n s->Yb m t->UJ c Eq (linLoop n s l) (linLoop m t l)
 | 0,_,s,t,l,h,f1,f2=>by unfold Yb at f1;omega
 | _+1,0,s,t,l,h,f1,f2=>by unfold Yb at f2;omega
 | n+1,m+1,s,t,l,h,f1,f2=>by
  by_cases hi:s.i<c.n
  ·rw[linLoop,linLoop,if_neg h.nb,if_neg h.nt,h.nx hc hi,h.nx hc hi]
   have go : ∀ {w:Str} (k:Int),s.next w=true->UJ c Eq (linLoop n (s.step.item.2.note (ZM l s.step.item.1 k)).2 (ZM l s.step.item.1 k).1) (linLoop m (t.step.item.2.note (ZM l t.step.item.1 k)).2 (ZM l t.step.item.1 k).1):=fun {w} k q=>by
    have g:=h.stepN hc hi q
    have u:t.next w=true:=by rw[h.nx hc hi];exact q
    have e:=Ge.item g.hs
    have j:=Ge.item g.ht
    refine bdO hc g e (a4y hc g) ((Ge.note e.hi).trans (Ge.linLoop n (Ge.note (x:=ZM l s.step.item.1 k) e.hi).hi)) ((Ge.note j.hi).trans (Ge.linLoop m (Ge.note (x:=ZM l t.step.item.1 k) j.hi).hi)) fun r v=> ?_
    rw[v]
    exact Mm hc n m (r.wide _) (((f1.step (Zc q)).ge e).ge (Ge.note e.hi)) (((f2.step (Zc u)).ge j).ge (Ge.note j.hi))
   split
   ·exact go 1 ‹_›
   ·split
    ·exact go (-1) ‹_›
    ·exact((h.wide _).outE rfl).out
  ·exact UJ.dead hc h (Ge.linLoop _ h.hs) (by omega)
theorem f3c(hc:CmOK c)(h:Rl c s t):UJ c Eq s.lin0 t.lin0:=by
 by_cases hi:s.i<c.n
 ·unfold PS.lin0
  rw[h.nx hc hi]
  split
  ·rename_i q
   have e:=h.stepN hc hi q
   have g:=Ge.item e.hs
   have j:=Ge.item e.ht
   refine bdO hc e g (a4y hc e) (Ge.note g.hi) (Ge.note j.hi) fun r v=> ?_
   rw[v]
   exact((r.wide _).outE rfl).out
  ·exact a4y hc h
 ·exact UJ.dead hc h (Ge.lin0 h.hs) (by omega)
theorem Xt{s u:PS}(g:Ge s u):Yb (s.l.length+1) u:=by unfold Yb;rw[g.l];omega
theorem Au(hc:CmOK c)(h:Rl c s t):UJ c Eq s.linear t.linear:=by
 have e:=Ge.lin0 h.hs
 have g:=Ge.lin0 h.ht
 refine bdO hc h e (f3c hc h) (Ge.linLoop _ e.hi) (Ge.linLoop _ g.hi) fun r v=> ?_
 unfold PS.linear
 rw[v]
 exact Mm hc _ _ r (Xt e) (Xt g)
section
variable {α β:Type} {one:PS->α×PS} {one':PS->β×PS} {V:α->β->Prop} {VL:List α->List β->Prop} {P P':PS->Prop}
theorem b1o(hc:CmOK c)(g : ∀ s u,P s->Ge s u->P u)(e : ∀ s u,P' s->Ge s u->P' u)(k : ∀ s,P s->s.i<=s.l.length->Ge s (one s).2)(D : ∀ s,P' s->s.i<=s.l.length->Ge s (one' s).2)
  (ho : ∀ s t,P s->P' t->Rl c s t->UJ c V (one s) (one' t)) (F : ∀ o o' x y,VL o o'->V x y->VL (o++[x]) (o'++[y])) : ∀ (n m:Nat) {s t:PS} {o:List α} {o':List β},P s->P' t->Rl c s t->Yb n s->Yb m t->VL o o'->UJ c VL (moreL one n s o) (moreL one' m t o')
 | 0,_,s,t,o,o',p,p',h,f1,f2,v=>by unfold Yb at f1;omega
 | _+1,0,s,t,o,o',p,p',h,f1,f2,v=>by unfold Yb at f2;omega
 | n+1,m+1,s,t,o,o',p,p',h,f1,f2,v=>by
  by_cases hi:s.i<c.n
  ·rw[moreL,moreL,if_neg h.nb,if_neg h.nt,h.nx hc hi]
   split
   ·rename_i q
    have E:t.next ⟨[44]⟩=true:=by rw[h.nx hc hi];exact q
    have z:=h.stepN hc hi q
    have B:=Ge.step (Zc q)
    have A:=Ge.step (Zc E)
    have j:=k _ (g _ _ p B) z.hs
    have C:=D _ (e _ _ p' A) z.ht
    refine bdO hc z j (ho _ _ (g _ _ p B) (e _ _ p' A) z) (Ge.moreL g k n (g _ _ (g _ _ p B) j) j.hi) (Ge.moreL e D m (e _ _ (e _ _ p' A) C) C.hi) fun r w=> ?_
    exact b1o hc g e k D ho F n m (g _ _ (g _ _ p B) j) (e _ _ (e _ _ p' A) C) r ((f1.step (Zc q)).ge j) ((f2.step (Zc E)).ge C) (F _ _ _ _ v w)
   ·exact(h.outE v).out
  ·exact UJ.dead hc h (Ge.moreL g k (n+1) p h.hs) (by omega)
theorem Mt(hc:CmOK c)(k : ∀ s u,P s->Ge s u->P u)(e : ∀ s u,P' s->Ge s u->P' u)(A : ∀ s,P s->s.i<=s.l.length->Ge s (one s).2)(z : ∀ s,P' s->s.i<=s.l.length->Ge s (one' s).2)
  (ho : ∀ s t,P s->P' t->Rl c s t->UJ c V (one s) (one' t)) (C : ∀ o o' x y,VL o o'->V x y->VL (o++[x]) (o'++[y])) (B : ∀ x y,V x y->VL [x] [y]) {s t:PS} (p:P s) (j:P' t) (h:Rl c s t):UJ c VL (listL one s) (listL one' t):=by
 have g:=A _ p h.hs
 have q:=z _ j h.ht
 refine bdO hc h g (ho _ _ p j h) (Ge.moreL k A _ (k _ _ p g) g.hi) (Ge.moreL e z _ (e _ _ j q) q.hi) fun r w=> ?_
 exact b1o hc k e A z ho C _ _ (k _ _ p g) (e _ _ j q) r (Xt g) (Xt q) (B _ _ w)
end
theorem BG{α:Type}{one:PS->α×PS}(hc:CmOK c)(g : ∀ s,s.i<=s.l.length->Ge s (one s).2)(ho : ∀ s t,Rl c s t->UJ c Eq (one s) (one t))(h:Rl c s t):UJ c Eq (listL one s) (listL one t):=
 Mt (P:=fun _=>True) (P':=fun _=>True) (VL:=Eq) hc (fun _ _ _ _=>trivial) (fun _ _ _ _=>trivial) (fun s _ h=>g s h) (fun s _ h=>g s h) (fun s t _ _ r=>ho s t r) (fun o o' x y e j=>by rw[e,j]) (fun x y e=>by rw[e]) trivial trivial h
theorem b0e(hc:CmOK c): ∀ (n m:Nat) {s t:PS} {o:List Int},Rl c s t->Yb n s->Yb m t->UJ c Eq (numsP n s o) (numsP m t o)
 | 0,_,s,t,l,h,f1,f2=>by unfold Yb at f1;omega
 | _+1,0,s,t,l,h,f1,f2=>by unfold Yb at f2;omega
 | n+1,m+1,s,t,o,h,f1,f2=>by
  by_cases hi:s.i<c.n
  ·have k:=h.pk hc (j:=0) hi
   rw[numsP,numsP,k.k]
   split
   ·rename_i q
    have e:=Ge.num (m:=2147483648) h.hs
    have g:=Ge.num (m:=2147483648) h.ht
    refine bdO hc h e (CW hc h 2147483648).out (Ge.numsP n e.hi) (Ge.numsP m g.hi) fun r v=> ?_
    rw[v]
    have e1:s.i+1<=(s.num 2147483648).2.i:=by
     have:=QH (s:=s) (m:=2147483648) r.sb;omega
    have e2:t.i+1<=(t.num 2147483648).2.i:=by
     have:=QH (s:=t) (m:=2147483648) r.tb;omega
    have i1:=YU (s:=s) (by rw[q];decide)
    have i2:=YU (s:=t) (by rw[k.k,q];decide)
    refine b0e hc n m r ?_ ?_
    ·unfold Yb at f1 ⊢;rw[e.l];omega
    ·unfold Yb at f2 ⊢;rw[g.l];omega
   ·exact(h.outE rfl).out
  ·exact UJ.dead hc h (Ge.numsP _ h.hs) (by omega)
theorem Rl.sgs(hc:CmOK c)(h:Rl c s t)(hi:s.i<c.n):Rl c s.sgs t.sgs∧t.sgn=s.sgn:=by
 unfold PS.sgs PS.sgn
 rw[h.nx hc hi]
 split
 ·exact⟨h.stepN hc hi ‹_›,rfl⟩
 ·exact⟨h,rfl⟩
theorem c2p(hc:CmOK c): ∀ (n m:Nat) {s t:PS} {o:List Int},Rl c s t->Yb n s->Yb m t->UJ c Eq (datP n s o) (datP m t o)
 | 0,_,s,t,l,h,f1,f2=>by unfold Yb at f1;omega
 | _+1,0,s,t,l,h,f1,f2=>by unfold Yb at f2;omega
 | n+1,m+1,s,t,o,h,f1,f2=>by
  by_cases hi:s.i<c.n
  ·rw[datP,datP,if_neg h.nb,if_neg h.nt,h.nx hc hi]
   split
   ·exact(h.outE rfl).out
   ·obtain⟨r0,q⟩:=h.sgs hc hi
    have j:=Ge.sgs h.hs
    have k:=Ge.sgs h.ht
    have e:=Ge.num (m:=2147483648) r0.hs
    have g:=Ge.num (m:=2147483648) r0.ht
    refine bdO hc r0 e (CW hc r0 2147483648).out (Ge.datP n e.hi) (Ge.datP m g.hi) fun r v=> ?_
    rw[v,q]
    have n1:=QH (s:=s.sgs) (m:=2147483648) r.sb
    have n2:=QH (s:=t.sgs) (m:=2147483648) r.tb
    have l1:=j.le
    have l2:=k.le
    have u:=e.hi
    have y:=g.hi
    refine c2p hc n m r ?_ ?_
    ·unfold Yb at f1 ⊢;rw[(j.trans e).l]at u ⊢;omega
    ·unfold Yb at f2 ⊢;rw[(k.trans g).l]at y ⊢;omega
  ·exact UJ.dead hc h (Ge.datP _ h.hs) (by omega)
theorem g0h(hc:CmOK c)(h:Rl c s t):YK c Eq s.arr t.arr:=by
 have A:=Ge.ar1 h.hs
 have b1:=Ge.ar1 h.ht
 have z:Ge s.ar1 s.ar2.2:=Ge.numsP _ A.hi
 have J:Ge t.ar1 t.ar2.2:=Ge.numsP _ b1.hi
 have y:Ge s.ar2.2 (s.ar2.2.need ⟨[58]⟩):=Ge.need z.hi
 have B:Ge t.ar2.2 (t.ar2.2.need ⟨[58]⟩):=Ge.need J.hi
 have g:Ge (s.ar2.2.need ⟨[58]⟩) s.ar3.2:=Ge.datP _ y.hi
 have F:Ge (t.ar2.2.need ⟨[58]⟩) t.ar3.2:=Ge.datP _ B.hi
 have C:Ge s.ar3.2 s.arr.2:=Ge.need g.hi
 have D:Ge t.ar3.2 t.arr.2:=Ge.need F.hi
 have dead : ∀ {u:PS},Ge s u->Ge u s.ar3.2->c.E->u.i=c.n->s.arr.2.bad=true:=fun I K r e=>by
  refine Wi ?_ _
  have:=XX hc h I r e
  have k:=(I.trans K).l
  have:=K.le
  rw[I.l]at *
  rw[k]
  omega
 by_cases hi:s.i<c.n
 ·have k:=h.pk hc (j:=0) hi
  have O:t.arB=s.arB:=by unfold PS.arB;rw[k.k,k.t]
  have H:Rl c (if s.arB then s.step else s) (if t.arB then t.step else t):=by
   rw[O]
   split
   ·rename_i q
    refine h.step hc hi ?_
    unfold PS.arB at q
    simp only[Bool.and_eq_true,decide_eq_true_eq]at q
    rw[q.1];decide
   ·exact h
  have g0:=Ge.ar0 h.hs
  refine SS (a:=((),s.ar1)) (b:=((),t.ar1)) hc H (Ge.need H.hs) (Yl hc H ⟨[91]⟩) (z.trans (y.trans (g.trans C))) (J.trans (B.trans (F.trans D))) fun L _=> ?_
  refine bdS (a:=s.ar2) (b:=t.ar2) hc L z (b0e hc _ _ L (Xt A) (Xt b1)) (y.trans (g.trans C)) (B.trans (F.trans D)) (fun r _ e=>dead (A.trans z) (y.trans g) r e) fun N T=> ?_
  refine SS (a:=((),s.ar2.2.need ⟨[58]⟩)) (b:=((),t.ar2.2.need ⟨[58]⟩)) hc N y (Yl hc N _) (g.trans C) (F.trans D) fun M _=> ?_
  refine bdS (a:=s.ar3) (b:=t.ar3) hc M g (c2p hc _ _ M (Xt (A.trans (z.trans y))) (Xt (b1.trans (J.trans B)))) C D (fun r _ e=>dead (A.trans (z.trans (y.trans g))) (Ge.refl g.hi) r e) fun S Q=> ?_
  unfold PS.arr
  rw[O,T,Q]
  exact(Yl hc S ⟨[93]⟩).map (fun _=>rfl)
 ·exact YK.dead hc h (Ge.arr h.hs) (by omega) fun r e=>dead (Ge.refl h.hs) (Ge.ar3 h.hs) r e
end
end
section
def VT(c:Cm)(a b:Tm):Prop:=zT c.z a=zT c.z b
def VTs(c:Cm)(a b:List Tm):Prop:=QE c.z a=QE c.z b
def VU(c:Cm)(a b:Tm×Int):Prop:=VT c a.1 b.1∧c.z a.2=c.z b.2
def SX(c:Cm)(N M:Nat)(ex ex':PS->Tm×PS):Prop:= ∀ s t,Yb N s->Yb M t->Rl c s t->YK c (VT c) (ex s) (ex' t)
def SU(c:Cm)(N M:Nat)(un e:PS->(Tm×Int)×PS):Prop:= ∀ s t,Yb N s->Yb M t->Rl c s t->YK c (VU c) (un s) (e t)
def In(c:Cm)(s:PS):Prop:=s.i<c.n∨c.E∧s.i=c.n
section
variable {c:Cm} {s t:PS}
theorem QL{n g:Nd}{ks e:List Tm}(h:({n with line:=c.z n.line}:Nd)={g with line:=c.z g.line})(i:VTs c ks e):VT c (.mk n ks) (.mk g e):=by
 have i:QE c.z ks=QE c.z e:=i
 show zT c.z _=zT c.z _
 rw[zT,zT,h,i]
theorem WC{x y:Tm}{a b:List Tm}(h:VT c x y)(k:VTs c a b):VTs c (x::a) (y::b):=by
 have h:zT c.z x=zT c.z y:=h
 have k:QE c.z a=QE c.z b:=k
 show QE c.z (x::a)=QE c.z (y::b)
 rw[QE,QE,h,k]
theorem c4c{x y:Tm}{a b:List Tm}(k:VTs c a b)(h:VT c x y):VTs c (a++[x]) (b++[y]):=by
 have h:zT c.z x=zT c.z y:=h
 have k:QE c.z a=QE c.z b:=k
 show QE c.z _=QE c.z _
 rw[c2a,c2a,k]
 show _++[zT c.z x]=_++[zT c.z y]
 rw[h]
theorem Rl.nxE(hc:CmOK c)(h:Rl c s t)(q:In c s){w:List UInt8}(j:c.E->Qe (c.b (c.d+c.n)) w=false):t.next ⟨w⟩=s.next ⟨w⟩:=by
 rcases q with q|⟨g,q⟩
 ·exact h.nx hc q _
 ·rw[Wl (XX hc h (Ge.refl h.hs) g q)]
  have e:t.peek 0=c.b (c.d+c.n):=by unfold PS.peek Cm.b;rw[h.lb,h.zb,h.i,q];rfl
  have k:=j g
  rw[<- e]at k
  exact k
theorem In.lt(hc:CmOK c)(h:Rl c s t)(q:In c s){w:Str}(hn:s.next w=true):s.i<c.n:=by
 rcases q with q|⟨e,q⟩
 ·exact q
 ·rw[Wl (XX hc h (Ge.refl h.hs) e q)]at hn;cases hn
theorem bdI{α β γ δ:Type}{V:α->β->Prop}{W:γ->δ->Prop}{a:α×PS}{b:β×PS}{a':γ×PS}{e:δ×PS}(hc:CmOK c)(h:Rl c s t)(g:Ge s a.2)(o:YK c V a b)(j:Ge a.2 a'.2)(i:Ge b.2 e.2)(k:Rl c a.2 b.2->V a.1 b.1->In c a.2->YK c W a' e):YK c W a' e:=YK.bindE hc o (g.l.trans h.la) (g.sz.trans h.za) j i k
theorem Ge.func2{s:PS}(h:s.i<=s.l.length):Ge s.name.2 s.func.2:=by
 have h1:=Ge.name h
 unfold PS.func
 split
 ·have h2:=Ge.step (Zc ‹_›)
  exact h2.trans (Ge.name h2.hi)
 ·exact Ge.refl h1.hi
theorem EB(hc:CmOK c)(h:Rl c s t):YK c Eq s.func t.func:=by
 refine bdI hc h (Ge.name h.hs) (UO hc h) (Ge.func2 h.hs) (Ge.func2 h.ht) fun r v q=> ?_
 unfold PS.func
 rw[r.nxE hc q (w:=[46]) (fun e=>(hc.en e).2.dot)]
 split
 ·rename_i hn
  have g:=r.stepN hc (q.lt hc r hn) hn
  exact(UO hc g).map (fun e=>by rw[v,e])
 ·exact r.outE v
theorem Rl.plain(hc:CmOK c)(h:Rl c s t)(q:In c s)(n:Str):t.plain n=s.plain n:=by
 unfold PS.plain
 rw[h.nxE hc q (w:=[91]) (fun e=>(hc.en e).2.sq),h.nxE hc q (w:=[123]) (fun e=>(hc.en e).2.br),h.nxE hc q (w:=[64]) (fun e=>(hc.en e).2.at_),h.nxE hc q (w:=[40]) (fun e=>(hc.en e).2.par)]
theorem c9l(hc:CmOK c)(h:Rl c s t):UJ c Eq s.sizesN t.sizesN:=by
 by_cases hi:s.i<c.n
 ·unfold PS.sizesN
  rw[h.nx hc hi]
  split
  ·rename_i q
   have e:=h.stepN hc hi q
   have g:=Ge.list (one:=PS.linear) (fun s h=>Ge.linear h) e.hs
   have j:=Ge.list (one:=PS.linear) (fun s h=>Ge.linear h) e.ht
   refine bdO hc e g (BG (one:=PS.linear) hc (fun s h=>Ge.linear h) (fun s t r=>Au hc r) e) (Ge.need g.hi) (Ge.need j.hi) fun r v=> ?_
   exact((Yl hc r ⟨[93]⟩).map (fun _=>v)).out
  ·exact(h.outE rfl).out
 ·exact UJ.dead hc h (Ge.sizesN h.hs) (by omega)
theorem c5y(hc:CmOK c)(h:Rl c s t):UJ c Eq s.frameN t.frameN:=by
 by_cases hi:s.i<c.n
 ·unfold PS.frameN
  rw[h.nx hc hi]
  split
  ·rename_i q
   have e:=h.stepN hc hi q
   have g:=Ge.num (m:=2147483648) e.hs
   have j:=Ge.num (m:=2147483648) e.ht
   refine bdO hc e g (CW hc e _).out (Ge.need g.hi) (Ge.need j.hi) fun r v=> ?_
   exact((Yl hc r ⟨[125]⟩).map (fun _=>v)).out
  ·exact(h.outE rfl).out
 ·exact UJ.dead hc h (Ge.frameN h.hs) (by omega)
theorem c9w(hc:CmOK c)(h:Rl c s t):UJ c Eq s.ranksN t.ranksN:=by
 by_cases hi:s.i<c.n
 ·unfold PS.ranksN
  rw[h.nx hc hi]
  split
  ·rename_i q
   have e:=h.stepN hc hi q
   have l:=Ge.need (w:=⟨[40]⟩) e.hs
   have u:=Ge.need (w:=⟨[40]⟩) e.ht
   have g:=Ge.list (one:=PS.numM) (fun s h=>Ge.num h) l.hi
   have j:=Ge.list (one:=PS.numM) (fun s h=>Ge.num h) u.hi
   refine bdO (a:=((),s.step.need ⟨[40]⟩)) (b:=((),t.step.need ⟨[40]⟩)) hc e l (Yl hc e _).out (g.trans (Ge.need g.hi)) (j.trans (Ge.need j.hi)) fun k _=> ?_
   refine bdO hc k g (BG (one:=PS.numM) hc (fun s h=>Ge.num h) (fun s t r=>(CW hc r _).out) k) (Ge.need g.hi) (Ge.need j.hi) fun r v=> ?_
   exact((Yl hc r ⟨[41]⟩).map (fun _=>v)).out
  ·exact(h.outE rfl).out
 ·exact UJ.dead hc h (Ge.ranksN h.hs) (by omega)
theorem d9h{ex:PS->Tm×PS}{u:PS}(h:u.l.length<=u.i):(XZ ex u).2.bad=true:=by
 unfold XZ
 rw[if_pos (Wi h _)]
 refine Wi ?_ _
 unfold PS.need
 rw[if_neg (by rw[Wl h];decide)]
 exact Nat.le_refl _
variable {N M:Nat} {ex ex':PS->Tm×PS}
theorem Ge.kids2(g:Hf N ex){s:PS}(e:Yb N s)(h:s.i<=s.l.length):Ge (s.need ⟨[40]⟩) (XZ ex s).2:=by
 have h1:=Ge.need (w:=⟨[40]⟩) h
 unfold XZ
 split
 ·exact Ge.need h1.hi
 ·split
  ·exact Ge.need h1.hi
  ·have h2:=Ge.listL (B:=Yb N) (fun s t h k=>h.ge k) (fun s h k=>g s h k) (e.ge h1) h1.hi
   exact h2.trans (Ge.need h2.hi)
theorem e8u(hc:CmOK c)(z:Hf N ex)(g:Hf M ex')(F:SX c N M ex ex')(f:Yb N s)(C:Yb M t)(h:Rl c s t):YK c (VTs c) (XZ ex s) (XZ ex' t):=by
 have q:=Ge.need (w:=⟨[40]⟩) h.hs
 have D:=Ge.need (w:=⟨[40]⟩) h.ht
 have E:=Ge.kids2 z f h.hs
 have H:=Ge.kids2 g C h.ht
 refine SS (a:=((),s.need ⟨[40]⟩)) (b:=((),t.need ⟨[40]⟩)) hc h q (Yl hc h _) E H fun r _=> ?_
 have r:Rl c (s.need ⟨[40]⟩) (t.need ⟨[40]⟩):=r
 have j:=Ge.listL (B:=Yb N) (fun s t h k=>h.ge k) (fun s h k=>z s h k) (f.ge q) q.hi
 have J:=Ge.listL (B:=Yb M) (fun s t h k=>h.ge k) (fun s h k=>g s h k) (C.ge D) D.hi
 by_cases hi:(s.need ⟨[40]⟩).i<c.n
 ·unfold XZ
  rw[if_neg r.nb,if_neg r.nt,r.nx hc hi]
  split
  ·exact(Yl hc r ⟨[41]⟩).map (fun _=>rfl)
  ·refine bdS (V:=VTs c) hc r j (Mt (P:=Yb N) (P':=Yb M) (V:=VT c) hc (fun s u a b=>a.ge b) (fun s u a b=>a.ge b) (fun s a b=>z s a b) (fun s a b=>g s a b) (fun s t a b r=>(F s t a b r).out) (fun o o' x y e L=>c4c e L) (fun x y e=>WC e rfl) (f.ge q) (C.ge D) r) (Ge.need j.hi) (Ge.need J.hi) (fun A _ e=>Wi (XX hc r j A e) _) fun K v=> ?_
   exact(Yl hc K ⟨[41]⟩).map (fun _=>v)
 ·refine YK.dead hc r E (by omega) fun A e=> ?_
  have I:=XX hc r (Ge.refl r.hs) A e
  unfold XZ
  rw[if_neg r.nb,if_neg (by rw[Wl I];decide)]
  refine Wi ?_ _
  have:=j.le
  rw[j.l]
  omega
theorem d5a(hc:CmOK c)(H:Hf N ex)(A:Hf M ex')(S:SX c N M ex ex'){ln B:Int}(P:c.z ln=c.z B){n:Str}(f:Yb N s)(K:Yb M t)(h:Rl c s t):YK c (VT c) (Vs ex ln n s) (Vs ex' B n t):=by
 have r:=Ge.sizesN h.hs
 have b1:=Ge.sizesN h.ht
 have j:=Ge.frameN r.hi
 have C:=Ge.frameN b1.hi
 have g:=Ge.ranksN j.hi
 have y:=Ge.ranksN C.hi
 have F:=Ge.kids H (f.ge (r.trans (j.trans g))) g.hi
 have D:=Ge.kids A (K.ge (b1.trans (C.trans y))) y.hi
 have dead : ∀ {u:PS},Ge s u->Ge u s.sizesN.2.frameN.2.ranksN.2->c.E->u.i=c.n->(Vs ex ln n s).2.bad=true:=fun {u} g1 g2 q e=>by
  refine d9h ?_
  have:=XX hc h g1 q e
  have k:=g2.l
  have:=g2.le
  rw[k]
  omega
 refine bdS hc h r (c9l hc h) (j.trans (g.trans F)) (C.trans (y.trans D)) (fun q _ e=>dead r (j.trans g) q e) fun I L=> ?_
 refine bdS hc I j (c5y hc I) (g.trans F) (y.trans D) (fun q _ e=>dead (r.trans j) g q e) fun J T=> ?_
 refine bdS hc J g (c9w hc J) F D (fun q _ e=>dead (r.trans (j.trans g)) (Ge.refl g.hi) q e) fun O Q=> ?_
 unfold Vs
 rw[L,T,Q]
 refine(e8u hc H A S (f.ge (r.trans (j.trans g))) (K.ge (b1.trans (C.trans y))) O).map (fun e=>QL ?_ e)
 exact congrArg (fun l=>({nd0 with kind:=6,line:=l,name:=n,num:=t.sizesN.2.frameN.1,sizes:=t.sizesN.1,ranks:=t.sizesN.2.frameN.2.ranksN.1}:Nd)) P
theorem e2h(hc:CmOK c)(A:Hf N ex)(g:Hf M ex')(H:SX c N M ex ex')(f:Yb (N+1) s)(D:Yb (M+1) t)(h:Rl c s t)(hi:s.i<c.n)(z:(s.peek 0).k=1):YK c (VT c) (Xd ex s) (Xd ex' t):=by
 have k:=h.pk hc (j:=0) hi
 have e:(t.peek 0).k=1:=by rw[k.k];exact z
 have B:=YU (s:=s) (by rw[z];decide)
 have C:=YU (s:=t) (by rw[e];decide)
 have y:=Ge.func1 z
 have u:=Ge.func1 e
 have E:Ge s.func.2 (Xd ex s).2:=by
  unfold Xd
  split
  ·exact Ge.refl y.hi
  ·exact Ge.callB A ((f.step B).ge y) y.hi
 have F:Ge t.func.2 (Xd ex' t).2:=by
  unfold Xd
  split
  ·exact Ge.refl u.hi
  ·exact Ge.callB g ((D.step C).ge u) u.hi
 refine bdI hc h (Ge.func h.hs) (EB hc h) E F fun r v q=> ?_
 unfold Xd
 rw[r.plain hc q,v]
 split
 ·exact r.outE (QL (congrArg (fun l=>Jp 1 l t.func.1) k.ln.symm) rfl)
 ·exact d5a hc A g H k.ln.symm ((f.step B).ge y) ((D.step C).ge u) r
theorem f0e(hc:CmOK c)(K:Hf N ex)(B:Hf M ex')(T:SX c N M ex ex'){ln u:Int}(Z:c.z ln=c.z u)(f:Yb N s)(D:Yb M t)(h:Rl c s t):YK c (VT c) (C8 ex ln s) (C8 ex' u t):=by
 have F:=Ge.need (w:=⟨[40]⟩) h.hs
 have b1:=Ge.need (w:=⟨[40]⟩) h.ht
 have E:=Ge.func F.hi
 have H:=Ge.func b1.hi
 have A:=Ge.need (w:=⟨[44]⟩) E.hi
 have C:=Ge.need (w:=⟨[44]⟩) H.hi
 have I:=F.trans (E.trans A)
 have J:=b1.trans (H.trans C)
 have i:=K _ (f.ge I) A.hi
 have y:=B _ (D.ge J) C.hi
 have e:=Ge.need (w:=⟨[44]⟩) i.hi
 have q:=Ge.need (w:=⟨[44]⟩) y.hi
 have Q:=I.trans (i.trans e)
 have U:=J.trans (y.trans q)
 have g:=K _ (f.ge Q) e.hi
 have r:=B _ (D.ge U) q.hi
 have j:=Ge.need (w:=⟨[41]⟩) g.hi
 have k:=Ge.need (w:=⟨[41]⟩) r.hi
 refine SS (a:=((),s.need ⟨[40]⟩)) (b:=((),t.need ⟨[40]⟩)) hc h F (Yl hc h _) (E.trans (A.trans (i.trans (e.trans (g.trans j))))) (H.trans (C.trans (y.trans (q.trans (r.trans k))))) fun L _=> ?_
 refine SS hc L E (EB hc L) (A.trans (i.trans (e.trans (g.trans j)))) (C.trans (y.trans (q.trans (r.trans k)))) fun V Y=> ?_
 refine SS (a:=((),(s.need ⟨[40]⟩).func.2.need ⟨[44]⟩)) (b:=((),(t.need ⟨[40]⟩).func.2.need ⟨[44]⟩)) hc V A (Yl hc V _) (i.trans (e.trans (g.trans j))) (y.trans (q.trans (r.trans k))) fun P _=> ?_
 refine SS hc P i (T _ _ (f.ge I) (D.ge J) P) (e.trans (g.trans j)) (q.trans (r.trans k)) fun S X=> ?_
 refine SS (a:=((),(ex ((s.need ⟨[40]⟩).func.2.need ⟨[44]⟩)).2.need ⟨[44]⟩)) (b:=((),(ex' ((t.need ⟨[40]⟩).func.2.need ⟨[44]⟩)).2.need ⟨[44]⟩)) hc S e (Yl hc S _) (g.trans j) (r.trans k) fun O _=> ?_
 refine SS hc O g (T _ _ (f.ge Q) (D.ge U) O) j k fun r6 W=> ?_
 refine(Yl hc r6 ⟨[41]⟩).map (fun _=>QL ?_ (WC X (WC W rfl)))
 rw[Y]
 exact congrArg (fun l=>Jp 8 l (t.need ⟨[40]⟩).func.1) Z
theorem e6x(hc:CmOK c)(J:Hf N ex)(B:Hf M ex')(P:SX c N M ex ex'){ln g:Int}(K:c.z ln=c.z g)(f:Yb N s)(H:Yb M t)(h:Rl c s t):YK c (VT c) (Bo ex ln s) (Bo ex' g t):=by
 have y:=Ge.need (w:=⟨[40]⟩) h.hs
 have b1:=Ge.need (w:=⟨[40]⟩) h.ht
 have j:=Ge.func y.hi
 have A:=Ge.func b1.hi
 have i:=Ge.need (w:=⟨[44]⟩) j.hi
 have k:=Ge.need (w:=⟨[44]⟩) A.hi
 have F:=y.trans (j.trans i)
 have I:=b1.trans (A.trans k)
 have e:=J _ (f.ge F) i.hi
 have u:=B _ (H.ge I) k.hi
 have q:=Ge.need (w:=⟨[41]⟩) e.hi
 have r:=Ge.need (w:=⟨[41]⟩) u.hi
 refine SS (a:=((),s.need ⟨[40]⟩)) (b:=((),t.need ⟨[40]⟩)) hc h y (Yl hc h _) (j.trans (i.trans (e.trans q))) (A.trans (k.trans (u.trans r))) fun C _=> ?_
 refine SS hc C j (EB hc C) (i.trans (e.trans q)) (k.trans (u.trans r)) fun E Q=> ?_
 refine SS (a:=((),(s.need ⟨[40]⟩).func.2.need ⟨[44]⟩)) (b:=((),(t.need ⟨[40]⟩).func.2.need ⟨[44]⟩)) hc E i (Yl hc E _) (e.trans q) (u.trans r) fun D _=> ?_
 refine SS hc D e (P _ _ (f.ge F) (H.ge I) D) q r fun O L=> ?_
 refine(Yl hc O ⟨[41]⟩).map (fun _=>QL ?_ (WC L rfl))
 rw[Q]
 exact congrArg (fun l=>Jp 9 l (t.need ⟨[40]⟩).func.1) K
theorem d6w(hc:CmOK c){ln g:Int}(B:c.z ln=c.z g)(h:Rl c s t):YK c (VT c) (Jz ln s) (Jz g t):=by
 have u:=Ge.need (w:=⟨[91]⟩) h.hs
 have b1:=Ge.need (w:=⟨[91]⟩) h.ht
 have i:=Ge.linear u.hi
 have q:=Ge.linear b1.hi
 have k:=Ge.need (w:=⟨[93]⟩) i.hi
 have r:=Ge.need (w:=⟨[93]⟩) q.hi
 refine SS (a:=((),s.need ⟨[91]⟩)) (b:=((),t.need ⟨[91]⟩)) hc h u (Yl hc h _) (i.trans k) (q.trans r) fun j _=> ?_
 refine bdS hc j i (Au hc j) k r (fun y _ e=>Wi (XX hc j i y e) _) fun A C=> ?_
 refine(Yl hc A ⟨[93]⟩).map (fun _=>QL ?_ rfl)
 rw[C]
 exact congrArg (fun l=>({ndK 4 l with sizes:=[(t.need ⟨[91]⟩).linear.1]}:Nd)) B
theorem b1r{u:PS}(h:u.l.length<=u.i):(Xe ex u).2.bad=true:=by
 have e:(u.peek 0).k=0:=by rw[Wz (by omega)]
 unfold Xe
 dsimp only
 have nx : ∀ w:Str,¬ u.next w=true:=fun w=>by rw[Wl h];decide
 rw[e,if_neg (by decide),if_neg (by decide),if_neg (nx _),if_neg (nx _),if_neg (nx _),if_neg (nx _),if_neg (nx _),if_neg (nx _),if_neg (nx _),if_neg (nx _)]
 rfl
theorem f4h(hc:CmOK c)(D:Hf N ex)(z:Hf M ex')(F:SX c N M ex ex')(f:Yb (N+1) s)(K:Yb (M+1) t)(h:Rl c s t):YK c (VT c) (Xe ex s) (Xe ex' t):=by
 by_cases hi:s.i<c.n
 ·have k:=h.pk hc (j:=0) hi
  have l:=k.ln.symm
  have st : ∀ {w:Str},s.next w=true->Rl c s.step t.step∧Yb N s.step∧Yb M t.step:=fun {w} q=>
   ⟨h.stepN hc hi q,f.step (Zc q),K.step (Zc (s:=t) (w:=w) (by rw[h.nx hc hi];exact q))⟩
  unfold Xe
  dsimp only
  rw[k.k]
  by_cases q:(s.peek 0).k=3
  ·rw[if_pos q,if_pos q]
   exact(CW hc h 2147483647).map (fun e=>QL (by rw[e];exact congrArg (fun l=>({Jp 2 l ⟨Vp⟩with num:=(t.num 2147483647).1}:Nd)) l) rfl)
  rw[if_neg q,if_neg q]
  by_cases q:(s.peek 0).k=1
  ·rw[if_pos q,if_pos q]
   exact e2h hc D z F f K h hi q
  rw[if_neg q,if_neg q]
  have nx:=h.nx hc hi
  by_cases q:s.next ⟨[116,114,117,101]⟩=true
  ·rw[if_pos q,if_pos (show t.next ⟨[116,114,117,101]⟩=true from by rw[nx];exact q)]
   exact(st q).1.outE (QL (congrArg (fun l=>({Jp 2 l ⟨XN⟩with num:=1}:Nd)) l) rfl)
  rw[if_neg q,if_neg (show ¬ t.next ⟨[116,114,117,101]⟩=true from by rw[nx];exact q)]
  by_cases q:s.next ⟨[102,97,108,115,101]⟩=true
  ·rw[if_pos q,if_pos (show t.next ⟨[102,97,108,115,101]⟩=true from by rw[nx];exact q)]
   exact(st q).1.outE (QL (congrArg (fun l=>Jp 2 l ⟨XN⟩) l) rfl)
  rw[if_neg q,if_neg (show ¬ t.next ⟨[102,97,108,115,101]⟩=true from by rw[nx];exact q)]
  by_cases q:s.next ⟨[40]⟩=true
  ·rw[if_pos q,if_pos (show t.next ⟨[40]⟩=true from by rw[nx];exact q)]
   obtain⟨g,C,A⟩:=st q
   have E:=D _ C g.hs
   have I:=z _ A g.ht
   refine SS hc g E (F _ _ C A g) (Ge.need E.hi) (Ge.need I.hi) fun J v=> ?_
   exact(Yl hc J ⟨[41]⟩).map (fun _=>v)
  rw[if_neg q,if_neg (show ¬ t.next ⟨[40]⟩=true from by rw[nx];exact q)]
  by_cases q:s.next ⟨[91]⟩=true
  ·rw[if_pos q,if_pos (show t.next ⟨[91]⟩=true from by rw[nx];exact q)]
   obtain⟨g,C,A⟩:=st q
   have E:=Ge.listL (B:=Yb N) (fun s t h k=>h.ge k) (fun s h k=>D s h k) C g.hs
   have I:=Ge.listL (B:=Yb M) (fun s t h k=>h.ge k) (fun s h k=>z s h k) A g.ht
   refine bdS (V:=VTs c) hc g E (Mt (P:=Yb N) (P':=Yb M) (V:=VT c) hc (fun s u a b=>a.ge b) (fun s u a b=>a.ge b) (fun s a b=>D s a b) (fun s a b=>z s a b) (fun s t a b r=>(F s t a b r).out) (fun o o' x y e L=>c4c e L) (fun x y e=>WC e rfl) C A g) (Ge.need E.hi) (Ge.need I.hi) (fun H _ e=>Wi (XX hc g E H e) _) fun J v=> ?_
   exact(Yl hc J ⟨[93]⟩).map (fun _=>QL (congrArg (fun l=>ndK 7 l) l) v)
  rw[if_neg q,if_neg (show ¬ t.next ⟨[91]⟩=true from by rw[nx];exact q)]
  by_cases q:s.next ⟨[102,111,108,100]⟩=true
  ·rw[if_pos q,if_pos (show t.next ⟨[102,111,108,100]⟩=true from by rw[nx];exact q)]
   obtain⟨g,C,A⟩:=st q
   exact f0e hc D z F l C A g
  rw[if_neg q,if_neg (show ¬ t.next ⟨[102,111,108,100]⟩=true from by rw[nx];exact q)]
  by_cases q:s.next ⟨[115,99,97,110]⟩=true
  ·rw[if_pos q,if_pos (show t.next ⟨[115,99,97,110]⟩=true from by rw[nx];exact q)]
   obtain⟨g,C,A⟩:=st q
   exact e6x hc D z F l C A g
  rw[if_neg q,if_neg (show ¬ t.next ⟨[115,99,97,110]⟩=true from by rw[nx];exact q)]
  by_cases q:s.next ⟨[115,105,122,101]⟩=true
  ·rw[if_pos q,if_pos (show t.next ⟨[115,105,122,101]⟩=true from by rw[nx];exact q)]
   exact d6w hc l (st q).1
  rw[if_neg q,if_neg (show ¬ t.next ⟨[115,105,122,101]⟩=true from by rw[nx];exact q)]
  by_cases q:s.next ⟨[35]⟩=true
  ·rw[if_pos q,if_pos (show t.next ⟨[35]⟩=true from by rw[nx];exact q)]
   exact(g0h hc (st q).1).map (fun e=>QL (by rw[e];exact congrArg (fun l=>({ndK 3 l with elem:=t.step.arr.1.e,dims:=t.step.arr.1.d,data:=t.step.arr.1.x}:Nd)) l) rfl)
  rw[if_neg q,if_neg (show ¬ t.next ⟨[35]⟩=true from by rw[nx];exact q)]
  exact h.failE hc hi _ _
 ·exact YK.dead hc h (Ge.prim D f h.hs) (by omega) fun H e=>b1r (XX hc h (Ge.refl h.hs) H e)
end
end
section
section
variable {c:Cm} {s t:PS} {N M:Nat} {ex ex':PS->Tm×PS} {un un':PS->(Tm×Int)×PS}
theorem c4l{u:PS}(h:u.l.length<=u.i):(V8 ex un u).2.bad=true:=by
 unfold V8
 dsimp only
 rw[Wl h,Wl h,Bool.false_and,Bool.or_false,if_neg (by decide),if_neg (by decide)]
 exact b1r h
theorem e0v{s:PS}(hu:Rs N un)(g:Yb (N+1) s)(hn:s.next ⟨[45]⟩=true∨s.next ⟨[33]⟩=true):Ge s.step (V8 ex un s).2:=by
 have hi:s.i<s.l.length:=by rcases hn with h|h <;> exact Zc h
 have e:=Ge.step hi
 unfold V8
 dsimp only
 split
 ·exact Ge.num e.hi
 ·rw[if_pos (by rcases hn with h|h <;> simp[h])]
  exact hu _ (g.step hi) e.hi
theorem g5x(hc:CmOK c)(D:Hf N ex)(B:Hf M ex')(P:SX c N M ex ex')(hu:Rs N un)(hu':Rs M un')(J:SU c N M un un')(Q:WU N un)(f:Yb (N+1) s)(I:Yb (M+1) t)(h:Rl c s t):YK c (VU c) (V8 ex un s) (V8 ex' un' t):=by
 have g:=Ge.una D hu f h.hs
 by_cases hi:s.i<c.n
 ·have k:=h.pk hc (j:=0) hi
  have l:=k.ln.symm
  by_cases hn:s.next ⟨[45]⟩=true∨s.next ⟨[33]⟩=true
  ·have y:s.i<s.l.length:=by rcases hn with h|h <;> exact Zc h
   have u:Rl c s.step t.step:=by rcases hn with q|q <;> exact h.stepN hc hi q
   have C:t.next ⟨[45]⟩=true∨t.next ⟨[33]⟩=true:=by rw[h.nx hc hi,h.nx hc hi];exact hn
   have K:t.i<t.l.length:=by rcases C with h|h <;> exact Zc h
   have E:=e0v (ex:=ex) hu f hn
   by_cases hj:s.i+1<c.n
   ·have L:=h.pk hc (j:=1) hj
    unfold V8
    dsimp only
    rw[h.nx hc hi,h.nx hc hi,L.k]
    split
    ·exact(CW hc u 2147483648).map (fun e=>⟨QL (by rw[e];exact congrArg (fun l=>({Jp 2 l ⟨Vp⟩with num:=IntKind.i64.wrap (-(t.step.num 2147483648).1)}:Nd)) l) rfl,l⟩)
    ·rw[if_pos (by rcases hn with h|h <;> simp[h]),if_pos (by rcases hn with h|h <;> simp[h])]
     refine(J _ _ (f.step y) (I.step K) u).map (fun e=>⟨QL ?_ (WC e.1 rfl),l⟩)
     rw[k.t]
     exact congrArg (fun l=>Jp 6 l (Hr (s.peek 0).t true).a) l
   ·refine⟨fun b1 r=> ?_,fun b1 r=>absurd r (E.wk hc h.la h.za h.sb (show c.n<=s.i+1 by omega) b1)⟩
    exfalso
    have F:=E.le
    have F:s.i+1<=(V8 ex un s).2.i:=F
    rcases r with r|⟨A,r⟩
    ·omega
    ·have el:s.l.length=s.i+1:=by rw[h.la,<- (hc.en A).1];omega
     have O:(s.peek 1).k=0:=by rw[Wz (by omega)]
     unfold V8 at b1
     dsimp only at b1
     rw[O,decide_eq_false (show ¬ (0:Int)=3 by decide),Bool.and_false,if_neg (by decide),if_pos (by rcases hn with h|h <;> simp[h])]at b1
     have w:=Q s.step (by show ZI s.l=true;rw[h.la];exact hc.lx) (f.step y) u.hs b1
     have p:=a6c (un s.step).1.1
     have H:=hu _ (f.step y) u.hs
     have z:=H.hi
     rw[H.l]at z
     have z:(un s.step).2.i<=s.l.length:=z
     have e2:s.step.i=s.i+1:=rfl
     omega
  ·have h1:s.next ⟨[45]⟩=false:=by cases e:s.next ⟨[45]⟩ <;> simp_all
   have h2:s.next ⟨[33]⟩=false:=by cases e:s.next ⟨[33]⟩ <;> simp_all
   unfold V8
   dsimp only
   rw[h.nx hc hi,h.nx hc hi,h1,h2,Bool.false_and,Bool.false_and,Bool.or_false,if_neg (by decide),if_neg (by decide),if_neg (by decide),if_neg (by decide)]
   exact(f4h hc D B P f I h).map (fun e=>⟨e,l⟩)
 ·exact YK.dead hc h g (by omega) fun A e=>c4l (XX hc h (Ge.refl h.hs) A e)
theorem Rl.oper(hc:CmOK c)(h:Rl c s t)(q:s.i<c.n):t.oper.1=s.oper.1:=by
 have k:=h.pk hc (j:=0) q
 unfold PS.oper
 rw[k.k,k.t]
 split <;> rfl
theorem e4j{u:PS}(h:u.l.length<=u.i):u.oper.1.2=0:=by
 unfold PS.oper
 rw[Wz (by omega)]
 rfl
theorem c6h(hc:CmOK c)(h:Rl c s t)(g:c.E)(q:s.i=c.n):t.oper.1.2=0:=by
 have e:t.peek 0=c.b (c.d+c.n):=by unfold PS.peek Cm.b;rw[h.lb,h.zb,h.i,q];rfl
 unfold PS.oper
 rw[e]
 split
 ·exact(hc.en g).2.op ‹_›
 ·rfl
theorem Oy(hc:CmOK c){fr j:PS->(Tm×Int)×PS}{lev:Int}(g:lev≠0)(F:Rs (N+1) fr)(k:Rs (M+1) j)(E:SU c (N+1) (M+1) fr j): ∀ (n m:Nat) {s t:PS} {l l':Tm} {ln i:Int},Rl c s t->Yb (N+1) s->Yb (M+1) t->Yb n s->Yb m t->In c s->VT c l l'->c.z ln=c.z i->YK c (VU c) (opLoop fr lev ln n s l) (opLoop j lev i m t l')
 | 0,_,s,t,l,l',ln,i,h,f,f',f1,f2,q,v,e=>by unfold Yb at f1;omega
 | _+1,0,s,t,l,l',ln,i,h,f,f',f1,f2,q,v,e=>by unfold Yb at f2;omega
 | n+1,m+1,s,t,l,l',ln,i,h,f,f',f1,f2,q,v,e=>by
  rw[opLoop,opLoop,if_neg h.nb,if_neg h.nt]
  rcases q with q|⟨I,q⟩
  ·have J:=h.oper hc q
   rw[J]
   split
   ·exact h.outE ⟨v,e⟩
   ·rename_i q2
    have D:=Dr (s:=s) (by omega)
    have H:=Dr (s:=t) (by rw[J];omega)
    have y:=h.stepR D H
    have u:=f.ge (Ge.step D)
    have A:=f'.ge (Ge.step H)
    have B:=F _ u y.hs
    have C:=k _ A y.ht
    split
    ·exact(E _ _ u A y).map (fun w=>⟨QL (congrArg (fun l=>Jp 6 l s.oper.1.1) e) (WC v (WC w.1 rfl)),e⟩)
    ·refine bdI hc y B (E _ _ u A y) (Ge.opLoop g F n (u.ge B) B.hi) (Ge.opLoop g k m (A.ge C) C.hi) fun r w K=> ?_
     exact Oy hc g F k E n m r (u.ge B) (A.ge C) ((f1.step D).ge B) ((f2.step H).ge C) K (QL (congrArg (fun l=>Jp 6 l s.oper.1.1) e) (WC v (WC w.1 rfl))) e
  ·rw[if_pos (by rw[e4j (XX hc h (Ge.refl h.hs) I q)];exact g.symm),if_pos (by rw[c6h hc h I q];exact g.symm)]
   exact h.outE ⟨v,e⟩
theorem c4b(hc:CmOK c)(z:Rs (N+1) un)(g:Rs (M+1) un')(y:SU c (N+1) (M+1) un un'): ∀ d:Nat,d<=5->SU c (N+1) (M+1) (Yt un d) (Yt un' d)
 | 0,_=>y
 | d+1,hd=>fun s t f k h=>by
  have u:=Ge.from z d (by omega)
  have e:=Ge.from g d (by omega)
  have j:=u s f h.hs
  have l:=e t k h.ht
  have i:=c4b hc z g y d (by omega)
  rw[Yt,Yt]
  refine bdI hc h j (i s t f k h) (Ge.opLoop (by omega) u _ (f.ge j) j.hi) (Ge.opLoop (by omega) e _ (k.ge l) l.hi) fun r v q=> ?_
  exact Oy hc (by omega) u e i _ _ r (f.ge j) (k.ge l) (Xt j) (Xt l) q v.1 v.2
theorem f3z{fr:PS->(Tm×Int)×PS}{lev ln:Int}{n:Nat}{u:PS}{l:Tm}(h:u.bad=true):(opLoop fr lev ln n u l).2.bad=true:=by
 cases n with
 | zero=>exact h
 | succ n=>rw[opLoop,if_pos h];exact h
theorem a9z{u:PS}(h:(un u).2.bad=true): ∀ d:Nat,(Yt un d u).2.bad=true
 | 0=>h
 | d+1=>by rw[Yt];exact f3z (a9z h d)
theorem g8o(hc:CmOK c)(I:Hf N ex)(A:Hf M ex')(Y:SX c N M ex ex')(U:Rs (N+1) un)(K:Rs (M+1) un')(su:SU c (N+1) (M+1) un un')(he : ∀ u:PS,u.l.length<=u.i->(un u).2.bad=true)(f:Yb (N+1) s)(W:Yb (M+1) t)(h:Rl c s t):YK c (VT c) (exB ex un s) (exB ex' un' t):=by
 by_cases hi:s.i<c.n
 ·have k:=h.pk hc (j:=0) hi
  have l:=k.ln.symm
  unfold exB
  dsimp only
  rw[h.nx hc hi]
  split
  ·rename_i q
   have q':t.next ⟨[108,101,116]⟩=true:=by rw[h.nx hc hi];exact q
   have B:=h.stepN hc hi q
   have F:=f.step (Zc q)
   have g:=W.step (Zc q')
   have L:=Ge.name B.hs
   have S:=Ge.name B.ht
   have D:=Ge.need (w:=⟨[61]⟩) L.hi
   have J:=Ge.need (w:=⟨[61]⟩) S.hi
   have O:=L.trans D
   have P:=S.trans J
   have y:=I _ (F.ge O) D.hi
   have C:=A _ (g.ge P) J.hi
   have r:=Ge.need (w:=⟨[105,110]⟩) y.hi
   have z:=Ge.need (w:=⟨[105,110]⟩) C.hi
   have V:=O.trans (y.trans r)
   have Z:=P.trans (C.trans z)
   have E:=I _ (F.ge V) r.hi
   have H:=A _ (g.ge Z) z.hi
   refine SS hc B L (UO hc B) (D.trans (y.trans (r.trans E))) (J.trans (C.trans (z.trans H))) fun r2 v2=> ?_
   refine SS (a:=((),s.step.name.2.need ⟨[61]⟩)) (b:=((),t.step.name.2.need ⟨[61]⟩)) hc r2 D (Yl hc r2 _) (y.trans (r.trans E)) (C.trans (z.trans H)) fun T _=> ?_
   refine SS hc T y (Y _ _ (F.ge O) (g.ge P) T) (r.trans E) (z.trans H) fun X v4=> ?_
   refine SS (a:=((),(ex (s.step.name.2.need ⟨[61]⟩)).2.need ⟨[105,110]⟩)) (b:=((),(ex' (t.step.name.2.need ⟨[61]⟩)).2.need ⟨[105,110]⟩)) hc X r (Yl hc X _) E H fun r5 _=> ?_
   refine(Y _ _ (F.ge V) (g.ge Z) r5).map (fun v6=>QL ?_ (WC v4 (WC v6 rfl)))
   rw[v2]
   exact congrArg (fun l=>Jp 5 l t.step.name.1) l
  ·exact(c4b hc U K su 5 (by omega) s t f W h).map (fun v=>v.1)
 ·refine YK.dead hc h (Ge.exp1 I U f h.hs) (by omega) fun hE e=> ?_
  have Q:=XX hc h (Ge.refl h.hs) hE e
  unfold exB
  rw[if_neg (by rw[Wl Q];decide)]
  exact a9z (he s Q) 5
end
theorem e1b{c:Cm}(hc:CmOK c): ∀ N M:Nat,SX c N M (ZZ N) (ZZ M)∧SU c N M (Qm N) (Qm M)
 | 0,_=>⟨fun s t f _ _=>by unfold Yb at f;omega,fun s t f _ _=>by unfold Yb at f;omega⟩
 | _+1,0=>⟨fun s t _ f _=>by unfold Yb at f;omega,fun s t _ f _=>by unfold Yb at f;omega⟩
 | N+1,M+1=>by
  obtain⟨i,j⟩:=e1b hc N M
  have e:SU c (N+1) (M+1) (Qm (N+1)) (Qm (M+1)):=fun s t f g h=>by
   rw[Q3,Q3]
   exact g5x hc (XJ N).1 (XJ M).1 i (XJ N).2 (XJ M).2 j (Ns N).2 f g h
  exact⟨fun s t f g h=>by
   rw[UB,UB]
   exact g8o hc (XJ N).1 (XJ M).1 i (XJ (N+1)).2 (XJ (M+1)).2 e (fun u hu=>by rw[Q3];exact c4l hu) f g h,e⟩
end
section
section
variable {c:Cm} {s t:PS}
theorem c1b(hc:CmOK c)(h:Rl c s t)(row:Bool):UJ c Eq (s.dims row) (t.dims row):=by
 by_cases hi:s.i<c.n
 ·have e : ∀ {s t:PS},Rl c s t->UJ c Eq (listL PS.linear s) (listL PS.linear t):=fun r=>BG (one:=PS.linear) hc (fun s h=>Ge.linear h) (fun s t r=>Au hc r) r
  unfold PS.dims
  rw[h.nx hc hi]
  by_cases q:s.next ⟨[93]⟩=true
  ·rw[if_pos q,if_pos q];exact(h.outE rfl).out
  ·rw[if_neg q,if_neg q]
   cases row with
   | false=>
    rw[if_neg Bool.false_ne_true,if_neg Bool.false_ne_true,if_neg h.nb,if_neg h.nt]
    exact e h
   | true=>
    rw[if_pos rfl,if_pos rfl]
    have j:=Ge.need (w:=⟨[44]⟩) h.hs
    have k:=Ge.need (w:=⟨[44]⟩) h.ht
    have g : ∀ {u:PS},u.i<=u.l.length->Ge u (if u.bad=true then(([]:List Lin),u)else listL PS.linear u).2:=fun {u} hu=>by
     split
     ·exact Ge.refl hu
     ·exact Ge.list (one:=PS.linear) (fun s h=>Ge.linear h) hu
    refine bdO (a:=((),s.need ⟨[44]⟩)) (b:=((),t.need ⟨[44]⟩)) hc h j (Yl hc h _).out (g j.hi) (g k.hi) fun r _=> ?_
    have r:Rl c (s.need ⟨[44]⟩) (t.need ⟨[44]⟩):=r
    rw[if_neg r.nb,if_neg r.nt]
    exact e r
 ·exact UJ.dead hc h (Ge.dims h.hs) (by omega)
theorem Ng{s:PS}(hb:s.bad=false)(e:(s.peek 0).k=1):Ge s.step s.shape.2:=by
 have hi:=YU (s:=s) (by rw[e];decide)
 have z:=Ge.step hi
 have en:s.name=((s.peek 0).t,s.step):=a6k e
 have nx : ∀ w:Str,s.next w=false:=fun w=>by unfold PS.next;rw[e];rfl
 unfold PS.shape
 split
 ·rename_i q
  have C:=PE q
  have r:Ge s.step s.step.step:=Ge.step (by show s.i+1<s.l.length;exact C)
  rw[en]
  have y:=Ge.dims (row:=true) r.hi
  exact r.trans (y.trans (Ge.need y.hi))
 ·have A:s.dims false=listL PS.linear s:=by
   unfold PS.dims
   rw[nx,if_neg Bool.false_ne_true,if_neg Bool.false_ne_true,if_neg (by rw[hb];decide)]
  have u:Ge s.step s.linear.2:=by
   have g:s.lin0.2=s.step:=by
    unfold PS.lin0
    rw[nx,if_neg (by decide)]
    unfold PS.item
    rw[if_pos e,en]
   have:=Ge.linLoop (s.l.length+1) (s:=s.lin0.2) (l:=s.lin0.1) (by rw[g];exact z.hi)
   rw[g]at this
   unfold PS.linear
   rw[g]
   exact this
  have j:Ge s.linear.2 (listL PS.linear s).2:=Ge.moreL (B:=fun _=>True) (fun _ _ _ _=>trivial) (fun s _ h=>Ge.linear h) _ trivial u.hi
  rw[A]
  exact u.trans (j.trans (Ge.need j.hi))
theorem c9y{s:PS}(hb:s.bad=false)(e:(s.peek 0).k=1)(D:s.l.length<=s.i+1):s.shape.2.bad=true:=by
 have g:=Ng hb e
 have A:s.isRow=false:=by unfold PS.isRow;rw[Wz (k:=1) D,e];rfl
 have nx : ∀ w:Str,s.next w=false:=fun w=>by unfold PS.next;rw[e];rfl
 have hi:=YU (s:=s) (by rw[e];decide)
 have u:=Ge.step hi
 have y:s.dims false=listL PS.linear s:=by
  unfold PS.dims
  rw[nx,if_neg Bool.false_ne_true,if_neg Bool.false_ne_true,if_neg (by rw[hb];decide)]
 have j:Ge s.step s.linear.2:=by
  have C:s.lin0.2=s.step:=by
   unfold PS.lin0
   rw[nx,if_neg (by decide)]
   unfold PS.item
   rw[if_pos e,a6k e]
  unfold PS.linear
  rw[C]
  exact Ge.linLoop _ u.hi
 have q:Ge s.linear.2 (listL PS.linear s).2:=Ge.moreL (B:=fun _=>True) (fun _ _ _ _=>trivial) (fun s _ h=>Ge.linear h) _ trivial j.hi
 unfold PS.shape
 rw[A,if_neg Bool.false_ne_true,y]
 refine Wi ?_ _
 have r:=(j.trans q).le
 have r:s.i+1<=(listL PS.linear s).2.i:=r
 have z:(listL PS.linear s).2.l=s.l:=(j.trans q).l
 rw[z]
 omega
theorem e2i(hc:CmOK c)(h:Rl c s t):YK c Eq s.shape t.shape:=by
 have g:=Ge.shape h.hs
 by_cases hi:s.i<c.n
 ·have k:=h.pk hc (j:=0) hi
  have q:s.isRow=false->t.isRow=false->YK c Eq s.shape t.shape:=fun A M=>by
   have y:=Ge.dims (row:=false) h.hs
   have E:=Ge.dims (row:=false) h.ht
   unfold PS.shape
   rw[A,M,if_neg Bool.false_ne_true,if_neg Bool.false_ne_true]
   refine bdS hc h y (c1b hc h false) (Ge.need y.hi) (Ge.need E.hi) (fun z _ e=>Wi (XX hc h y z e) _) fun r v=> ?_
   exact(Yl hc r ⟨[93]⟩).map (fun _=>by rw[v])
  by_cases hk:(s.peek 0).k=1
  ·by_cases hj:s.i+1<c.n
   ·have J:=h.pk hc (j:=1) hj
    have H:t.isRow=s.isRow:=by unfold PS.isRow;rw[k.k,J.k,J.t]
    cases e:s.isRow with
    | false=>exact q e (H.trans e)
    | true=>
     have F:=H.trans e
     have L:=h.step hc hi (by rw[hk];decide)
     have en:s.name=((s.peek 0).t,s.step):=BQ e
     have D:t.name=((t.peek 0).t,t.step):=BQ F
     have C:Rl c s.step.step t.step.step:=L.stepR (show s.i+1<s.l.length from PE e) (show t.i+1<t.l.length from PE F)
     have y:=Ge.dims (row:=true) C.hs
     have E:=Ge.dims (row:=true) C.ht
     unfold PS.shape
     rw[e,F,if_pos rfl,if_pos rfl,en,D]
     refine bdS hc C y (c1b hc C true) (Ge.need y.hi) (Ge.need E.hi) (fun z _ e=>Wi (XX hc C y z e) _) fun r v=> ?_
     exact(Yl hc r ⟨[93]⟩).map (fun _=>by rw[v,k.t])
   ·have I:=Ng h.sb hk
    refine⟨fun b1 B=> ?_,fun b1 B=>absurd B (I.wk hc h.la h.za h.sb (show c.n<=s.i+1 by omega) b1)⟩
    exfalso
    have A:=I.le
    have A:s.i+1<=s.shape.2.i:=A
    rcases B with B|⟨z,B⟩
    ·omega
    ·rw[c9y h.sb hk (by rw[h.la,<- (hc.en z).1];omega)]at b1
     cases b1
  ·have K : ∀ {u:PS},(u.peek 0).k≠1->u.isRow=false:=fun {u} hu=>by unfold PS.isRow;rw[decide_eq_false hu];rfl
   exact q (K hk) (K (by rw[k.k];exact hk))
 ·refine YK.dead hc h g (by omega) fun z e=> ?_
  have A:=XX hc h (Ge.refl h.hs) z e
  have N:s.isRow=false:=by unfold PS.isRow;rw[Wz (k:=0) A];rfl
  unfold PS.shape
  rw[N,if_neg Bool.false_ne_true]
  refine Wi ?_ _
  have y:=Ge.dims (row:=false) h.hs
  have:=y.le
  rw[y.l]
  omega
theorem f5c(hc:CmOK c)(h:Rl c s t):YK c Eq s.elem t.elem:=by
 by_cases hi:s.i<c.n
 ·unfold PS.elem
  rw[h.nx hc hi,h.nx hc hi]
  by_cases q:s.next ⟨Vp⟩=true
  ·rw[if_pos q,if_pos q];exact(h.stepN hc hi q).outE rfl
  ·rw[if_neg q,if_neg q]
   by_cases q:s.next ⟨XN⟩=true
   ·rw[if_pos q,if_pos q];exact(h.stepN hc hi q).outE rfl
   ·rw[if_neg q,if_neg q];exact h.failE hc hi _ _
 ·refine YK.dead hc h (Ge.elem h.hs) (by omega) fun j e=> ?_
  have g:=XX hc h (Ge.refl h.hs) j e
  unfold PS.elem
  rw[if_neg (by rw[Wl g];decide),if_neg (by rw[Wl g];decide)]
  rfl
theorem c6a(hc:CmOK c)(h:Rl c s t):UJ c Eq s.shape0 t.shape0:=by
 by_cases hi:s.i<c.n
 ·unfold PS.shape0
  rw[h.nx hc hi]
  by_cases q:s.next ⟨[91]⟩=true
  ·rw[if_pos q,if_pos q];exact(e2i hc (h.stepN hc hi q)).out
  ·rw[if_neg q,if_neg q];exact(h.outE rfl).out
 ·exact UJ.dead hc h (Ge.shape0 h.hs) (by omega)
theorem e0i(hc:CmOK c)(h:Rl c s t):YK c Eq s.typ t.typ:=by
 have i:=Ge.shape0 h.hs
 have u:=Ge.shape0 h.ht
 have g:=Ge.elem i.hi
 have j:=Ge.elem u.hi
 refine bdS hc h i (c6a hc h) (g.trans (Ge.wide g.hi)) (j.trans (Ge.wide j.hi)) (fun l _ e=> ?_) fun r v=> ?_
 ·have k:=XX hc h i l e
  show s.shape0.2.elem.2.bad=true
  unfold PS.elem
  rw[if_neg (by rw[Wl k];decide),if_neg (by rw[Wl k];decide)]
  rfl
 ·refine SS hc r g (f5c hc r) (Ge.wide g.hi) (Ge.wide j.hi) fun q y=> ?_
  have et:t.typT=s.typT:=by unfold PS.typT;rw[v,y]
  unfold PS.typ
  rw[et]
  exact(q.wide _).outE rfl
theorem e0t(hc:CmOK c)(h:Rl c s t):UJ c Eq s.param t.param:=by
 have j:=Ge.name h.hs
 have k2:=Ge.name h.ht
 have g : ∀ {u:PS},u.i<=u.l.length->Ge u.name.2 u.param.2:=fun {u} hu=>by
  unfold PS.param
  split
  ·have a:=Ge.step (Zc ‹_›)
   exact a.trans (Ge.typ a.hi)
  ·exact Ge.refl (Ge.name hu).hi
 refine bdO hc h j (UO hc h).out (g h.hs) (g h.ht) fun r v=> ?_
 by_cases hj:s.name.2.i<c.n
 ·unfold PS.param
  rw[r.nx hc hj,v]
  by_cases q:s.name.2.next ⟨[58]⟩=true
  ·rw[if_pos q,if_pos q]
   exact((e0i hc (r.stepN hc hj q)).map (fun e=>by rw[e])).out
  ·rw[if_neg q,if_neg q];exact(r.outE rfl).out
 ·exact UJ.dead hc r (g h.hs) (by omega)
end
end
section
structure ZOK (c:Cm):Prop where
 v : ∀ a b:Tm,zT c.z a=zT c.z b->YB a=YB b
 g : ∀ a b:Int,c.z a=c.z b->decide (a>10000)=decide (b>10000)
structure VDf (c:Cm) (x y:Df):Prop where
 name:x.name=y.name
 line:c.z x.line=c.z y.line
 ps:x.ps=y.ps
 given:x.given=y.given
 res:x.res=y.res
 body:VT c (.mk x.n x.ks) (.mk y.n y.ks)
def VDb(c:Cm)(x y:Df×Bool):Prop:=VDf c x.1 y.1∧x.2=y.2
section
variable {c:Cm} {s t:PS}
theorem Rl.fewA(hc:CmOK c)(h:Rl c s t):Yb 4001 s∧Yb 4001 t:=by
 have a:=hc.la
 have b:=hc.lb
 refine⟨?_,?_⟩
 ·unfold Yb;rw[h.la];omega
 ·unfold Yb;rw[h.lb];omega
theorem g2j(hc:CmOK c)(h:Rl c s t):UJ c Eq s.dfP t.dfP:=by
 by_cases hi:s.i<c.n
 ·unfold PS.dfP
  rw[if_neg h.nb,if_neg h.nt,h.nx hc hi]
  by_cases q:s.next ⟨[41]⟩=true
  ·rw[if_pos q,if_pos q];exact(h.outE rfl).out
  ·rw[if_neg q,if_neg q]
   exact BG (one:=PS.param) hc (fun s h=>Ge.param h) (fun s t r=>e0t hc r) h
 ·exact UJ.dead hc h (Ge.dfP h.hs) (by omega)
theorem g5e(hc:CmOK c)(h:Rl c s t):UJ c Eq s.dfR t.dfR:=by
 by_cases hi:s.i<c.n
 ·unfold PS.dfR
  rw[h.nx hc hi]
  by_cases q:s.next ⟨[58]⟩=true
  ·rw[if_pos q,if_pos q]
   exact((e0i hc (h.stepN hc hi q)).map (fun e=>by rw[e])).out
  ·rw[if_neg q,if_neg q];exact(h.outE rfl).out
 ·exact UJ.dead hc h (Ge.dfR h.hs) (by omega)
theorem g1e(hc:CmOK c)(l:ZOK c)(h:Rl c s t){d i:Tm->Df}(hd : ∀ x y,VT c x y->VDf c (d x) (i y))(u : ∀ x y,(d x).ps.length=(i y).ps.length)(q : ∀ x y,c.z (d x).line=c.z (i y).line):YK c (VDb c) (s.dfE d) (t.dfE i):=by
 obtain⟨B,A⟩:=h.fewA hc
 have O:YK c (VT c) s.expr t.expr:=(e1b hc 4001 4001).1 s t B A h
 unfold PS.dfE
 rw[if_neg h.nb,if_neg h.nt]
 cases e:s.expr.2.bad with
 | true=>
  rw[if_pos rfl]
  refine⟨fun b=> ?_,fun b1 j=> ?_⟩
  ·have b:s.expr.2.bad=false:=b
   rw[e]at b;cases b
  ·have k:=O.2 e j
   rw[if_pos k.1]
   exact k
 | false=>
  rw[if_neg Bool.false_ne_true]
  refine⟨fun b1 j=> ?_,fun b1 _=> ?_⟩
  ·obtain⟨r,v⟩:=O.1 e j
   rw[if_neg r.nt]
   refine⟨r,hd _ _ v,?_⟩
   show(s.expr.2.big||(!(YB s.expr.1)||(decide ((d s.expr.1).ps.length>8)||decide ((d s.expr.1).line>10000))))=(t.expr.2.big||(!(YB t.expr.1)||(decide ((i t.expr.1).ps.length>8)||decide ((i t.expr.1).line>10000))))
   rw[r.big,l.v _ _ v,u s.expr.1 t.expr.1,l.g _ _ (q s.expr.1 t.expr.1)]
  ·have b1:s.expr.2.bad=true:=b1
   rw[e]at b1;cases b1
theorem Rl.small(h:Rl c s t):Rl c s.small t.small:=⟨h.la,h.lb,h.za,h.zb,h.i,h.sb,h.tb,rfl,h.hs,h.ht⟩
theorem f3o(hc:CmOK c)(hz:ZOK c){ln r:Int}(T:c.z ln=c.z r)(h:Rl c s t):
  YK c (VDb c) (((((s.name.2.need ⟨[40]⟩).dfP.2.need ⟨[41]⟩).dfR.2.need ⟨[61]⟩)).dfE (Hl s.name.1 ln (s.name.2.need ⟨[40]⟩).dfP.1 (((s.name.2.need ⟨[40]⟩).dfP.2.need ⟨[41]⟩).dfR.1)))
   (((((t.name.2.need ⟨[40]⟩).dfP.2.need ⟨[41]⟩).dfR.2.need ⟨[61]⟩)).dfE (Hl t.name.1 r (t.name.2.need ⟨[40]⟩).dfP.1 (((t.name.2.need ⟨[40]⟩).dfP.2.need ⟨[41]⟩).dfR.1))):=by
 have ok : ∀ {u:PS},u.l.length<=4000->(u.l.all d1j=true)->u.i<=u.l.length->Zb u=true:=fun a b d=>by
  unfold Zb
  rw[decide_eq_true a,decide_eq_true d,b];rfl
 have N : ∀ {l:List Tok},ZI l=true->l.all d1j=true:=fun {l} hx=>by
  rw[List.all_eq_true]
  intro x M
  have:=List.all_eq_true.1 hx x M
  unfold a1d at this
  simp only[Bool.and_eq_true]at this
  exact this.2.2.2
 have ps:Zb s=true:=ok (by rw[h.la];exact hc.la) (by rw[h.la];exact N hc.lx) h.hs
 have Z:Zb t=true:=ok (by rw[h.lb];exact hc.lb) (by rw[h.lb];exact N hc.ly) h.ht
 have H:=Ge.name h.hs
 have b1:=Ge.name h.ht
 have B:=Ge.need (w:=⟨[40]⟩) H.hi
 have L:=Ge.need (w:=⟨[40]⟩) b1.hi
 have A:=Ge.dfP B.hi
 have K:=Ge.dfP L.hi
 have q:=Ge.need (w:=⟨[41]⟩) A.hi
 have J:=Ge.need (w:=⟨[41]⟩) K.hi
 have g:=Ge.dfR q.hi
 have D:=Ge.dfR J.hi
 have k:=Ge.need (w:=⟨[61]⟩) g.hi
 have F:=Ge.need (w:=⟨[61]⟩) D.hi
 have j:=Ge.dfE (d:=Hl s.name.1 ln (s.name.2.need ⟨[40]⟩).dfP.1 (((s.name.2.need ⟨[40]⟩).dfP.2.need ⟨[41]⟩).dfR.1)) ((H.trans (B.trans (A.trans (q.trans (g.trans k))))).ok ps)
 have C:=Ge.dfE (d:=Hl t.name.1 r (t.name.2.need ⟨[40]⟩).dfP.1 (((t.name.2.need ⟨[40]⟩).dfP.2.need ⟨[41]⟩).dfR.1)) ((b1.trans (L.trans (K.trans (J.trans (D.trans F))))).ok Z)
 -- at the end of the common part a further word is wanted
 have dead : ∀ {u:PS} (w:Str),Ge s u->Ge (u.need w) (((((s.name.2.need ⟨[40]⟩).dfP.2.need ⟨[41]⟩).dfR.2.need ⟨[61]⟩)).dfE (Hl s.name.1 ln (s.name.2.need ⟨[40]⟩).dfP.1 (((s.name.2.need ⟨[40]⟩).dfP.2.need ⟨[41]⟩).dfR.1))).2->c.E->u.i=c.n->(((((s.name.2.need ⟨[40]⟩).dfP.2.need ⟨[41]⟩).dfR.2.need ⟨[61]⟩)).dfE (Hl s.name.1 ln (s.name.2.need ⟨[40]⟩).dfP.1 (((s.name.2.need ⟨[40]⟩).dfP.2.need ⟨[41]⟩).dfR.1))).2.bad=true:=fun w g1 Y I e=>Y.bad (Wi (XX hc h g1 I e) w)
 refine SS hc h H (UO hc h) (B.trans (A.trans (q.trans (g.trans (k.trans j))))) (L.trans (K.trans (J.trans (D.trans (F.trans C))))) fun O X=> ?_
 refine SS (a:=((),s.name.2.need ⟨[40]⟩)) (b:=((),t.name.2.need ⟨[40]⟩)) hc O B (Yl hc O _) (A.trans (q.trans (g.trans (k.trans j)))) (K.trans (J.trans (D.trans (F.trans C)))) fun W _=> ?_
 refine bdS hc W A (g2j hc W) (q.trans (g.trans (k.trans j))) (J.trans (D.trans (F.trans C))) (fun I _ e=>dead ⟨[41]⟩ (H.trans (B.trans A)) (g.trans (k.trans j)) I e) fun Q U=> ?_
 refine SS (a:=((),(s.name.2.need ⟨[40]⟩).dfP.2.need ⟨[41]⟩)) (b:=((),(t.name.2.need ⟨[40]⟩).dfP.2.need ⟨[41]⟩)) hc Q q (Yl hc Q _) (g.trans (k.trans j)) (D.trans (F.trans C)) fun S _=> ?_
 refine bdS hc S g (g5e hc S) (k.trans j) (F.trans C) (fun I _ e=>dead ⟨[61]⟩ (H.trans (B.trans (A.trans (q.trans g)))) j I e) fun P V=> ?_
 refine SS (a:=((),((s.name.2.need ⟨[40]⟩).dfP.2.need ⟨[41]⟩).dfR.2.need ⟨[61]⟩)) (b:=((),((t.name.2.need ⟨[40]⟩).dfP.2.need ⟨[41]⟩).dfR.2.need ⟨[61]⟩)) hc P k (Yl hc P _) j C fun r6 _=> ?_
 refine g1e hc hz r6 (fun x y v=>⟨X,T,U,congrArg Prod.fst V,congrArg Prod.snd V,?_⟩) (fun x y=>congrArg List.length U) (fun x y=>T)
 show VT c (.mk x.nd x.ks) (.mk y.nd y.ks)
 have ex : ∀ t:Tm,Tm.mk t.nd t.ks=t:=fun t=>by cases t;rfl
 rw[ex,ex]
 exact v
end
end
section
structure Gw (s t:PS):Prop where
 l:t.l=s.l
 sz:t.sz=s.sz
 le:s.i<=t.i
 hi:t.i<=t.l.length
 bad:s.bad=true->t.bad=true
 keep:s.bad=true->t.wr=s.wr
 at_:s.bad=false->t.bad=true-> ∃ p,s.i<=p∧p<=s.l.length∧t.wr=(s.l.getD p ⟨0,⟨[]⟩,0,s.sz⟩).o
theorem Ge.gw{s t:PS}(h:Ge s t):Gw s t:=⟨h.l,h.sz,h.le,h.hi,h.bad,h.keep,h.at_⟩
theorem Gw.trans{s t u:PS}(h:Gw s t)(k:Gw t u):Gw s u:=⟨k.l.trans h.l,k.sz.trans h.sz,Nat.le_trans h.le k.le,k.hi,fun q=>k.bad (h.bad q),fun q=>(k.keep (h.bad q)).trans (h.keep q),fun a b=>by
 cases e:t.bad with
 | true=>
  obtain⟨p,h1,h2,h3⟩:=h.at_ a e
  exact⟨p,h1,h2,(k.keep e).trans h3⟩
 | false=>
  obtain⟨p,h1,h2,h3⟩:=k.at_ e b
  rw[h.l]at h2 h3
  rw[h.sz]at h3
  exact⟨p,Nat.le_trans h.le h1,h2,h3⟩⟩
theorem Gw.small{s:PS}(h:s.i<=s.l.length):Gw s s.small:=⟨rfl,rfl,Nat.le_refl _,h,id,fun _=>rfl,fun a b=>by rw[show s.small.bad=s.bad from rfl,a]at b;cases b⟩
theorem Gw.defP{s:PS}(hs:Zb s=true):Gw s s.defP.2:=by
 have kd:=Ge.need (w:=⟨[100,101,102]⟩) (Zm hs).2
 have e:Gw s s.df0:=kd.gw.trans (Gw.small kd.hi)
 exact e.trans (Ge.defP hs).gw
theorem Gw.ok{s t:PS}(h:Gw s t)(k:Zb s=true):Zb t=true:=by
 have h1:=Zm k
 have h2:=h.hi
 unfold Zb at k ⊢
 simp only[Bool.and_eq_true]at k
 rw[h.l]at h2 ⊢
 rw[k.1,k.2.2,decide_eq_true h2]
 rfl
theorem Gw.defL: ∀ (n:Nat) {s:PS} {w:Int} {o:List Df},Zb s=true->Gw s (Go.Pl.defL n s w o).2
 | 0,s,w,o,h=>(Ge.refl (Zm h).2).gw
 | n+1,s,w,o,h=>by
  rw[Go.Pl.defL]
  split
  ·exact(Ge.refl (Zm h).2).gw
  ·split
   ·have k:=Gw.defP h
    exact k.trans (Gw.defL n (k.ok h))
   ·exact(Ge.refl (Zm h).2).gw
section
variable {α β γ δ:Type} {c:Cm} {s t:PS} {V:α->β->Prop} {W:γ->δ->Prop} {a:α×PS} {b:β×PS} {a':γ×PS} {b':δ×PS}
theorem Gw.wk(hc:CmOK c){u:PS}(g:Gw s u)(h:s.l=c.A)(e:s.sz=c.zA)(sb:s.bad=false)(hn:c.n<=s.i)(j:u.bad=true): ¬ c.Wk u.wr:=by
 obtain⟨p,h1,h2,h3⟩:=g.at_ sb j
 rw[h]at h2 h3
 rw[e]at h3
 rw[h3]
 exact hc.wk p (by omega) h2
theorem bdW(hc:CmOK c)(h:Rl c s t)(g:Gw s a.2)(o:UJ c V a b)(j:Gw a.2 a'.2)(u:Gw b.2 b'.2)(k:Rl c a.2 b.2->V a.1 b.1->UJ c W a' b'):UJ c W a' b':=by
 cases e:a.2.bad with
 | true=>
  refine⟨fun h1=>(by rw[j.bad e]at h1;cases h1),fun h1 h2=> ?_⟩
  rw[j.keep e]at h2 ⊢
  have h3:=o.2 e h2
  exact⟨u.bad h3.1,by rw[u.keep h3.1];exact h3.2⟩
 | false=>
  by_cases q:a.2.i<c.n
  ·have r:=o.1 e q
   exact k r.1 r.2
  ·refine⟨fun _ h2=>absurd h2 (by have:=j.le;omega),fun h1 h2=>absurd h2 (j.wk hc (g.l.trans h.la) (g.sz.trans h.za) e (by omega) h1)⟩
theorem g7h(hc:CmOK c)(h:Rl c s t)(g:Gw s a.2)(hn:c.n<=s.i):UJ c V a b:=
 ⟨fun _ h2=>absurd h2 (by have:=g.le;omega),fun h1 h2=>absurd h2 (g.wk hc h.la h.za h.sb hn h1)⟩
end
section
variable {c:Cm} {s t:PS}
theorem Rl.psok(hc:CmOK c)(h:Rl c s t):Zb s=true∧Zb t=true:=by
 have ok : ∀ {u:PS},u.l.length<=4000->(u.l.all d1j=true)->u.i<=u.l.length->Zb u=true:=fun a b d=>by
  unfold Zb
  rw[decide_eq_true a,decide_eq_true d,b];rfl
 have g : ∀ {l:List Tok},ZI l=true->l.all d1j=true:=fun {l} hx=>by
  rw[List.all_eq_true]
  intro x e
  have:=List.all_eq_true.1 hx x e
  unfold a1d at this
  simp only[Bool.and_eq_true]at this
  exact this.2.2.2
 exact⟨ok (by rw[h.la];exact hc.la) (by rw[h.la];exact g hc.lx) h.hs,ok (by rw[h.lb];exact hc.lb) (by rw[h.lb];exact g hc.ly) h.ht⟩
theorem c2y(hc:CmOK c)(u:ZOK c)(h:Rl c s t)(hi:s.i<c.n)(q:s.next ⟨[100,101,102]⟩=true):YK c (VDb c) s.defP t.defP:=by
 have k:=h.pk hc (j:=0) hi
 have l:t.next ⟨[100,101,102]⟩=true:=by rw[h.nx hc hi];exact q
 have e:s.df0=s.step.small:=by unfold PS.df0 PS.need;rw[if_pos q]
 have g:t.df0=t.step.small:=by unfold PS.df0 PS.need;rw[if_pos l]
 have r:=(h.stepN hc hi q).small
 have o:=f3o hc u k.ln.symm r
 unfold PS.defP
 rw[e,g]
 exact o
end
end
section
section
variable (z:Int->Int)
mutual
theorem c0t: ∀ t:Tm,Xy (zT z t)=Xy t
 | .mk n ks=>by rw[zT,Xy,Xy,b0i ks]
theorem b0i: ∀ ks:List Tm,Yk (QE z ks)=Yk ks
 | []=>rfl
 | k::ks=>by rw[QE,Yk,Yk,c0t k,b0i ks]
end
mutual
theorem e0k: ∀ t:Tm,Uz (zT z t)=Uz t
 | .mk n ks=>by rw[zT,Uz,Uz,c0x ks]
theorem c0x: ∀ ks:List Tm,VN (QE z ks)=VN ks
 | []=>rfl
 | k::ks=>by rw[QE,VN,VN,e0k k,c0x ks]
end
theorem c2r: ∀ ks:List Tm,(QE z ks).length=ks.length
 | []=>rfl
 | k::ks=>by rw[QE,List.length_cons,List.length_cons,c2r ks]
mutual
theorem a7v: ∀ (l:Nat) (t:Tm),YD l (zT z t)=(YD l t).map fun p=>(zT z p.1,p.2)
 | l,.mk n ks=>by
  have h:zT z (.mk n ks) = .mk {n with line:=z n.line} (QE z ks):=by rw[zT]
  rw[YD,List.map_cons,<- FD (l+1) ks,h,YD]
theorem FD: ∀ (l:Nat) (ks:List Tm),YV l (QE z ks)=(YV l ks).map fun p=>(zT z p.1,p.2)
 | l,[]=>rfl
 | l,k::ks=>by rw[QE,YV,YV,List.map_append,a7v l k,FD l ks]
end
theorem g4v(t:Tm):c7e (zT z t)=(c7e t).map (zT z):=by
 unfold c7e
 rw[a7v,List.map_map,List.map_map]
 rfl
end
def zz(l:Int):Int:=if 0<=l∧l<=10000 then 0 else 1
def e7b(x:Tm):Bool:=decide (x.nd.line=0)&&Fv x.nd x.ks.length
theorem g4q(x:Tm):Pz x=e7b (zT zz x):=by
 obtain⟨n,ks⟩:=x
 have e:e7b (zT zz (.mk n ks))=(decide (zz n.line=0)&&Fv n ks.length):=by
  rw[zT]
  show(decide (zz n.line=0)&&Fv _ (QE zz ks).length)=_
  rw[c2r]
  rfl
 rw[e]
 show Gs n ks.length=_
 unfold Gs zz
 by_cases h:0<=n.line∧n.line<=10000
 ·rw[if_pos h,decide_eq_true h.1,decide_eq_true h.2];rfl
 ·rw[if_neg h]
  have:(decide (0<=n.line)&&decide (n.line<=10000))=false:=by
   simp only[Bool.and_eq_false_iff,decide_eq_false_iff_not]
   by_cases h1:0<=n.line
   ·exact Or.inr fun h2=>h ⟨h1,h2⟩
   ·exact Or.inl h1
  rw[this];rfl
theorem e2j{a b:Tm}(h:zT zz a=zT zz b):YB a=YB b:=by
 have e : ∀ t:Tm,YB t=(decide (Xy (zT zz t)<=400)&&decide (Uz (zT zz t)<=40)&&(c7e (zT zz t)).all e7b):=fun t=>by
  rw[c0t,e0k,g4v,List.all_map]
  unfold YB
  have:Pz=e7b ∘ zT zz:=funext g4q
  rw[this]
 rw[e a,e b,h]
mutual
theorem f6z{z:Int->Int}: ∀ {a b:Tm},zT z a=zT z b->Lu a b=true
 | .mk n ks,.mk m ls,h=>by
  rw[zT,zT]at h
  injection h with h1 h2
  rw[Lu,e3m h2,Bool.and_true]
  injection h1 with a1 a2 a3 a4 a5 a6 a7 a8 a9
  unfold d7b
  rw[a1,a3,a4,a5,a6,a7,a8,a9]
  simp
theorem e3m{z:Int->Int}: ∀ {a b:List Tm},QE z a=QE z b->Dw a b=true
 | [],[],_=>rfl
 | k::ks,l::ls,h=>by
  rw[QE,QE]at h
  injection h with h1 h2
  rw[Dw,f6z h1,e3m h2]
  rfl
 | [],l::ls,h=>by rw[QE,QE]at h;cases h
 | k::ks,[],h=>by rw[QE,QE]at h;cases h
end
mutual
theorem b1n: ∀ t:Tm,zT id t=t
 | .mk n ks=>by rw[zT,d4u ks];rfl
theorem d4u: ∀ ks:List Tm,QE id ks=ks
 | []=>rfl
 | k::ks=>by rw[QE,b1n k,d4u ks]
end
end
theorem b6s{l:List Tok}{k:Nat}(h:k<l.length)(d:Tok):l.getD k d=l[k]:=by rw[List.getD_eq_getElem?_getD,List.getElem?_eq_getElem h];rfl
theorem c2n{l:List Tok}{k:Nat}(h:l.length<=k)(d:Tok):l.getD k d=d:=by rw[List.getD_eq_getElem?_getD,List.getElem?_eq_none h];rfl
section
theorem Ge.jend{s:PS}(h:s.i<=s.l.length):Ge s s.endp:=by
 unfold PS.endp
 split
 ·exact Ge.fail h
 ·exact Ge.refl h
def nmS(s:List UInt8):Str×PS:=((Kb s).need ⟨[109,111,100,117,108,101]⟩).name
def KU(s:List UInt8):List Str×PS:=impL ((Kb s).l.length+1) (nmS s).2 []
def Ac(s:List UInt8):(Int×List Df)×PS:=defL ((Kb s).l.length+1) (KU s).2.expo.2 (-1) []
def h3f(s:List UInt8):PS:=(Ac s).2.endp
theorem f8l(s:List UInt8):Ge (Kb s) ((Kb s).need ⟨[109,111,100,117,108,101]⟩)∧Ge ((Kb s).need ⟨[109,111,100,117,108,101]⟩) (nmS s).2∧Ge (nmS s).2 (KU s).2∧Ge (KU s).2 (KU s).2.expo.2∧Zb (KU s).2.expo.2=true∧Gw (KU s).2.expo.2 (Ac s).2∧Gw (Ac s).2 (h3f s):=by
 have e:=Ge.need (w:=⟨[109,111,100,117,108,101]⟩) (Zm (a4d s)).2
 have h:=Ge.name e.hi
 have g:=Ge.jimp ((Kb s).l.length+1) (o:=[]) h.hi
 have i:=Ge.jexpo g.hi
 have p:=(e.trans (h.trans (g.trans i))).ok (a4d s)
 have j:=Gw.defL ((Kb s).l.length+1) (w:= -1) (o:=[]) p
 exact⟨e,h,g,i,p,j,(Ge.jend j.hi).gw⟩
end
section
def z3(l:Int):Int:=if l<0 then 2 else if l<=10000 then 0 else 1
theorem f7s{l:Int}(h:0<=l)(k:l<=10000):z3 l=0:=by unfold z3;rw[if_neg (by omega),if_pos k]
section
variable (g f:Int->Int)
mutual
theorem c2z: ∀ t:Tm,zT g (zT f t)=zT (fun x=>g (f x)) t
 | .mk n ks=>by rw[zT,zT,zT,a8m ks]
theorem a8m: ∀ ks:List Tm,QE g (QE f ks)=QE (fun x=>g (f x)) ks
 | []=>rfl
 | k::ks=>by rw[QE,QE,QE,c2z k,a8m ks]
end
end
theorem h3j{a b:Tm}(h:zT z3 a=zT z3 b):YB a=YB b:=by
 have e:zz=fun x=>(fun k:Int=>if k=0 then(0:Int)else 1) (z3 x):=funext fun l=>by
  show zz l=if z3 l=0 then 0 else 1
  unfold zz z3
  by_cases h1:l<0
  ·rw[if_neg (show ¬ (0<=l∧l<=10000) by omega),if_pos h1,if_neg (by decide)]
  ·rw[if_neg h1]
   by_cases h2:l<=10000
   ·rw[if_pos (show 0<=l∧l<=10000 by omega),if_pos h2,if_pos rfl]
   ·rw[if_neg (show ¬ (0<=l∧l<=10000) by omega),if_neg h2,if_neg (by decide)]
 refine e2j ?_
 rw[e]
 have k : ∀ t:Tm,zT (fun x=>(fun k:Int=>if k=0 then(0:Int)else 1) (z3 x)) t=zT (fun k:Int=>if k=0 then(0:Int)else 1) (zT z3 t):=fun t=>(c2z (fun k:Int=>if k=0 then(0:Int)else 1) z3 t).symm
 rw[k a,k b,h]
theorem h4e{a b:Int}(h:z3 a=z3 b):decide (a>10000)=decide (b>10000):=by
 have e : ∀ l:Int,decide (l>10000)=decide (z3 l=1):=fun l=>by
  unfold z3
  by_cases h1:l<0
  ·rw[if_pos h1,decide_eq_false (by omega)];rfl
  ·rw[if_neg h1]
   by_cases h2:l<=10000
   ·rw[if_pos h2,decide_eq_false (by omega)];rfl
   ·rw[if_neg h2,decide_eq_true (by omega)];rfl
 rw[e a,e b,h]
def dz(z:Int->Int)(d:Df):Str×Int×List Pm×Bool×TyS×Tm:=(d.name,z d.line,d.ps,d.given,d.res,zT z (.mk d.n d.ks))
theorem VDf.dz{c:Cm}{x y:Df}(h:VDf c x y):dz c.z x=dz c.z y:=by
 unfold Go.Pl.dz
 have hb:zT c.z (.mk x.n x.ks)=zT c.z (.mk y.n y.ks):=h.body
 rw[h.name,h.line,h.ps,h.given,h.res,hb]
theorem g8e{x y:Df}(h:dz id x=dz id y):x=y:=by
 unfold dz at h
 rw[b1n,b1n]at h
 obtain⟨a1,i,a3,a4,a5,a6,a7⟩:=x
 obtain⟨b1,e,b3,b4,b5,b6,b7⟩:=y
 injection h with h1 h
 injection h with h2 h
 injection h with h3 h
 injection h with h4 h
 injection h with h5 h
 injection h with h6 h7
 simp only at h1 h2 h3 h4 h5 h6 h7
 have h2:i=e:=h2
 rw[h1,h2,h3,h4,h5,h6,h7]
theorem e4h: ∀ {x y:List Df},x.map (dz id)=y.map (dz id)->x=y
 | [],[],_=>rfl
 | [],b::y,h=>by cases h
 | a::x,[],h=>by cases h
 | a::x,b::y,h=>by
  rw[List.map_cons,List.map_cons]at h
  injection h with h1 h2
  rw[g8e h1,e4h h2]
theorem Aa: ∀ (n:Nat) (s:PS) (w:Int) (o:List Df),defL n s w o=(((defL n s w []).1.1,o++(defL n s w []).1.2),(defL n s w []).2)
 | 0,s,w,o=>by rw[defL,defL,List.append_nil]
 | n+1,s,w,o=>by
  rw[defL,defL]
  by_cases h1:s.bad=true
  ·rw[if_pos h1,if_pos h1,List.append_nil]
  ·rw[if_neg h1,if_neg h1]
   by_cases h2:s.next ⟨[100,101,102]⟩=true
   ·rw[if_pos h2,if_pos h2,Aa n _ _ (o++_),Aa n _ _ ([]++_),List.append_assoc]
    rfl
   ·rw[if_neg h2,if_neg h2,List.append_nil]
theorem c7k(s:PS):s.small.df0=s.df0:=by
 unfold PS.df0 PS.need
 rw[show s.small.next ⟨[100,101,102]⟩=s.next ⟨[100,101,102]⟩from rfl]
 split <;> rfl
theorem b3a(s:PS):s.small.defP=s.defP:=by
 unfold PS.defP
 rw[c7k]
 rfl
theorem b7p(n:Nat)(s:PS)(w:Int)(o:List Df):(defL n s.small w o).1=(defL n s w o).1∧(defL n s.small w o).2.small=(defL n s w o).2.small:=by
 cases n with
 | zero=>exact⟨rfl,rfl⟩
 | succ n=>
  rw[defL,defL,b3a,show s.small.bad=s.bad from rfl,show s.small.next ⟨[100,101,102]⟩=s.next ⟨[100,101,102]⟩from rfl,show s.small.peek 0=s.peek 0 from rfl]
  split
  ·exact⟨rfl,rfl⟩
  ·split
   ·exact⟨rfl,rfl⟩
   ·exact⟨rfl,rfl⟩
theorem d7k: ∀ (n:Nat) (s:PS) {w:Int} (o:List Df),0<=w->(defL n s w o).1.1=w
 | 0,s,w,o,h=>rfl
 | n+1,s,w,o,h=>by
  rw[defL]
  split
  ·rfl
  ·split
   ·rw[show(s.defP.1.2&&decide (w<0))=false from by rw[decide_eq_false (by omega),Bool.and_false],if_neg Bool.false_ne_true]
    exact d7k n _ _ h
   ·rfl
section
variable {c:Cm} {s t:PS}
theorem N8(hc:CmOK c)(F:ZOK c)(H:Am c.A)(I:Am c.B): ∀ (n m:Nat) {s t:PS} {w w':Int} {o o':List Df},Rl c s t->Yb n s->Yb m t->(w<0 ↔ w'<0)->o.map (dz c.z)=o'.map (dz c.z) ->
  UJ c (fun x y=>(x.1<0 ↔ y.1<0)∧x.2.map (dz c.z)=y.2.map (dz c.z)) (defL n s w o) (defL m t w' o')
 | 0,_,s,t,w,w',o,o',h,f1,f2,j,ho=>by unfold Yb at f1;omega
 | _+1,0,s,t,w,w',o,o',h,f1,f2,j,ho=>by unfold Yb at f2;omega
 | n+1,m+1,s,t,w,w',o,o',h,f1,f2,j,ho=>by
  obtain⟨ps,C⟩:=h.psok hc
  by_cases hi:s.i<c.n
  ·rw[defL,defL,if_neg h.nb,if_neg h.nt,h.nx hc hi]
   by_cases q:s.next ⟨[100,101,102]⟩=true
   ·rw[if_pos q,if_pos q]
    have D:t.next ⟨[100,101,102]⟩=true:=by rw[h.nx hc hi];exact q
    have u:=Gw.defP ps
    have E:=Gw.defP C
    have d1:=JG ps (by rw[h.la];exact hc.lx) q
    have d2:=JG C (by rw[h.lb];exact hc.ly) D
    have p1:=(a7b (s:=s) (by rw[h.la];exact H) (Zc q)).2
    have p2:=(a7b (s:=t) (by rw[h.lb];exact I) (Zc D)).2
    refine bdW hc h u (c2y hc F h hi q).out (Gw.defL n (u.ok ps)) (Gw.defL m (E.ok C)) fun r v=> ?_
    refine N8 hc F H I n m r ?_ ?_ ?_ ?_
    ·have:=Zc q;have:=u.hi;unfold Yb at f1 ⊢;rw[u.l]at this ⊢;omega
    ·have:=Zc D;have:=E.hi;unfold Yb at f2 ⊢;rw[E.l]at this ⊢;omega
    ·rw[v.2]
     by_cases hw0:w<0
     ·rw[decide_eq_true hw0,decide_eq_true (j.1 hw0)]
      by_cases e:t.defP.1.2=true
      ·rw[e,Bool.and_true,if_pos rfl,if_pos rfl];omega
      ·rw[Bool.and_true,if_neg e,if_neg e];exact j
     ·rw[decide_eq_false hw0,decide_eq_false (fun k=>hw0 (j.2 k)),Bool.and_false,if_neg Bool.false_ne_true,if_neg Bool.false_ne_true];exact j
    ·rw[List.map_append,List.map_append,ho]
     show _++[dz c.z s.defP.1.1]=_++[dz c.z t.defP.1.1]
     rw[v.1.dz]
   ·rw[if_neg q,if_neg q];exact(h.outE ⟨j,ho⟩).out
  ·exact g7h hc h (Gw.defL _ ps) (by omega)
theorem a6d(hc:CmOK c)(e:c.E){u:PS}(j:u.l=c.A)(hi:u.i<=u.l.length):In c u:=by
 have:=(hc.en e).1
 rw[j]at hi
 unfold In
 rcases Nat.lt_or_ge u.i c.n with h|h
 ·exact Or.inl h
 ·exact Or.inr ⟨e,by omega⟩
theorem a6y(hc:CmOK c)(I:ZOK c)(y:c.E)(J:Am c.A)(S:Am c.B): ∀ (n m:Nat) {s t:PS} {w w':Int} {o':List Df},Rl c s t->Yb n s->Yb m t->w<0->w'<0->(defL n s w []).2.bad=false->(defL n s w []).1.1<0 ->
  ∃ u t' P,Yb u t'∧Rl c (defL n s w []).2 t'∧P.map (dz c.z)=(defL n s w []).1.2.map (dz c.z)∧defL m t w' o'=defL u t' w' (o'++P)
 | 0,_,s,t,w,w',o',h,f1,j,hw,hw',hb,hf=>by unfold Yb at f1;omega
 | _+1,0,s,t,w,w',o',h,f1,j,hw,hw',hb,hf=>by unfold Yb at j;omega
 | n+1,m+1,s,t,w,w',o',h,f1,j,hw,hw',hb,hf=>by
  obtain⟨ps,H⟩:=h.psok hc
  by_cases q:s.next ⟨[100,101,102]⟩=true
  ·have hi:s.i<c.n:=(a6d hc y h.la h.hs).lt hc h q
   have D:t.next ⟨[100,101,102]⟩=true:=by rw[h.nx hc hi];exact q
   rw[defL,if_neg h.nb,if_pos q]at hb hf ⊢
   rw[show defL (m+1) t w' o'=_ from by rw[defL,if_neg h.nt,if_pos D]]
   have k:=Gw.defP ps
   have K:=Gw.defP H
   have d1:=JG ps (by rw[h.la];exact hc.lx) q
   have d2:=JG H (by rw[h.lb];exact hc.ly) D
   have M:=(a7b (s:=s) (by rw[h.la];exact J) (Zc q)).2
   have b1:s.defP.2.bad=false:=by
    cases e:s.defP.2.bad with
    | false=>rfl
    | true=>rw[(Gw.defL n (k.ok ps)).bad e]at hb;cases hb
   obtain⟨r,v⟩:=(c2y hc I h hi q).1 b1 (a6d hc y (k.l.trans h.la) k.hi)
   have F:s.defP.1.2=false:=by
    cases e:s.defP.1.2 with
    | false=>rfl
    | true=>
     rw[e,decide_eq_true hw,Bool.and_true,if_pos rfl,d7k n _ _ M]at hf
     omega
   have C:t.defP.1.2=false:=by rw[<- v.2];exact F
   rw[F,Bool.false_and,if_neg Bool.false_ne_true,Aa]at hb hf ⊢
   rw[C,Bool.false_and,if_neg Bool.false_ne_true]
   obtain⟨u,t',P,N,L,O,Q⟩:=a6y hc I y J S n m (o':=o'++[t.defP.1.1]) r (by have:=Zc q;have:=k.hi;unfold Yb at f1 ⊢;rw[k.l]at this ⊢;omega) (by have:=Zc D;have:=K.hi;unfold Yb at j ⊢;rw[K.l]at this ⊢;omega) hw hw' hb hf
   refine⟨u,t',[t.defP.1.1]++P,N,L,?_,by rw[Q,List.append_assoc]⟩
   rw[List.map_append,O,List.nil_append,List.map_append]
   show [dz c.z t.defP.1.1]++_=[dz c.z s.defP.1.1]++_
   rw[v.1.dz]
  ·rw[defL,if_neg h.nb,if_neg q]at hb hf ⊢
   exact⟨m+1,t,[],j,h,rfl,by rw[List.append_nil]⟩
theorem b1z(hc:CmOK c)(z:c.E)(y:Qe (c.b (c.d+c.n)) [44]=false): ∀ (n m:Nat) {s t:PS} {o o':List Str},Rl c s t->Yb n s->Yb m t->o=o'->YK c Eq (moreL PS.name n s o) (moreL PS.name m t o')
 | 0,_,s,t,o,o',h,f1,f2,e=>by unfold Yb at f1;omega
 | _+1,0,s,t,o,o',h,f1,f2,e=>by unfold Yb at f2;omega
 | n+1,m+1,s,t,o,o',h,f1,f2,e=>by
  have I:=a6d hc z h.la h.hs
  rw[moreL,moreL,if_neg h.nb,if_neg h.nt,h.nxE hc I (fun _=>y)]
  by_cases q:s.next ⟨[44]⟩=true
  ·rw[if_pos q,if_pos q]
   have hi:=I.lt hc h q
   have C:t.next ⟨[44]⟩=true:=by rw[h.nx hc hi];exact q
   have j:=h.stepN hc hi q
   have k:=Ge.name j.hs
   have A:=Ge.name j.ht
   have mo : ∀ (n:Nat) {u:PS} {o:List Str},u.i<=u.l.length->Ge u (moreL PS.name n u o).2:=fun n u o hu=>Ge.moreL (B:=fun _=>True) (fun _ _ _ _=>trivial) (fun s _ h=>Ge.name h) n trivial hu
   refine SS hc j k (UO hc j) (mo n k.hi) (mo m A.hi) fun r v=> ?_
   exact b1z hc z y n m r ((f1.step (Zc q)).ge k) ((f2.step (Zc C)).ge A) (by rw[e,v])
  ·rw[if_neg q,if_neg q];exact h.outE e
theorem Ov(hc:CmOK c)(q:c.E)(k:Qe (c.b (c.d+c.n)) [44]=false)(h:Rl c s t):YK c Eq (listL PS.name s) (listL PS.name t):=by
 have e:=Ge.name h.hs
 have j:=Ge.name h.ht
 have mo : ∀ (n:Nat) {u:PS} {o:List Str},u.i<=u.l.length->Ge u (moreL PS.name n u o).2:=fun n u o hu=>Ge.moreL (B:=fun _=>True) (fun _ _ _ _=>trivial) (fun s _ h=>Ge.name h) n trivial hu
 refine SS hc h e (UO hc h) (mo _ e.hi) (mo _ j.hi) fun r v=> ?_
 exact b1z hc q k _ _ r (Xt e) (Xt j) (by rw[v])
theorem b1l(hc:CmOK c)(k:c.E)(j : ∀ w:List UInt8,w≠[100,101,102]->Qe (c.b (c.d+c.n)) w=false): ∀ (n m:Nat) {s t:PS} {o o':List Str},Rl c s t->Yb n s->Yb m t->o=o'->YK c Eq (impL n s o) (impL m t o')
 | 0,_,s,t,o,o',h,f1,f2,e=>by unfold Yb at f1;omega
 | _+1,0,s,t,o,o',h,f1,f2,e=>by unfold Yb at f2;omega
 | n+1,m+1,s,t,o,o',h,f1,f2,e=>by
  have I:=a6d hc k h.la h.hs
  rw[impL,impL,h.nxE hc I (w:=[105,109,112,111,114,116]) (fun _=>j _ (by decide))]
  by_cases q:s.next ⟨[105,109,112,111,114,116]⟩=true
  ·rw[if_pos q,if_pos q]
   have hi:=I.lt hc h q
   have y:t.next ⟨[105,109,112,111,114,116]⟩=true:=by rw[h.nx hc hi];exact q
   have i:=h.stepN hc hi q
   have l:=Ge.list (one:=PS.name) (fun s h=>Ge.name h) i.hs
   have u:=Ge.list (one:=PS.name) (fun s h=>Ge.name h) i.ht
   refine SS hc i l (Ov hc k (j _ (by decide)) i) (Ge.jimp n l.hi) (Ge.jimp m u.hi) fun r v=> ?_
   exact b1l hc k j n m r ((f1.step (Zc q)).ge l) ((f2.step (Zc y)).ge u) (by rw[e,v])
  ·rw[if_neg q,if_neg q];exact h.outE e
theorem d8r(hc:CmOK c)(i:c.E)(e : ∀ w:List UInt8,w≠[100,101,102]->Qe (c.b (c.d+c.n)) w=false)(h:Rl c s t):YK c Eq s.expo t.expo:=by
 have I:=a6d hc i h.la h.hs
 unfold PS.expo
 rw[h.nxE hc I (w:=[101,120,112,111,114,116]) (fun _=>e _ (by decide))]
 by_cases q:s.next ⟨[101,120,112,111,114,116]⟩=true
 ·rw[if_pos q,if_pos q];exact Ov hc i (e _ (by decide)) (h.stepN hc (I.lt hc h q) q)
 ·rw[if_neg q,if_neg q];exact h.outE rfl
end
end
theorem SH: ∀ (f g:Nat) (u:List UInt8) (i:Nat) (ln:Int) (o:List Tok),u.length<f->u.length<g->Vr f u i ln o=Vr g u i ln o
 | 0,_,u,i,ln,o,h,_=>by omega
 | _+1,0,u,i,ln,o,_,h=>by omega
 | f+1,g+1,u,i,ln,o,h1,h2=>by
  have hk:=QF (u.length+1) u
  rw[Vr,Vr]
  generalize YP (u.length+1) u=k at *
  split
  ·rfl
  ·split
   ·rfl
   ·rename_i e
    split
    ·rfl
    ·have hpos:0<(ZE ⟨u.drop k⟩).2.s.length:=List.length_pos_iff.2 (Ab (ln:=0) (o:=0) e).ne
     exact SH f g _ _ _ _ (by rw[List.length_drop];omega) (by rw[List.length_drop];omega)
theorem c4p: ∀ (f:Nat) (u:List UInt8) (i j:Nat) (ln e:Int) (p o:List Tok),u.length<f->p.length+u.length<4000->o.length+u.length<4000->(Vr f u i ln p).c=0-> ∃ T g,Vr f u i ln p=⟨p++T,0,0⟩∧Vr f u j e o=⟨o++g,0,0⟩∧FT T g
 | 0,u,i,j,ln,e,p,o,h,_,_,_=>by omega
 | f+1,u,i,j,ln,e,p,o,h,hp,ho,hc=>by
  have hk:=QF (u.length+1) u
  rw[Vr]at hc
  rw[Vr,Vr]
  generalize YP (u.length+1) u=k at *
  by_cases q:k=u.length
  ·rw[if_pos q,if_pos q]
   exact⟨[],[],by rw[List.append_nil],by rw[List.append_nil],.nil⟩
  ·rw[if_neg q]at hc ⊢
   rw[if_neg q]
   by_cases q1:(ZE ⟨u.drop k⟩).1=0
   ·rw[if_pos q1]at hc;exact absurd (show(6:Int)=0 from hc) (by decide)
   rw[if_neg q1]at hc ⊢
   rw[if_neg q1]
   rw[if_neg (show ¬ p.length=4000 by omega)]at hc ⊢
   rw[if_neg (show ¬ o.length=4000 by omega)]
   have l:=QW ⟨u.drop k⟩
   have l:(ZE ⟨u.drop k⟩).2.s.length<=(u.drop k).length:=l
   rw[List.length_drop]at l
   have hpos:0<(ZE ⟨u.drop k⟩).2.s.length:=List.length_pos_iff.2 (Ab (ln:=0) (o:=0) q1).ne
   obtain⟨T,g,y,r,F⟩:=c4p f (u.drop (k+(ZE ⟨u.drop k⟩).2.s.length)) (i+k+(ZE ⟨u.drop k⟩).2.s.length) (j+k+(ZE ⟨u.drop k⟩).2.s.length) (ln+Lib.countByte (u.take k) 10) (e+Lib.countByte (u.take k) 10)
    (p++[⟨(ZE ⟨u.drop k⟩).1,(ZE ⟨u.drop k⟩).2,ln+Lib.countByte (u.take k) 10,(i+k:Nat)⟩]) (o++[⟨(ZE ⟨u.drop k⟩).1,(ZE ⟨u.drop k⟩).2,e+Lib.countByte (u.take k) 10,(j+k:Nat)⟩])
    (by rw[List.length_drop];omega) (by rw[List.length_append,List.length_drop];simp only[List.length_cons,List.length_nil];omega) (by rw[List.length_append,List.length_drop];simp only[List.length_cons,List.length_nil];omega) hc
   rw[y,r,List.append_assoc,List.append_assoc]
   exact⟨_,_,rfl,rfl,.cons ⟨rfl,rfl⟩ F⟩
def U8:List UInt8:=[109,111,100,117,108,101,32,109]
def Rk:Tok:=⟨2,⟨[109,111,100,117,108,101]⟩,1,0⟩
def Rj:Tok:=⟨1,⟨[109]⟩,1,7⟩
theorem a6t:Vr 9 U8 0 1 []=⟨[Rk,Rj],0,0⟩:=by kernel_rfl
theorem c8e{s D:List UInt8}(hs:s.length<=400)(hD:D.length<=200)(h1:(Y4 ⟨s⟩).c=0)(h2:(Y4 ⟨U8++10::D⟩).c=0):
  ∃ T g,(Y4 ⟨U8++10::D⟩).a=[Rk,Rj]++T∧Y4 ⟨s++10::D⟩=⟨(Y4 ⟨s⟩).a++g,0,0⟩∧FT T g:=by
 have lm:(U8++10::D).length=9+D.length:=by rw[List.length_append,List.length_cons];show 8+_=_;omega
 have ls:(s++10::D).length=s.length+(D.length+1):=by rw[List.length_append,List.length_cons]
 rw[Tg _ (by omega)]at h1 h2
 rw[Tg s (by omega),Tg _ (by omega),Tg _ (by omega)]
 obtain⟨F,q,e⟩:=Mi D 9 ((U8++10::D).length+1) U8 0 1 [] (by decide) (by omega) (by rw[a6t])
 rw[a6t]at e
 have e:Vr ((U8++10::D).length+1) (U8++10::D) 0 1 []=Vr F D (0+U8.length+1) (1+(List.count 10 U8:Nat)+1) [Rk,Rj]:=e
 rw[SH F (D.length+1) D _ _ _ q (by omega)]at e
 rw[e]at h2 ⊢
 obtain⟨G,k,i⟩:=Mi D (s.length+1) ((s++10::D).length+1) s 0 1 [] (by omega) (by omega) h1
 rw[SH G (D.length+1) D _ _ _ k (by omega)]at i
 have la:(Vr (s.length+1) s 0 1 []).a.length<=400:=by
  have h:=Nu s
  rw[Tg s (by omega)]at h
  have a2:=(d8d (lead:=[]) (trail:=[]) _ h.1).2
  have a3:=h.2.1
  omega
 obtain⟨T,g,j,r,l⟩:=c4p (D.length+1) D (0+U8.length+1) (0+s.length+1) (1+(List.count 10 U8:Nat)+1) (1+(List.count 10 s:Nat)+1) [Rk,Rj] (Vr (s.length+1) s 0 1 []).a (by omega) (by simp;omega) (by omega) h2
 refine⟨T,g,by rw[j],?_,l⟩
 rw[i,r]
theorem a2o{s:PS}(h:s.endp.bad=false):s.l.length<=s.i∧s.bad=false:=by
 unfold PS.endp at h
 by_cases q:s.i<s.l.length
 ·rw[if_pos q]at h;cases h
 ·rw[if_neg q]at h;exact⟨by omega,h⟩
theorem e9w{s:PS}(h:s.l.length<=s.i)(hb:s.bad=false):s.endp.bad=false:=by
 unfold PS.endp
 rw[if_neg (by omega)]
 exact hb
theorem R5{s:List UInt8}(h:(YH ⟨s⟩).c=0):(Y4 ⟨s⟩).c=0∧(Ac s).2.endp.bad=false∧(Ac s).1.1<0∧((KU s).1.length<=20∧(KU s).2.expo.1.length<=60∧(Ac s).1.2.length<=60)∧YH ⟨s⟩=⟨⟨(nmS s).1,(KU s).1,(KU s).2.expo.1,(Ac s).1.2⟩,0,0⟩:=by
 by_cases hc:(Y4 ⟨s⟩).c=0
 ·refine⟨hc,?_⟩
  have e:YH ⟨s⟩=Xx (nmS s).1 (KU s).1 (KU s).2.expo.1 (Ac s):=a2e hc
  rw[e]at h ⊢
  unfold Xx at h ⊢
  by_cases q1:(Ac s).2.endp.bad=true
  ·rw[if_pos q1]at h;exact absurd (show(6:Int)=0 from h) (by decide)
  rw[if_neg q1]at h ⊢
  by_cases q2:0<=(Ac s).1.1
  ·rw[if_pos q2]at h;exact absurd (show(3:Int)=0 from h) (by decide)
  rw[if_neg q2]at h ⊢
  by_cases q3:(KU s).1.length>20∨(KU s).2.expo.1.length>60∨(Ac s).1.2.length>60
  ·rw[if_pos q3]at h;exact absurd (show(3:Int)=0 from h) (by decide)
  rw[if_neg q3]
  exact⟨by simpa using q1,by omega,⟨by omega,by omega,by omega⟩,rfl⟩
 ·exfalso
  unfold YH at h
  rw[if_pos hc]at h
  exact hc h
theorem g0i{s:List UInt8}(hc:(Y4 ⟨s⟩).c=0)(hb:(Ac s).2.endp.bad=false)(hw:(Ac s).1.1<0)(h1:(KU s).1.length<=20)(h2:(KU s).2.expo.1.length<=60)(h3:(Ac s).1.2.length<=60):YH ⟨s⟩=⟨⟨(nmS s).1,(KU s).1,(KU s).2.expo.1,(Ac s).1.2⟩,0,0⟩:=by
 have e:YH ⟨s⟩=Xx (nmS s).1 (KU s).1 (KU s).2.expo.1 (Ac s):=a2e hc
 rw[e]
 unfold Xx
 rw[if_neg (by rw[hb];decide),if_neg (by omega),if_neg (by omega)]
theorem b0j{α:Type}{one:PS->α×PS}: ∀ (n:Nat) (s:PS) (o:List α),o.length<=(moreL one n s o).1.length
 | 0,s,o=>Nat.le_refl _
 | n+1,s,o=>by
  rw[moreL]
  split
  ·exact Nat.le_refl _
  ·split
   ·have:=b0j (one:=one) n (one s.step).2 (o++[(one s.step).1])
    rw[List.length_append]at this
    omega
   ·exact Nat.le_refl _
theorem FJ{α:Type}{one:PS->α×PS}(s:PS):1<=(listL one s).1.length:=b0j (one:=one) (s.l.length+1) (one s).2 [(one s).1]
theorem b2m: ∀ (n:Nat) (s:PS) (o:List Str),o.length<=(impL n s o).1.length
 | 0,s,o=>Nat.le_refl _
 | n+1,s,o=>by
  rw[impL]
  split
  ·have:=b2m n (listL PS.name s.step).2 (o++(listL PS.name s.step).1)
   rw[List.length_append]at this
   omega
  ·exact Nat.le_refl _
theorem f3b{n:Nat}{s:PS}(h:(impL (n+1) s []).1.length=0):impL (n+1) s []=([],s):=by
 rw[impL]at h ⊢
 by_cases q:s.next ⟨[105,109,112,111,114,116]⟩=true
 ·rw[if_pos q]at h
  have e:=b2m n (listL PS.name s.step).2 ([]++(listL PS.name s.step).1)
  have k2:=FJ (one:=PS.name) s.step
  rw[List.nil_append]at e h
  omega
 ·rw[if_neg q]
theorem f4z{s:PS}(h:s.expo.1.length=0):s.expo=([],s):=by
 unfold PS.expo at h ⊢
 by_cases q:s.next ⟨[101,120,112,111,114,116]⟩=true
 ·rw[if_pos q]at h
  have k2:=FJ (one:=PS.name) s.step
  omega
 ·rw[if_neg q]
def Fa(T:List Tok)(z:Int):PS:=⟨[Rk,Rj]++T,2,z,false,0,false⟩
theorem h0o{S:List UInt8}{T:List Tok}(h:(Y4 ⟨S⟩).a=[Rk,Rj]++T):(nmS S).2=Fa T S.length:=by
 unfold nmS Kb
 rw[h]
 rfl
theorem f1b{a b:List Tok}(h:FT a b)(z w:Int)(k:Nat):Qe (b.getD 0 ⟨0,⟨[]⟩,0,w⟩) [100,101,102]=Qe (a.getD 0 ⟨0,⟨[]⟩,0,z⟩) [100,101,102]:=by
 cases h with
 | nil=>rfl
 | cons h _=>
  show Qe _ _=Qe _ _
  unfold Qe
  have h1:=h.1
  have h2:=h.2
  simp only[List.getD_cons_zero]
  rw[h1,h2]
theorem g1z{y:Tok}(h:y.k=0∨Qe y [100,101,102]=true):Calm y∧ ∀ w:List UInt8,w≠[100,101,102]->Qe y w=false:=by
 have g : ∀ w:List UInt8,w≠[100,101,102]->Qe y w=false:=fun w i=>by
  unfold Qe at h ⊢
  rcases h with h|h
  ·rw[h];rfl
  ·simp only[Bool.and_eq_true,decide_eq_true_eq]at h
   rw[h.2,decide_eq_false (fun e:(⟨[100,101,102]⟩:Str)=⟨w⟩=>i (congrArg Str.s e).symm),Bool.and_false]
 refine⟨⟨g _ (by decide),g _ (by decide),g _ (by decide),g _ (by decide),g _ (by decide),fun h4=> ?_⟩,g⟩
 rcases h with h|h
 ·omega
 ·unfold Qe at h
  simp only[Bool.and_eq_true,decide_eq_true_eq]at h
  rw[h.2]
  kernel_rfl
def u0S(T:List Tok):PS:=⟨T,0,0,false,0,false⟩
theorem Tq{a b:List Tok}:ZI (a++b)=true ↔ ZI a=true∧ZI b=true:=by
 unfold ZI
 rw[List.all_append,Bool.and_eq_true]
theorem Am.right{a b:List Tok}(h:Am (a++b)):Am b:=⟨(List.pairwise_append.1 h.1).2.1,fun t ht=>h.2 t (List.mem_append.2 (Or.inr ht))⟩
theorem NB(a b:List Tok)(k:Nat)(d:Tok):(a++b).getD (a.length+k) d=b.getD k d:=by
 rw[List.getD_eq_getElem?_getD,List.getD_eq_getElem?_getD,List.getElem?_append_right (by omega),Nat.add_sub_cancel_left]
def cmD(T P e:List Tok)(zB:Int):Cm:=⟨T,P++e,P.length,T.length+1,0,zB,z3,fun _=>0,fun _=>True,False⟩
theorem f8h(T P e:List Tok)(zB:Int):ZOK (cmD T P e zB):=⟨fun a b h=>h3j h,fun a b h=>h4e h⟩
theorem d2a{T P i:List Tok}{zB:Int}(F:FT T i)(h1:ZI T=true)(h2:ZI (P++i)=true)(z:T.length<=4000)(B:(P++i).length<=4000)(A : ∀ t∈T,0<=t.ln∧t.ln<=10000)(y : ∀ t∈i,0<=t.ln∧t.ln<=10000):CmOK (cmD T P i zB):=by
 refine⟨fun k r=> ?_,fun p s j=> ?_,fun h=>h.elim,h1,h2,z,B⟩
 ·have r:k<T.length+1:=r
  have e:(cmD T P i zB).b ((cmD T P i zB).d+k)=i.getD k ⟨0,⟨[]⟩,0,zB⟩:=NB P i k _
  rw[e]
  show Al _ (T.getD k ⟨0,⟨[]⟩,0,0⟩) _
  have fl:=F.len
  rcases Nat.lt_or_ge k T.length with h|h
  ·have g:=F.get ⟨0,⟨[]⟩,0,0⟩ k h
   have q:k<i.length:=by omega
   rw[b6s h,b6s q]at g ⊢
   refine⟨g.1,g.2,?_,rfl⟩
   show z3 _=z3 _
   have u:=A _ (List.getElem_mem h)
   have l:=y _ (List.getElem_mem q)
   rw[f7s u.1 u.2,f7s l.1 l.2]
  ·rw[c2n h,c2n (by omega)]
   exact⟨rfl,rfl,rfl,rfl⟩
 ·have s:T.length+1<=p:=s
  have j:p<=T.length:=j
  omega
theorem f6o{T P e:List Tok}{zB:Int}{t:PS}(h1:t.l=P++e)(h2:t.sz=zB)(h3:t.i=P.length)(h:t.bad=false)(g:t.big=false):Rl (cmD T P e zB) (u0S T) t:=
 ⟨rfl,h1,rfl,h2,h3,rfl,h,g,Nat.zero_le _,by rw[h1,h3,List.length_append];omega⟩
theorem e9m{S:List UInt8}{T:List Tok}(i:(Y4 ⟨S⟩).a=[Rk,Rj]++T)(hn:(YH ⟨S⟩).c=0)(e:(YH ⟨S⟩).a.im.length+(YH ⟨S⟩).a.ex.length=0):
  (defL (T.length+3) (Fa T S.length) (-1) []).2.endp.bad=false∧(defL (T.length+3) (Fa T S.length) (-1) []).1.1<0∧(YH ⟨S⟩).a.ds=(defL (T.length+3) (Fa T S.length) (-1) []).1.2:=by
 obtain⟨_,q,k,_,u⟩:=R5 hn
 have j:(nmS S).2=Fa T S.length:=h0o i
 have r:(Kb S).l.length=T.length+2:=by
  show(Y4 ⟨S⟩).a.length=_
  rw[i];rfl
 rw[u]at e ⊢
 have e:(KU S).1.length+(KU S).2.expo.1.length=0:=e
 have h:KU S=([],Fa T S.length):=by
  have hi:(impL ((Kb S).l.length+1) (nmS S).2 []).1.length=0:=by show(KU S).1.length=0;omega
  have:=f3b hi
  rw[j]at this
  show impL ((Kb S).l.length+1) (nmS S).2 []=_
  rw[j]
  exact this
 have s:(Fa T S.length).expo=([],Fa T S.length):=by
  refine f4z ?_
  have:(KU S).2.expo.1.length=0:=by omega
  rw[h]at this
  exact this
 have g:Ac S=defL (T.length+3) (Fa T S.length) (-1) []:=by
  unfold Ac
  rw[h,r,s]
 rw[g]at q k
 exact⟨q,k,by show(Ac S).1.2=_;rw[g]⟩
theorem d2x{T:List Tok}{h:Int}(h2:ZI ([Rk,Rj]++T)=true)(hu:Am ([Rk,Rj]++T))(u:([Rk,Rj]++T).length<=4000)(j : ∀ t∈T,0<=t.ln∧t.ln<=10000)
  (hb:(defL (T.length+3) (Fa T h) (-1) []).2.endp.bad=false) (C:(defL (T.length+3) (Fa T h) (-1) []).1.1<0) :
  (defL (T.length+1) (u0S T) (-1) []).2.bad=false∧(defL (T.length+1) (u0S T) (-1) []).2.i=T.length∧(defL (T.length+1) (u0S T) (-1) []).1.1<0 ∧
   (defL (T.length+1) (u0S T) (-1) []).1.2.map (dz z3)=(defL (T.length+3) (Fa T h) (-1) []).1.2.map (dz z3):=by
 have h1:=(Tq.1 h2).2
 have B:T.length<=4000:=by rw[List.length_append]at u;omega
 have F:FT T T:=by
  clear h2 hu u j hb C h1 B
  induction T with
  | nil=>exact .nil
  | cons a T ih=>exact .cons ⟨rfl,rfl⟩ ih
 have ok:=d2a (zB:=h) F h1 h2 B u j j
 have r:Rl (cmD T [Rk,Rj] T h) (u0S T) (Fa T h):=f6o rfl rfl rfl rfl rfl
 obtain⟨q,E⟩:=a2o hb
 have O:=N8 ok (f8h T [Rk,Rj] T h) hu.right hu (T.length+1) (T.length+3) (w:= -1) (w':= -1) (o:=[]) (o':=[]) r (by unfold Yb;show T.length - 0<_;omega) (by unfold Yb;show T.length+2 - 2<_;omega) Iff.rfl rfl
 have g:=Gw.defL (T.length+1) (s:=u0S T) (w:= -1) (o:=[]) (r.psok ok).1
 have y:(defL (T.length+1) (u0S T) (-1) []).2.bad=false:=by
  cases e:(defL (T.length+1) (u0S T) (-1) []).2.bad with
  | false=>rfl
  | true=>have:=(O.2 e trivial).1;rw[E]at this;cases this
 have H:=g.hi
 have k:=g.l
 have k:(defL (T.length+1) (u0S T) (-1) []).2.l=T:=k
 rw[k]at H
 obtain⟨A,D,J⟩:=O.1 y (by show _<T.length+1;omega)
 refine⟨y,?_,D.2 C,J⟩
 have z:=A.i
 have I:=A.lb
 rw[I]at q
 have q:T.length+1+1<=(defL (T.length+3) (Fa T h) (-1) []).2.i:=q
 have z:(defL (T.length+3) (Fa T h) (-1) []).2.i=2+(defL (T.length+1) (u0S T) (-1) []).2.i:=z
 omega
theorem f3k{T:List Tok}{g:Int}(hb:(defL (T.length+3) (Fa T g) (-1) []).2.endp.bad=false):Qe (T.getD 0 ⟨0,⟨[]⟩,0,g⟩) [100,101,102]=true∨T=[]:=by
 by_cases q:(Fa T g).next ⟨[100,101,102]⟩=true
 ·left
  have e:(Fa T g).peek 0=T.getD 0 ⟨0,⟨[]⟩,0,g⟩:=rfl
  unfold PS.next at q
  rw[e]at q
  exact q
 ·right
  have e:defL (T.length+2+1) (Fa T g) (-1) []=(((-1:Int),[]),Fa T g):=by
   rw[defL,if_neg (show ¬ (Fa T g).bad=true from fun h=>by cases h),if_neg q]
  rw[show T.length+3=T.length+2+1 from rfl,e]at hb
  have:=(a2o hb).1
  have:T.length+2<=2:=this
  exact List.length_eq_zero_iff.1 (by omega)
def cmF(s:List UInt8)(A e:List Tok)(zB:Int):Cm:=⟨A,A++e,0,A.length,s.length,zB,id,id,fun _=>False,True⟩
theorem g8j(s:List UInt8)(A e:List Tok)(zB:Int):ZOK (cmF s A e zB):=by
 refine⟨fun a b h=> ?_,fun a b h=> ?_⟩
 ·have h:zT id a=zT id b:=h
  rw[b1n,b1n]at h
  rw[h]
 ·have h:a=b:=h
  rw[h]
theorem f9g{s:List UInt8}{A g:List Tok}{zB:Int}(h1:ZI (A++g)=true)(j:(A++g).length<=4000)(hd:(g.getD 0 ⟨0,⟨[]⟩,0,zB⟩).k=0∨Qe (g.getD 0 ⟨0,⟨[]⟩,0,zB⟩) [100,101,102]=true):
  CmOK (cmF s A g zB)∧ ∀ w:List UInt8,w≠[100,101,102]->Qe ((cmF s A g zB).b ((cmF s A g zB).d+(cmF s A g zB).n)) w=false:=by
 have e:(cmF s A g zB).b ((cmF s A g zB).d+(cmF s A g zB).n)=g.getD 0 ⟨0,⟨[]⟩,0,zB⟩:=by
  rw[show(cmF s A g zB).d+(cmF s A g zB).n=A.length+0 from by show 0+A.length=_;omega]
  exact NB A g 0 _
 obtain⟨q,l⟩:=g1z hd
 refine⟨⟨fun k i=> ?_,fun p q1 q2 h=>h,fun _=>⟨rfl,by rw[e];exact q⟩,(Tq.1 h1).1,h1,?_,j⟩,by rw[e];exact l⟩
 ·have i:k<A.length:=i
  have r:(cmF s A g zB).a k=A[k]:=b6s i _
  have u:(cmF s A g zB).b ((cmF s A g zB).d+k)=A[k]:=by
   rw[show(cmF s A g zB).d+k=k from Nat.zero_add k]
   show(A++g).getD k _=_
   rw[List.getD_eq_getElem?_getD,List.getElem?_append_left i,List.getElem?_eq_getElem i]
   rfl
  rw[r,u]
  exact⟨rfl,rfl,rfl,rfl⟩
 ·show A.length<=4000
  rw[List.length_append]at j;omega
theorem c6d{s S:List UInt8}{j:List Tok}(K:(Y4 ⟨S⟩).a=(Y4 ⟨s⟩).a++j)(hd:(j.getD 0 ⟨0,⟨[]⟩,0,S.length⟩).k=0∨Qe (j.getD 0 ⟨0,⟨[]⟩,0,S.length⟩) [100,101,102]=true)(hb:(Ac s).2.endp.bad=false)(hw:(Ac s).1.1<0):
  (nmS S).1=(nmS s).1∧(KU S).1=(KU s).1∧(KU S).2.expo.1=(KU s).2.expo.1 ∧
   ∃ C t',Yb C t'∧t'.l=(Y4 ⟨S⟩).a∧t'.sz=S.length∧t'.i=(Y4 ⟨s⟩).a.length∧t'.bad=false∧Ac S=defL C t' (-1) ((Ac s).1.2):=by
 have q:=Dq ⟨S⟩
 have A:=BM ⟨S⟩
 rw[K]at q A
 obtain⟨ok,Q⟩:=f9g (s:=s) (zB:=S.length) q.1 q.2 hd
 have hz:=g8j s (Y4 ⟨s⟩).a j S.length
 have y:(cmF s (Y4 ⟨s⟩).a j S.length).E:=trivial
 have r0:Rl (cmF s (Y4 ⟨s⟩).a j S.length) (Kb s) (Kb S):=⟨rfl,K,rfl,rfl,rfl,rfl,rfl,rfl,Nat.zero_le _,Nat.zero_le _⟩
 obtain⟨J,T,N,X,ap,a4,a5⟩:=f8l s
 obtain⟨Y,Z,k2,k3,kp,k4,k5⟩:=f8l S
 obtain⟨q1,W⟩:=a2o hb
 have nb : ∀ {u v:PS},Gw u v->v.bad=false->u.bad=false:=fun {u v} g h=>by
  cases e:u.bad with
  | false=>rfl
  | true=>rw[g.bad e]at h;cases h
 have O:=nb a4 W
 have V:=nb X.gw O
 have b1:=nb N.gw V
 have b0:=nb T.gw b1
 have B:=J.trans T
 have F:=B.trans N
 have I:=F.trans X
 have f1:Yb ((Kb s).l.length+1) (nmS s).2:=Xt B
 have f2:Yb ((Kb S).l.length+1) (nmS S).2:=Xt (Y.trans Z)
 have f3:Yb ((Kb s).l.length+1) (KU s).2.expo.2:=Xt I
 have f4:Yb ((Kb S).l.length+1) (KU S).2.expo.2:=Xt (Y.trans (Z.trans (k2.trans k3)))
 have i0:=a6d ok y (u:=(Kb s).need ⟨[109,111,100,117,108,101]⟩) (J.l.trans rfl) J.hi
 have i1:=a6d ok y (u:=(nmS s).2) (B.l.trans rfl) B.hi
 have i2:=a6d ok y (u:=(KU s).2) (F.l.trans rfl) F.hi
 have i3:=a6d ok y (u:=(KU s).2.expo.2) (I.l.trans rfl) I.hi
 have r1:=((Yl ok r0 ⟨[109,111,100,117,108,101]⟩).1 b0 i0).1
 have O1:YK (cmF s (Y4 ⟨s⟩).a j S.length) Eq (nmS s) (nmS S):=UO ok r1
 obtain⟨r2,v2⟩:=O1.1 b1 i1
 have O2:YK (cmF s (Y4 ⟨s⟩).a j S.length) Eq (KU s) (KU S):=b1l ok y Q _ _ r2 f1 f2 rfl
 obtain⟨r3,v3⟩:=O2.1 V i2
 obtain⟨r4,v4⟩:=(d8r ok y Q r3).1 O i3
 refine⟨v2.symm,v3.symm,v4.symm,?_⟩
 have D:(defL ((Kb s).l.length+1) (KU s).2.expo.2 (-1) []).2.bad=false:=W
 have H:(defL ((Kb s).l.length+1) (KU s).2.expo.2 (-1) []).1.1<0:=hw
 have r:(defL ((Kb s).l.length+1) (KU s).2.expo.2 (-1) []).2.l.length<=(defL ((Kb s).l.length+1) (KU s).2.expo.2 (-1) []).2.i:=q1
 obtain⟨C,t',P,w1,z,w3,U⟩:=a6y ok hz y (BM ⟨s⟩) A ((Kb s).l.length+1) ((Kb S).l.length+1) (w:= -1) (w':= -1) (o':=[]) r4 f3 f4 (by decide) (by decide) D H
 have eP:P=(Ac s).1.2:=e4h w3
 refine⟨C,t',w1,z.lb.trans K.symm,z.zb,?_,z.tb,?_⟩
 ·have M:=z.i
  have L:=z.hs
  rw[z.la]at L r
  have M:t'.i=0+(defL ((Kb s).l.length+1) (KU s).2.expo.2 (-1) []).2.i:=M
  have L:(defL ((Kb s).l.length+1) (KU s).2.expo.2 (-1) []).2.i<=(Y4 ⟨s⟩).a.length:=L
  have r:(Y4 ⟨s⟩).a.length<=(defL ((Kb s).l.length+1) (KU s).2.expo.2 (-1) []).2.i:=r
  omega
 ·rw[eP,List.nil_append]at U
  exact U
theorem d5v{s D:List UInt8}(hs:s.length<=400)(hD:D.length<=200)(hm:(YH ⟨s⟩).c=0)(hn:(YH ⟨U8++10::D⟩).c=0)(h0:(YH ⟨U8++10::D⟩).a.im.length+(YH ⟨U8++10::D⟩).a.ex.length=0)(u:(YH ⟨s⟩).a.ds.length+(YH ⟨U8++10::D⟩).a.ds.length<=60):
  ∃ X,YH ⟨s++10::D⟩=⟨⟨(YH ⟨s⟩).a.name,(YH ⟨s⟩).a.im,(YH ⟨s⟩).a.ex,(YH ⟨s⟩).a.ds++X⟩,0,0⟩∧X.map (dz z3)=(YH ⟨U8++10::D⟩).a.ds.map (dz z3):=by
 obtain⟨p1,p2,p3,⟨p4,p5,p6⟩,p7⟩:=R5 hm
 have n1:=(R5 hn).1
 obtain⟨T,T',C,Z,F⟩:=c8e hs hD p1 n1
 have lD:(U8++10::D).length<=400:=by rw[List.length_append,List.length_cons];show 8+_<=_;omega
 have lS:(s++10::D).length<=700:=by rw[List.length_append,List.length_cons];omega
 generalize hMS:U8++10::D=S1 at *
 generalize hSS:s++10::D=S2 at *
 obtain⟨o1,o2,U⟩:=e9m C hn h0
 have q:=Dq ⟨S1⟩
 have L:=Dq ⟨S2⟩
 have y:=BM ⟨S1⟩
 have A:=BM ⟨S2⟩
 have a1:=(Nu S1).2.2
 have a2:=(Nu S2).2.2
 have j:(Y4 ⟨S2⟩).a=(Y4 ⟨s⟩).a++T':=by rw[Z]
 have I:(Y4 ⟨S2⟩).c=0:=by rw[Z]
 have S : ∀ t∈T,0<=t.ln∧t.ln<=10000:=fun t ht=>by
  have g:t∈(Y4 ⟨S1⟩).a:=by rw[C];exact List.mem_append.2 (Or.inr ht)
  have:=a1 t g
  have:=(y.2 t g).1
  omega
 have q2 : ∀ t∈T',0<=t.ln∧t.ln<=10000:=fun t ht=>by
  have g:t∈(Y4 ⟨S2⟩).a:=by rw[j];exact List.mem_append.2 (Or.inr ht)
  have:=a2 t g
  have:=(A.2 t g).1
  omega
 rw[C]at q y
 have k:=d2x q.1 y q.2 S o1 o2
 have hd:(T'.getD 0 ⟨0,⟨[]⟩,0,S2.length⟩).k=0∨Qe (T'.getD 0 ⟨0,⟨[]⟩,0,S2.length⟩) [100,101,102]=true:=by
  rcases f3k o1 with h|h
  ·right
   rw[f1b F S1.length S2.length 0]
   exact h
  ·left
   subst h
   cases F
   rfl
 obtain⟨f1,W,Y,e,t',f4,P,f6,f7,f8,z⟩:=c6d j hd p2 p3
 rw[j]at L A P
 have ok:=d2a (zB:=S2.length) F (Tq.1 q.1).2 L.1 (by have:=q.2;rw[List.length_append]at this;omega) L.2 S q2
 have r:Rl (cmD T (Y4 ⟨s⟩).a T' S2.length) (u0S T) t'.small:=f6o P f6 f7 f8 rfl
 have O:=N8 ok (f8h T (Y4 ⟨s⟩).a T' S2.length) y.right A (T.length+1) e (w:= -1) (w':= -1) (o:=[]) (o':=[]) r (by unfold Yb;show T.length - 0<_;omega) f4 Iff.rfl rfl
 obtain⟨H,N,M⟩:=O.1 k.1 (by show _<T.length+1;rw[k.2.1];omega)
 obtain⟨s1,E⟩:=b7p e t' (-1) []
 have J:=congrArg PS.bad E
 have J:(defL e t'.small (-1) []).2.bad=(defL e t' (-1) []).2.bad:=J
 have K:=congrArg PS.i E
 have K:(defL e t'.small (-1) []).2.i=(defL e t' (-1) []).2.i:=K
 have B:=congrArg PS.l E
 have B:(defL e t'.small (-1) []).2.l=(defL e t' (-1) []).2.l:=B
 rw[s1]at N M
 rw[Aa]at z
 refine⟨(defL e t' (-1) []).1.2,?_,?_⟩
 ·rw[p7]
  have Q:(Ac S2).1.2=(Ac s).1.2++(defL e t' (-1) []).1.2:=by rw[z]
  have g2:(Ac S2).1.1<0:=by rw[z];exact N.1 k.2.2.1
  have g3:(Ac S2).2.endp.bad=false:=by
   rw[z]
   refine e9w ?_ (J▸H.tb)
   have V:=H.i
   have y2:=H.lb
   rw[B]at y2
   rw[K,k.2.1]at V
   show(defL e t' (-1) []).2.l.length<=(defL e t' (-1) []).2.i
   rw[y2,V]
   show((Y4 ⟨s⟩).a++T').length<=(Y4 ⟨s⟩).a.length+T.length
   rw[List.length_append,F.len]
   exact Nat.le_refl _
  have g4:(defL e t' (-1) []).1.2.length=(YH ⟨S1⟩).a.ds.length:=by
   have:=congrArg List.length M
   rw[List.length_map,List.length_map]at this
   have h2:=congrArg List.length k.2.2.2
   rw[List.length_map,List.length_map]at h2
   rw[U];omega
  rw[p7]at u
  have u:(Ac s).1.2.length+(YH ⟨S1⟩).a.ds.length<=60:=u
  rw[g0i I g3 g2 (by rw[W];exact p4) (by rw[Y];exact p5) (by rw[Q,List.length_append,g4];exact u),f1,W,Y,Q]
 ·rw[U,<- k.2.2.2]
  exact M.symm
def spE(a b:Sp):Bool:=decide (a=b)&&M3 a.row a.dims
def tyE(a b:TyS):Bool:=decide (a=b)&&Ja a
def pmE(a b:Pm):Bool:=decide (a=b)&&Ja a.ty
def psE:List Pm->List Pm->Bool
 | [],[]=>true
 | a::x,b::y=>pmE a b&&psE x y
 | _,_=>false
def dfE(a b:Df):Bool:=(decide (a.name=b.name)&&(decide (a.line=b.line)&&(decide (a.given=b.given)&&(tyE a.res b.res&&exM (.mk a.n a.ks) (.mk b.n b.ks)))))&&(decide (a.ps.length<=1048576)&&(psE a.ps b.ps&&(tW (.mk a.n a.ks)&&tW (.mk b.n b.ks))))
def dsE:List Df->List Df->Bool
 | [],[]=>true
 | a::x,b::y=>dfE a b&&dsE x y
 | _,_=>false
def mdE(a b:Mdu):Bool:=(decide (a.name=b.name)&&(decide (a.im=b.im)&&decide (a.ex=b.ex)))&&((decide (a.im.length<=1048576)&&decide (a.ex.length<=1048576))&&(decide (a.ds.length<=1048576)&&dsE a.ds b.ds))
theorem a5a: ∀ {x y:List Pm},psE x y=true->x.length=y.length∧ ∀ i (h:i<x.length) (k:i<y.length),pmE x[i] y[i]=true
 | [],[],_=>⟨rfl,fun i h _=>by cases h⟩
 | [],b::y,h=>by cases h
 | a::x,[],h=>by cases h
 | a::x,b::y,h=>by
  rw[psE,Bool.and_eq_true]at h
  obtain⟨e,g⟩:=a5a h.2
  refine⟨by rw[List.length_cons,List.length_cons,e],fun i hi j=> ?_⟩
  cases i with
  | zero=>exact h.1
  | succ i=>exact g i (Nat.lt_of_succ_lt_succ hi) (Nat.lt_of_succ_lt_succ j)
theorem a0u: ∀ {x y:List Df},dsE x y=true->x.length=y.length∧ ∀ i (h:i<x.length) (k:i<y.length),dfE x[i] y[i]=true
 | [],[],_=>⟨rfl,fun i h _=>by cases h⟩
 | [],b::y,h=>by cases h
 | a::x,[],h=>by cases h
 | a::x,b::y,h=>by
  rw[dsE,Bool.and_eq_true]at h
  obtain⟨e,g⟩:=a0u h.2
  refine⟨by rw[List.length_cons,List.length_cons,e],fun i hi j=> ?_⟩
  cases i with
  | zero=>exact h.1
  | succ i=>exact g i (Nat.lt_of_succ_lt_succ hi) (Nat.lt_of_succ_lt_succ j)
theorem a8w: ∀ {x:List Pm},(∀ p∈x,PmQ p)->psE x x=true
 | [],_=>rfl
 | a::x,h=>by
  have h1:=(h a (by simp)).2.2
  rw[psE,a8w fun p e=>h p (by simp[e])]
  unfold pmE
  rw[h1,decide_eq_true rfl];rfl
theorem e1u{d:Df}(h:DfQ d):dfE d d=true:=by
 have n:=h.np
 unfold dfE tyE
 rw[decide_eq_true rfl,decide_eq_true rfl,decide_eq_true rfl,decide_eq_true rfl,h.rb,a8q,decide_eq_true (show d.ps.length<=1048576 by omega),a8w h.pm,h.bw]
 rfl
theorem a7u: ∀ {x:List Df},(∀ d∈x,DfQ d)->dsE x x=true
 | [],_=>rfl
 | a::x,h=>by
  rw[dsE,e1u (h a (by simp)),a7u fun p e=>h p (by simp[e])];rfl
structure MdK (m:Mdu):Prop where
 im:m.im.length<=20
 ex:m.ex.length<=60
 ds:m.ds.length<=60
 q : ∀ d∈m.ds,DfQ d
theorem f7a{s:List UInt8}(h:(YH ⟨s⟩).c=0):MdK (YH ⟨s⟩).a:=by
 obtain⟨_,_,_,⟨h1,h2,h3⟩,e⟩:=R5 h
 have q:=(b4j h).2.1
 rw[e]at q ⊢
 exact⟨h1,h2,h3,q⟩
theorem d5l{m:Mdu}(h:MdK m):mdE m m=true:=by
 have h1:=h.im
 have h2:=h.ex
 have h3:=h.ds
 unfold mdE
 rw[decide_eq_true rfl,decide_eq_true rfl,decide_eq_true rfl,decide_eq_true (show m.im.length<=1048576 by omega),decide_eq_true (show m.ex.length<=1048576 by omega),decide_eq_true (show m.ds.length<=1048576 by omega),a7u h.q]
 rfl
theorem f1u{z:Int->Int}{x y:List Df}(h:x.map (dz z)=y.map (dz z)):x.length=y.length∧ ∀ i (h1:i<x.length) (h2:i<y.length),x[i].name=y[i].name∧x[i].ps=y[i].ps∧Lu (.mk x[i].n x[i].ks) (.mk y[i].n y[i].ks)=true:=by
 refine⟨by have:=congrArg List.length h;rwa [List.length_map,List.length_map]at this,fun i h1 h2=> ?_⟩
 have e:(x.map (dz z))[i]'(by rw[List.length_map];exact h1)=(y.map (dz z))[i]'(by rw[List.length_map];exact h2):=by simp only[h]
 rw[List.getElem_map,List.getElem_map]at e
 unfold dz at e
 injection e with g e
 injection e with e2 e
 injection e with j e
 injection e with e4 e
 injection e with e5 e6
 exact⟨g,j,f6z e6⟩
open Enc (enc dec is)
open EncL (encL decL isL)
set_option maxRecDepth 100000
noncomputable def Cz:IC:=X5 Proofs.Tryz.f88
def Ce:List IRes:=[(.tmp 4)]
abbrev g4n:Nat:=39
noncomputable def M0:ZP:=Y9 [(119,.pure (preT (fun x:Lin×Lin×Unit=>Uh x.1)) (Zt (fun x:Lin×Lin×Unit=>decide (x.1=x.2.1))))]
def A9(e:Str)(Zn:List Lin):Slot:=.obj (.box [.pv (.str (Str.s e)),.pv (XM Zn)])
def g7a{G:PV->Prop}(r:Str)(l:List Lin)(q:Str)(m:List Lin):=Qb (if (!Str.s r==Str.s q)=true then G (.bool false)else(if ((↑(Qk l):Int) != (↑(Qk m):Int))=true then G (.bool false)else(At M0 0 (Za Ce G) Cz 0 39 Ui [A9 r l,A9 q m]))) G (dm [] 29 0x142222222202222222200942) M0 Ce Cz (YN 39 [.agg [enc r,enc l],.agg [enc q,enc m]]) (by delta Qk ZA Ui XM A9;exact rfl)
def b3m(e:Int)(Zn:List Lin):Bool:=decide (0<=e)&&decide (Int.toNat e<List.length (List.map enc Zn))&&Enc.sz Lin==2
def b7o(e:List Lin)(Zn:Int)(g:Lin):Prop:=AV.pv (PV.rptr (PV.cells (List.getD (List.map enc e) (Int.toNat Zn) default)))=AV.pv (PV.rptr (PV.cells ((enc) g)))
def d6l{G:PV->Prop}(r:Str)(l:List Lin)(q:Str)(m:List Lin)(i:Int):=WQ (if (decide (i<(↑(Qk l):Int)))=true then(b3m i l)=true∧(∃ g:Lin,(b7o l i g)∧((b3m i m)=true∧(∃ e:Lin,(b7o m i e)∧((Go.Pl.preT (fun(x:Lin×Lin×Unit)=>Uh x.1) [DD g,DD e])=true∧(∃ h:Bool,(AV.pv (Zt (fun(x:Lin×Lin×Unit)=>decide (x.1=x.2.1)) [DD g,DD e])=AV.pv (enc h))∧(if (!h)=true then G (.bool false)else(At M0 0 (Za Ce G) Cz 0 39 (Kr i) [A9 r l,A9 q m])))))))else(Qf G)) G (dm [dr Lin,dv Bool] 22 0x2000146125125100f42) M0 Ce Cz 0 39 (Pt i) [.obj (.box [.pv (enc r),.pv (enc l)]),.obj (.box [.pv (enc q),.pv (enc m)])] (by delta Qk b3m b7o DD Yp Kr XM A9 Qf;exact rfl)
noncomputable def b7l:IC:=X5 Proofs.Tryz.f63
def b9a:List IRes:=[(.tmp 4)]
abbrev g2i:Nat:=17
noncomputable def d4m:ZP:=Y9 [(88,.pure (preT (fun x:Sp×Sp×Unit=>spE x.1 x.2.1)) (Zt (fun _:Sp×Sp×Unit=>true)))]
def M9(e:TyS):PV:=.agg [.str (Str.s (TyS.row e)),.sl 2 false (List.map enc (TyS.dims e))]
def g8z{G:PV->Prop}(t u:TyS):=Qb (if (Str.s (TyS.elem t)==Str.s (TyS.elem u))=true then(Go.Pl.preT (fun(x:Sp×Sp×Unit)=>spE x.1 x.2.1) [M9 t,M9 u])=true∧(∃ e:Bool,(AV.pv (Zt (fun(x:Sp×Sp×Unit)=>true) [M9 t,M9 u])=AV.pv (enc e))∧(G (.bool e)))else(ZH G)) G (dm [dv Bool] 20 0x222220251222200842) d4m b9a b7l (YN 17 [b8a t,b8a u]) (by delta M9 ZH;exact rfl)
noncomputable def b6v:IC:=X5 Proofs.Tryz.f62
def b6k:List IRes:=[(.tmp 4)]
abbrev g5q:Nat:=24
noncomputable def f6x:Nat×Den:=(63,.pure (preT (fun x:TyS×TyS×Unit=>tyE x.1 x.2.1)) (Zt (fun _:TyS×TyS×Unit=>true)))
noncomputable def e4f:ZP:=Y9 [f6x]
def a4f:=fun(e:TyS×TyS×Unit)=>tyE e.1 e.2.1
def a7r(e:Pm):PV:=.agg [.str (Str.s (TyS.elem (Pm.ty e))),.str (Str.s (TyS.row (Pm.ty e))),.sl 2 false (List.map enc (TyS.dims (Pm.ty e)))]
def a0q:=fun(z0':TyS×TyS×Unit)=>true
def d6k(e:Pm):PV:=.agg [enc e.name,enc e.given,enc e.ty.elem,enc e.ty.row,enc e.ty.dims]
def g9i{G:PV->Prop}(p q:Pm):=Qb (if (Str.s (Pm.name p)==Str.s (Pm.name q))=true then if (Pm.given p==Pm.given q)=true then(Go.Pl.preT a4f [a7r p,a7r q])=true∧(∃ e:Bool,(AV.pv (Zt a0q [a7r p,a7r q])=AV.pv (enc e))∧(G (.bool e)))else(ZH G)else(ZH G)) G (dm [dv Bool] 42 0x2222222222202222202512222008422222201842) e4f b6k b6v (YN 24 [d6k p,d6k q]) (by delta a4f a7r a0q ZH;exact rfl)
noncomputable def GD:IC:=X5 Proofs.Tryz.f47
def H6:List IRes:=[(.tmp 4)]
abbrev g2m:Nat:=65
noncomputable def TQ:ZP:=Y9 [(62,.pure (preT (fun x:Pm×Pm×Unit=>pmE x.1 x.2.1)) (Zt (fun _:Pm×Pm×Unit=>true))),f6x,(15,.pure (preT (fun x:Tm×Tm×Unit=>tW x.1&&tW x.2.1)) (Zt (fun x:Tm×Tm×Unit=>exM x.1 x.2.1)))]
def Gc(e:Df):List PV:=List.map enc (Df.ps e)
def F3(e:Df):Slot:=.obj (.box [.pv (.str (Str.s (Df.name e))),.pv (.int .i64 (Df.line e)),.pv (.sl 5 false (Gc e)),.pv (.bool (Df.given e)),.pv (.str (Str.s (TyS.elem (Df.res e)))),.pv (.str (Str.s (TyS.row (Df.res e)))),.pv (.sl 2 false (List.map enc (TyS.dims (Df.res e)))),.pv (.int .i64 (Nd.kind (Df.n e))),.pv (.int .i64 (Nd.line (Df.n e))),.pv (.str (Str.s (Nd.name (Df.n e)))),.pv (.int .i64 (Nd.num (Df.n e))),.pv (.str (Str.s (Nd.elem (Df.n e)))),.pv (.sl 1 false (List.map enc (Nd.dims (Df.n e)))),.pv (.sl 1 false (List.map enc (Nd.data (Df.n e)))),.pv (.sl 2 false (List.map enc (Nd.sizes (Df.n e)))),.pv (.sl 1 false (List.map enc (Nd.ranks (Df.n e)))),.pv (.sl 10 false (List.map enc (Df.ks e)))])
def f6g(e:Df):PV:=.agg [enc e.name,enc e.line,enc e.ps,enc e.given,enc e.res.elem,enc e.res.row,enc e.res.dims,enc e.n.kind,enc e.n.line,enc e.n.name,enc e.n.num,enc e.n.elem,enc e.n.dims,enc e.n.data,enc e.n.sizes,enc e.n.ranks,enc e.ks]
def g7e{G:PV->Prop}(d e:Df):=Qb (if ((↑(List.length (Gc d)):Int) != (↑(List.length (Gc e)):Int))=true then G (.bool false)else(At TQ 0 (Za H6 G) GD 0 65 Ui [F3 d,F3 e])) G (dm [] 8 0x142) TQ H6 GD (YN 65 [f6g d,f6g e]) (by delta Gc ZA Ui F3;exact rfl)
def b8s(e:Int)(Zn:Df):Bool:=decide (0<=e)&&decide (Int.toNat e<List.length (Gc Zn))&&5==5
def b6x(e:Df)(Zn:Int)(g:Pm):Prop:=AV.pv (PV.rptr (PV.cells (List.getD (Gc e) (Int.toNat Zn) default)))=AV.pv (PV.rptr (PV.cells ((enc) g)))
def b1g(e:Pm):PV:=.agg [.str (PV.asStr (List.getD (PV.cells (enc e)) 0 default)),.bool (PV.asBool (List.getD (PV.cells (enc e)) (0+1) default)),.str (PV.asStr (List.getD (PV.cells (enc e)) (0+1+1) default)),.str (PV.asStr (List.getD (PV.cells (enc e)) (0+1+1+1) default)),.sl 2 false (PV.asXs (List.getD (PV.cells (enc e)) (0+1+1+1+1) default))]
def a9t(e:Df):PV:=.agg [.str (Str.s (TyS.elem (Df.res e))),.str (Str.s (TyS.row (Df.res e))),.sl 2 false (List.map enc (TyS.dims (Df.res e)))]
def a3l:=fun(e:Tm×Tm×Unit)=>tW e.1&&tW e.2.1
def b1e(e:Df):PV:=.agg [.int .i64 (Nd.kind (Df.n e)),.int .i64 (Nd.line (Df.n e)),.str (Str.s (Nd.name (Df.n e))),.int .i64 (Nd.num (Df.n e)),.str (Str.s (Nd.elem (Df.n e))),.sl 1 false (List.map enc (Nd.dims (Df.n e))),.sl 1 false (List.map enc (Nd.data (Df.n e))),.sl 2 false (List.map enc (Nd.sizes (Df.n e))),.sl 1 false (List.map enc (Nd.ranks (Df.n e))),.sl 10 false (List.map enc (Df.ks e))]
def f6s(e:Df):Slot:=.obj (.box [.pv (.str e.name.s),.pv (.int .i64 e.line),.pv (.sl 5 false (e.ps.map enc)),.pv (.bool e.given),.pv (.str e.res.elem.s),.pv (.str e.res.row.s),.pv (.sl 2 false (e.res.dims.map enc)),.pv (.int .i64 e.n.kind),.pv (.int .i64 e.n.line),.pv (.str e.n.name.s),.pv (.int .i64 e.n.num),.pv (.str e.n.elem.s),.pv (.sl 1 false (e.n.dims.map enc)),.pv (.sl 1 false (e.n.data.map enc)),.pv (.sl 2 false (e.n.sizes.map enc)),.pv (.sl 1 false (e.n.ranks.map enc)),.pv (.sl 10 false (e.ks.map enc))])
def d2r{G:PV->Prop}(d e:Df)(i:Int):=WQ (if (decide (i<(↑(List.length (Gc d)):Int)))=true then(b8s i d)=true∧(∃ h:Pm,(b6x d i h)∧((b8s i e)=true∧(∃ g:Pm,(b6x e i g)∧((Go.Pl.preT (fun(x:Pm×Pm×Unit)=>pmE x.1 x.2.1) [b1g h,b1g g])=true∧(∃ k:Bool,(AV.pv (Zt (fun(x:Pm×Pm×Unit)=>true) [b1g h,b1g g])=AV.pv (enc k))∧(if (!k)=true then G (.bool false)else(At TQ 0 (Za H6 G) GD 0 65 (Kr i) [F3 d,F3 e])))))))else(if (Str.s (Df.name d)==Str.s (Df.name e))=true then if (Df.line d==Df.line e)=true then if (Df.given d==Df.given e)=true then(Go.Pl.preT a4f [a9t d,a9t e])=true∧(∃ l:Bool,(AV.pv (Zt a0q [a9t d,a9t e])=AV.pv (enc l))∧(if (l)=true then(Go.Pl.preT a3l [b1e d,b1e e])=true∧(∃ j:Bool,(AV.pv (Zt (fun(x:Tm×Tm×Unit)=>exM x.1 x.2.1) [b1e d,b1e e])=AV.pv (enc j))∧(G (.bool j)))else(ZH G)))else(ZH G)else(ZH G)else(ZH G))) G (dm [dr Pm,dv Bool] 125 0x222222222222222222222220222222222222222220222222222220222220261222200842612222019422222202f422222204b4202000146125125100f42) TQ H6 GD 0 65 (Pt i) [f6s d,f6s e] (by delta Gc b8s b6x b1g Yp Kr F3 a4f a9t a0q a3l b1e ZH;exact rfl)
noncomputable def Va:IC:=X5 Proofs.Tryz.f22
def Vd:List IRes:=[(.tmp 4)]
abbrev f8w:Nat:=95
noncomputable def U7:ZP:=Y9 [(47,.pure (preT (fun x:Df×Df×Unit=>dfE x.1 x.2.1)) (Zt (fun _:Df×Df×Unit=>true)))]
def UK(e:Mdu):List PV:=List.map enc (Mdu.im e)
def UC(e:Mdu):List PV:=List.map enc (Mdu.ex e)
def J9(e:Mdu):List PV:=List.map enc (Mdu.ds e)
def V4(e:Mdu):Nat:=List.length (J9 e)
def KX(e:Mdu):Slot:=.obj (.box [.pv (.str (Str.s (Mdu.name e))),.pv (.sl 1 false (UK e)),.pv (.sl 1 false (UC e)),.pv (.sl 17 false (List.map enc (Mdu.ds e)))])
def d4a(e:Mdu):PV:=.agg [enc e.name,enc e.im,enc e.ex,enc e.ds]
def h0u{G:PV->Prop}(m k:Mdu):=Qb (if (!Str.s (Mdu.name m)==Str.s (Mdu.name k))=true then G (.bool false)else(if ((↑(List.length (UK m)):Int) != (↑(List.length (UK k)):Int))=true then G (.bool false)else(if ((↑(List.length (UC m)):Int) != (↑(List.length (UC k)):Int))=true then G (.bool false)else(if ((↑(V4 m):Int) != (↑(V4 k):Int))=true then G (.bool false)else(At U7 0 (Za Vd G) Va 0 95 Ui [KX m,KX k]))))) G (dm [] 95 0x142222222202222222200942222222202222222222222222011422222222022222222222222222222222201942) U7 Vd Va (YN 95 [d4a m,d4a k]) (by delta UK UC J9 V4 ZA Ui KX;exact rfl)
def b4x(e:Int)(Zn:Mdu):Bool:=decide (0<=e)&&decide (Int.toNat e<List.length (UK Zn))&&1==1
def b5v(e:Mdu)(Zn:Int)(g:Str):Prop:=AV.pv (PV.rptr (PV.cells (List.getD (UK e) (Int.toNat Zn) default)))=AV.pv (PV.rptr (PV.cells ((enc) g)))
def SQ(e:Str):PV:=List.getD (PV.cells (enc e)) 0 default
def Bh(e:Mdu):Slot:=.obj (.box [.pv (.str e.name.s),.pv (.sl 1 false (e.im.map enc)),.pv (.sl 1 false (e.ex.map enc)),.pv (.sl 17 false (e.ds.map enc))])
def d9v{G:PV->Prop}(m k:Mdu)(i:Int):=WQ (if (decide (i<(↑(List.length (UK m)):Int)))=true then(b4x i m)=true∧(∃ e:Str,(b5v m i e)∧((b4x i k)=true∧(∃ g:Str,(b5v k i g)∧(if (!PV.asStr (SQ e)==PV.asStr (SQ g))=true then G (.bool false)else(At U7 0 (Za Vd G) Va 0 95 (Kr i) [KX m,KX k])))))else(At U7 0 (Za Vd G) Va 1 95 a1o [KX m,KX k])) G (dm [dr Str] 21 0x200014225125100e42) U7 Vd Va 0 95 (Pt i) [Bh m,Bh k] (by delta UK b4x b5v SQ Yp Kr UC KX ZA a1o;exact rfl)
def b8n(e:Int)(Zn:Mdu):Bool:=decide (0<=e)&&decide (Int.toNat e<List.length (UC Zn))&&1==1
def c0m(e:Mdu)(Zn:Int)(g:Str):Prop:=AV.pv (PV.rptr (PV.cells (List.getD (UC e) (Int.toNat Zn) default)))=AV.pv (PV.rptr (PV.cells ((enc) g)))
def d4r{G:PV->Prop}(m k:Mdu)(i:Int):=WQ (if (decide (i<(↑(List.length (UC m)):Int)))=true then(b8n i m)=true∧(∃ e:Str,(c0m m i e)∧((b8n i k)=true∧(∃ g:Str,(c0m k i g)∧(if (!PV.asStr (SQ e)==PV.asStr (SQ g))=true then G (.bool false)else(At U7 0 (Za Vd G) Va 1 95 [(2,.ptr 0 0),(3,.ptr 1 0),(6,Yp i)] [KX m,KX k])))))else(At U7 0 (Za Vd G) Va 2 95 [(2,.ptr 0 0),(3,.ptr 1 0),(7,ZA)] [KX m,KX k])) G (dm [dr Str] 21 0x200014225125100e42) U7 Vd Va 1 95 [(2,.ptr 0 0),(3,.ptr 1 0),(6,ZU i)] [Bh m,Bh k] (by delta UC b8n c0m SQ Yp UK KX ZA;exact rfl)
def NE(e:Int)(Zn:Mdu):Bool:=decide (0<=e)&&decide (Int.toNat e<List.length (J9 Zn))&&17==17
def PN(e:Mdu)(Zn:Int)(g:Df):Prop:=AV.pv (PV.rptr (PV.cells (List.getD (J9 e) (Int.toNat Zn) default)))=AV.pv (PV.rptr (PV.cells ((enc) g)))
def Xq(e:Df):List PV:=PV.cells (enc e)
def a1c(e:Df):PV:=.int .i64 (PV.asInt (List.getD (Xq e) (0+1+1+1+1+1+1+1) default))
def a3b(e:Df):PV:=.int .i64 (PV.asInt (List.getD (Xq e) (0+1+1+1+1+1+1+1+1) default))
def a2i(e:Df):PV:=.str (PV.asStr (List.getD (Xq e) (0+1+1+1+1+1+1+1+1+1) default))
def a0r(e:Df):PV:=.int .i64 (PV.asInt (List.getD (Xq e) (0+1+1+1+1+1+1+1+1+1+1) default))
def a4k(e:Df):PV:=.str (PV.asStr (List.getD (Xq e) (0+1+1+1+1+1+1+1+1+1+1+1) default))
def a4t(e:Df):PV:=.sl 1 false (PV.asXs (List.getD (Xq e) (0+1+1+1+1+1+1+1+1+1+1+1+1) default))
def a2l(e:Df):PV:=.sl 1 false (PV.asXs (List.getD (Xq e) (0+1+1+1+1+1+1+1+1+1+1+1+1+1) default))
def a5h(e:Df):PV:=.sl 2 false (PV.asXs (List.getD (Xq e) (0+1+1+1+1+1+1+1+1+1+1+1+1+1+1) default))
def a6m(e:Df):PV:=.sl 1 false (PV.asXs (List.getD (Xq e) (0+1+1+1+1+1+1+1+1+1+1+1+1+1+1+1) default))
def a6o(e:Df):PV:=.sl 10 false (PV.asXs (List.getD (Xq e) (0+1+1+1+1+1+1+1+1+1+1+1+1+1+1+1+1) default))
def e4v(e:Df):PV:=.agg [.str (PV.asStr (List.getD (Xq e) 0 default)),.int .i64 (PV.asInt (List.getD (Xq e) (0+1) default)),.sl 5 false (PV.asXs (List.getD (Xq e) (0+1+1) default)),.bool (PV.asBool (List.getD (Xq e) (0+1+1+1) default)),.str (PV.asStr (List.getD (Xq e) (0+1+1+1+1) default)),.str (PV.asStr (List.getD (Xq e) (0+1+1+1+1+1) default)),.sl 2 false (PV.asXs (List.getD (Xq e) (0+1+1+1+1+1+1) default)),a1c e,a3b e,a2i e,a0r e,a4k e,a4t e,a2l e,a5h e,a6m e,a6o e]
def e2z{G:PV->Prop}(m k:Mdu)(i:Int):=WQ (if (decide (i<(↑(V4 m):Int)))=true then(NE i m)=true∧(∃ e:Df,(PN m i e)∧((NE i k)=true∧(∃ g:Df,(PN k i g)∧((Go.Pl.preT (fun(x:Df×Df×Unit)=>dfE x.1 x.2.1) [e4v e,e4v g])=true∧(∃ h:Bool,(AV.pv (Zt (fun(x:Df×Df×Unit)=>true) [e4v e,e4v g])=AV.pv (enc h))∧(if (!h)=true then G (.bool false)else(At U7 0 (Za Vd G) Va 2 95 [(2,.ptr 0 0),(3,.ptr 1 0),(7,Yp i)] [KX m,KX k])))))))else(Qf G)) G (dm [dr Df,dv Bool] 22 0x2000146125125100f42) U7 Vd Va 2 95 [(2,.ptr 0 0),(3,.ptr 1 0),(7,ZU i)] [Bh m,Bh k] (by delta J9 V4 NE PN Xq a1c a3b a2i a0r a4k a4t a2l a5h a6m a6o e4v Yp UK UC KX Qf;exact rfl)
noncomputable def JE:IC:=X5 Proofs.Tryz.f8
def JA:List IRes:=[(.tmp 4)]
abbrev f1e:Nat:=149
noncomputable def Cx:ZP:=Y9 [(9,.pure (preT (fun _:Unit=>true)) (Zt (fun _:Unit=>true))),(18,.pure (preT (fun _:Str×Unit=>true)) (Zt (fun x:Str×Unit=>YH x.1))),(13,.pure (preT (fun x:Tm×Tm×Unit=>tW x.1&&tW x.2.1)) (Zt (fun x:Tm×Tm×Unit=>Lu x.1 x.2.1))),(22,.pure (preT (fun x:Mdu×Mdu×Unit=>mdE x.1 x.2.1)) (Zt (fun _:Mdu×Mdu×Unit=>true)))]
def a1u:=fun(e:Str×Unit)=>YH e.1
def AC(e:R3 Mdu Int Int):Nat:=List.length (List.map enc (Mdu.ds (R3.a e)))
def c5c(e:R3 Mdu Int Int):Slot:=.obj (.box [.pv (.str (Str.s (Mdu.name (R3.a e)))),.pv (.sl 1 false (List.map enc (Mdu.im (R3.a e)))),.pv (.sl 1 false (List.map enc (Mdu.ex (R3.a e)))),.pv (.sl 17 false (List.map enc (Mdu.ds (R3.a e))))])
def g1q{G:PV->Prop}(s D:List UInt8):=Qb (∃ i:Bool,(AV.pv (Zt (fun(x:Unit)=>true) [])=AV.pv (enc i))∧(if (!i)=true then G (.bool false)else(if (decide ((↑(List.length s):Int)>400))=true then G (.bool true)else(if (decide ((↑(List.length D):Int)>200))=true then G (.bool true)else(∃ g:R3 Mdu Int Int,(AV.pv (Zt a1u [.str s])=AV.pv (enc g))∧((decide (List.length [(109:UInt8),(111:UInt8),(100:UInt8),(117:UInt8),(108:UInt8),(101:UInt8),(32:UInt8),(109:UInt8),(10:UInt8)]+List.length D<=1099511627776))=true∧(∃ e:R3 Mdu Int Int,(AV.pv (Zt a1u [.str ([(109:UInt8),(111:UInt8),(100:UInt8),(117:UInt8),(108:UInt8),(101:UInt8),(32:UInt8),(109:UInt8),(10:UInt8)]++D)])=AV.pv (enc e))∧(if (R3.c g != 0)=true then G (.bool true)else(if (R3.c e != 0)=true then G (.bool true)else(if (decide (IntKind.wrap IntKind.i64 ((↑(List.length (List.map enc (Mdu.im (R3.a e)))):Int)+(↑(List.length (List.map enc (Mdu.ex (R3.a e)))):Int))>0))=true then G (.bool true)else(if (decide (IntKind.wrap IntKind.i64 ((↑(AC g):Int)+(↑(AC e):Int))>60))=true then G (.bool true)else((decide (List.length s+List.length [(10:UInt8)]<=1099511627776))=true∧((decide (List.length (s++[(10:UInt8)])+List.length D<=1099511627776))=true∧(∃ h:R3 Mdu Int Int,(AV.pv (Zt a1u [.str (s++[(10:UInt8)]++D)])=AV.pv (enc h))∧(if (R3.c h != 0)=true then G (.bool false)else(if ((↑(AC h):Int) != IntKind.wrap IntKind.i64 ((↑(AC g):Int)+(↑(AC e):Int)))=true then G (.bool false)else(At Cx 0 (Za JA G) JE 0 149 [(5,.ptr 0 0),(8,.ptr 1 0),(11,.ptr 2 0),(14,ZA)] [c5c g,c5c e,c5c h]))))))))))))))))) G (dm [dv Bool,dv (R3 Mdu Int Int)] 165 0x142222222222222022222222222200d426211000142222222222022222222200a42222222222022222222222222222201342220222222222222222222222016426216200014222202222005420001452) Cx JA JE (YN 149 [.str s,.str D]) (by delta a1u AC ZA c5c;exact rfl)
def e1q(e Zn:Df):List PV:=[.agg [a1c e,a3b e,a2i e,a0r e,a4k e,a4t e,a2l e,a5h e,a6m e,a6o e],.agg [.int .i64 (PV.asInt (List.getD (List.drop 7 (Xq Zn)) 0 default)),.int .i64 (PV.asInt (List.getD (List.drop 7 (Xq Zn)) (0+1) default)),.str (PV.asStr (List.getD (List.drop 7 (Xq Zn)) (0+1+1) default)),.int .i64 (PV.asInt (List.getD (List.drop 7 (Xq Zn)) (0+1+1+1) default)),.str (PV.asStr (List.getD (List.drop 7 (Xq Zn)) (0+1+1+1+1) default)),.sl 1 false (PV.asXs (List.getD (List.drop 7 (Xq Zn)) (0+1+1+1+1+1) default)),.sl 1 false (PV.asXs (List.getD (List.drop 7 (Xq Zn)) (0+1+1+1+1+1+1) default)),.sl 2 false (PV.asXs (List.getD (List.drop 7 (Xq Zn)) (0+1+1+1+1+1+1+1) default)),.sl 1 false (PV.asXs (List.getD (List.drop 7 (Xq Zn)) (0+1+1+1+1+1+1+1+1) default)),.sl 10 false (PV.asXs (List.getD (List.drop 7 (Xq Zn)) (0+1+1+1+1+1+1+1+1+1) default))]]
def e2q(e Zn:Mdu):List PV:=[.agg [.str (Str.s (Mdu.name e)),.sl 1 false (UK e),.sl 1 false (UC e),.sl 17 false (List.drop 0 (List.take (Int.toNat (↑(V4 Zn):Int)) (J9 e)))],.agg [.str (Str.s (Mdu.name Zn)),.sl 1 false (UK Zn),.sl 1 false (UC Zn),.sl 17 false (J9 Zn)]]
def c1l{G:PV->Prop}(s D:List UInt8)(i:Int)(m n k:Mdu):=WQ (if (decide (i<(↑(V4 n):Int)))=true then(decide (0<=IntKind.wrap IntKind.i64 ((↑(V4 m):Int)+i))&&decide (Int.toNat (IntKind.wrap IntKind.i64 ((↑(V4 m):Int)+i))<List.length (J9 k))&&17==17)=true∧(∃ e:Df,(AV.pv (PV.rptr (PV.cells (List.getD (J9 k) (Int.toNat (IntKind.wrap IntKind.i64 ((↑(V4 m):Int)+i))) default)))=AV.pv (PV.rptr (PV.cells ((enc) e))))∧((NE i n)=true∧(∃ h:Df,(PN n i h)∧(if (!PV.asStr (List.getD (Xq e) 0 default)==PV.asStr (List.getD (List.drop 0 (Xq h)) 0 default))=true then G (.bool false)else((NE i n)=true∧(∃ g:Df,(PN n i g)∧((Go.Pl.preT a3l (e1q e g))=true∧(∃ q:Bool,(AV.pv (Zt (fun(x:Tm×Tm×Unit)=>Lu x.1 x.2.1) (e1q e g))=AV.pv (enc q))∧(if (!q)=true then G (.bool false)else((NE i n)=true∧(∃ j:Df,(PN n i j)∧(if ((↑(List.length (PV.asXs (List.getD (Xq e) (0+1+1) default))):Int) != (↑(List.length (PV.asXs (List.getD (List.drop 2 (Xq j)) 0 default))):Int))=true then G (.bool false)else(At Cx 0 (Za JA G) JE 0 149 [(5,.ptr 0 0),(8,.ptr 1 0),(11,.ptr 2 0),(14,Yp i)] [KX m,KX n,KX k])))))))))))))else((true&&decide (0<=(↑(V4 m):Int))&&(List.isEmpty (J9 k)||17==17)&&decide (0<=Int.toNat (↑(V4 m):Int))&&decide (Int.toNat (↑(V4 m):Int)<=List.length (J9 k)))=true∧((Go.Pl.preT (fun(x:Mdu×Mdu×Unit)=>mdE x.1 x.2.1) (e2q k m))=true∧(∃ l:Bool,(AV.pv (Zt (fun(x:Mdu×Mdu×Unit)=>true) (e2q k m))=AV.pv (enc l))∧(G (.bool l)))))) G (dm [dr Df,dv Bool] 100 0x6110200014222222251222222022222222222200d422612222512222202222222222222222222222201842251251205a42) Cx JA JE 0 149 [(5,.ptr 0 0),(8,.ptr 1 0),(11,.ptr 2 0),(14,ZU i)] [Bh m,Bh n,Bh k] (by delta J9 V4 NE PN Xq a3l a1c a3b a2i a0r a4k a4t a2l a5h a6m a6o e1q Yp UK UC KX e2q;exact rfl)
section
theorem f7b(r:Str)(l:List Lin)(j:l.length<=1048576)(hb : ∀ x∈l,Uh x=true): ∀ (n i:Nat),i+n=l.length ->
  At M0 0 (Za Ce (Ze true)) Cz 0 39 [(2,.ptr 0 0),(3,.ptr 1 0),(5,.pv (.int .i64 (i:Int)))] [.obj (.box [.pv (enc r),.pv (enc l)]),.obj (.box [.pv (enc r),.pv (enc l)])]
 | 0,i,e=>d6l r l r l i (Yj (K7 (by omega)) (ZG rfl))
 | n+1,i,e=>by
  have h:i<l.length:=by omega
  have go:=f7b r l j hb n (i+1) (by omega)
  rw[<- next (k:=i) (by omega)]at go
  refine d6l r l r l i (Yd (Jn h) ⟨YG h rfl,Xm h ⟨YG h rfl,Xm h ⟨Zo (l[i],l[i],()) rfl (hb _ (List.getElem_mem h)),Zf (l[i],l[i],()) rfl (Yy (fun g=> ?_) fun _=>go)⟩⟩⟩)
  exact absurd (show decide (l[i]=l[i])=false from g) (by rw[decide_eq_true rfl];decide)
theorem f2x: ∀ x:Sp×Sp×Unit,spE x.1 x.2.1=true->Zj M0 0 (Za Ce (Ze true)) Cz [] (YN g4n (encL x)):=by
 rintro⟨⟨r,l⟩,⟨q,m⟩,⟨⟩⟩ h
 have h:(decide ((⟨r,l⟩:Sp)=⟨q,m⟩)&&M3 r l)=true:=h
 unfold M3 at h
 simp only[Bool.and_eq_true,decide_eq_true_eq,List.all_eq_true]at h
 obtain⟨e,h1,h2,h3⟩:=h
 cases e
 refine g7a r l r l (b7z (fun k=>absurd rfl k) fun _=>b2i (fun k=>absurd rfl k) fun _=>f7b r l h2 (fun x g=> ?_) _ 0 (Nat.zero_add _))
 have:=h3 x g
 unfold X4 at this
 simp only[Bool.and_eq_true]at this
 exact this.1
theorem e9c: ∀ x:TyS×TyS×Unit,tyE x.1 x.2.1=true->Zj d4m 0 (Za b9a (Ze true)) b7l [] (YN g2i (encL x)):=by
 rintro⟨t,u,⟨⟩⟩ h
 have h:(decide (t=u)&&Ja t)=true:=h
 unfold Ja at h
 simp only[Bool.and_eq_true,decide_eq_true_eq]at h
 obtain⟨rfl,h1,h2⟩:=h
 refine g8z t t (Yd (beq_self_eq_true _) ⟨Zo ((⟨t.row,t.dims⟩:Sp),(⟨t.row,t.dims⟩:Sp),()) rfl ?_,Zf ((⟨t.row,t.dims⟩:Sp),(⟨t.row,t.dims⟩:Sp),()) rfl (ZG rfl)⟩)
 show(decide ((⟨t.row,t.dims⟩:Sp)=⟨t.row,t.dims⟩)&&M3 t.row t.dims)=true
 rw[decide_eq_true rfl,h2];rfl
theorem f5r: ∀ x:Pm×Pm×Unit,pmE x.1 x.2.1=true->Zj e4f 0 (Za b6k (Ze true)) b6v [] (YN g5q (encL x)):=by
 rintro⟨p,q,⟨⟩⟩ h
 have h:(decide (p=q)&&Ja p.ty)=true:=h
 simp only[Bool.and_eq_true,decide_eq_true_eq]at h
 obtain⟨rfl,h1⟩:=h
 refine g9i p p (Yd (beq_self_eq_true _) (Yd (beq_self_eq_true _) ⟨Zo (p.ty,p.ty,()) rfl ?_,Zf (p.ty,p.ty,()) rfl (ZG rfl)⟩))
 show(decide (p.ty=p.ty)&&Ja p.ty)=true
 rw[decide_eq_true rfl,h1];rfl
theorem bd2(d e:Df):[PV.agg [.int .i64 d.n.kind,.int .i64 d.n.line,.str d.n.name.s,.int .i64 d.n.num,.str d.n.elem.s,.sl 1 false (d.n.dims.map enc),.sl 1 false (d.n.data.map enc),.sl 2 false (d.n.sizes.map enc),.sl 1 false (d.n.ranks.map enc),.sl 10 false (d.ks.map enc)],PV.agg [.int .i64 e.n.kind,.int .i64 e.n.line,.str e.n.name.s,.int .i64 e.n.num,.str e.n.elem.s,.sl 1 false (e.n.dims.map enc),.sl 1 false (e.n.data.map enc),.sl 2 false (e.n.sizes.map enc),.sl 1 false (e.n.ranks.map enc),.sl 10 false (e.ks.map enc)]]=encL (Tm.mk d.n d.ks,Tm.mk e.n e.ks,()):=by
 show _=[enc (Tm.mk d.n d.ks),enc (Tm.mk e.n e.ks)]
 rw[Wx,Wx]
 rfl
theorem f6n{d e:Df}(s:d.ps.length<=1048576)(l:psE d.ps e.ps=true)(j:At TQ 0 (Za H6 (Ze true)) GD 0 65 [(2,.ptr 0 0),(3,.ptr 1 0),(5,.pv (.int .i64 (d.ps.length:Int)))] [.obj (.box (e9n d)),.obj (.box (e9n e))]): ∀ (n i:Nat),i+n=d.ps.length ->
  At TQ 0 (Za H6 (Ze true)) GD 0 65 [(2,.ptr 0 0),(3,.ptr 1 0),(5,.pv (.int .i64 (i:Int)))] [.obj (.box (e9n d)),.obj (.box (e9n e))]
 | 0,i,k=>by rw[show i=d.ps.length by omega];exact j
 | n+1,i,k=>by
  obtain⟨q1,r⟩:=a5a l
  have h:i<d.ps.length:=by omega
  have g:i<e.ps.length:=by omega
  have go:=f6n s l j n (i+1) (by omega)
  rw[<- next (k:=i) (by omega)]at go
  exact d2r d e i (Yd (Jn h) ⟨YG h rfl,Xm h ⟨YG g rfl,Xm g ⟨Zo (d.ps[i],e.ps[i],()) rfl (r i h g),Zf (d.ps[i],e.ps[i],()) rfl (Yy (fun q=>by cases q) fun _=>go)⟩⟩⟩)
theorem f3p: ∀ x:Df×Df×Unit,dfE x.1 x.2.1=true->Zj TQ 0 (Za H6 (Ze true)) GD [] (YN g2m (encL x)):=by
 rintro⟨d,e,⟨⟩⟩ h
 have h:dfE d e=true:=h
 unfold dfE at h
 simp only[Bool.and_eq_true,decide_eq_true_eq]at h
 obtain⟨⟨h1,h2,h3,i,g⟩,h6,h7,h8,h9⟩:=h
 have j:=(a5a h7).1
 refine g7e d e (BK (fun k=>absurd j k) fun _=>f6n h6 h7 (d2r d e d.ps.length (Yj (K7 (by omega)) ?_)) _ 0 (Nat.zero_add _))
 refine Yd (by rw[h1];exact beq_self_eq_true _) (Yd (by rw[h2];exact beq_self_eq_true _) (Yd (by rw[h3];exact beq_self_eq_true _) ⟨Zo (d.res,e.res,()) rfl i,Zf (d.res,e.res,()) rfl (Yd rfl ⟨Zo (Tm.mk d.n d.ks,Tm.mk e.n e.ks,()) (bd2 d e) ?_,Zf (Tm.mk d.n d.ks,Tm.mk e.n e.ks,()) (bd2 d e) (ZG g)⟩)⟩))
 show(tW (Tm.mk d.n d.ks)&&tW (Tm.mk e.n e.ks))=true
 rw[h8,h9];rfl
section
variable {m k:Mdu}
theorem f6h(q:m.ds.length<=1048576)(hd:dsE m.ds k.ds=true): ∀ (n i:Nat),i+n=m.ds.length ->
  At U7 0 (Za Vd (Ze true)) Va 2 95 [(2,.ptr 0 0),(3,.ptr 1 0),(7,.pv (.int .i64 (i:Int)))] [.obj (.box (SB m)),.obj (.box (SB k))]
 | 0,i,e=>e2z m k i (Yj (K7 (by omega)) (ZG rfl))
 | n+1,i,e=>by
  obtain⟨q1,l⟩:=a0u hd
  have h:i<m.ds.length:=by omega
  have g:i<k.ds.length:=by omega
  have go:=f6h q hd n (i+1) (by omega)
  rw[<- next (k:=i) (by omega)]at go
  exact e2z m k i (Yd (Jn h) ⟨YG h rfl,Xm h ⟨YG g rfl,Xm g ⟨Zo (m.ds[i],k.ds[i],()) rfl (l i h g),Zf (m.ds[i],k.ds[i],()) rfl (Yy (fun j=>by cases j) fun _=>go)⟩⟩⟩)
theorem f7y(l:m.ex.length<=1048576)(g:m.ex=k.ex)(hn:At U7 0 (Za Vd (Ze true)) Va 2 95 [(2,.ptr 0 0),(3,.ptr 1 0),(7,.pv (.int .i64 0))] [.obj (.box (SB m)),.obj (.box (SB k))]): ∀ (n i:Nat),i+n=m.ex.length ->
  At U7 0 (Za Vd (Ze true)) Va 1 95 [(2,.ptr 0 0),(3,.ptr 1 0),(6,.pv (.int .i64 (i:Int)))] [.obj (.box (SB m)),.obj (.box (SB k))]
 | 0,i,e=>d4r m k i (Yj (K7 (by omega)) hn)
 | n+1,i,e=>by
  have h:i<m.ex.length:=by omega
  have j:i<k.ex.length:=by rw[<- g];exact h
  have go:=f7y l g hn n (i+1) (by omega)
  rw[<- next (k:=i) (by omega)]at go
  exact d4r m k i (Yd (Jn h) ⟨YG h rfl,Xm h ⟨YG j rfl,Xm j (b7z (fun q=>absurd (show m.ex[i].s=k.ex[i].s by simp only[g]) q) fun _=>go)⟩⟩)
theorem f6f(l:m.im.length<=1048576)(g:m.im=k.im)(hn:At U7 0 (Za Vd (Ze true)) Va 1 95 [(2,.ptr 0 0),(3,.ptr 1 0),(6,.pv (.int .i64 0))] [.obj (.box (SB m)),.obj (.box (SB k))]): ∀ (n i:Nat),i+n=m.im.length ->
  At U7 0 (Za Vd (Ze true)) Va 0 95 [(2,.ptr 0 0),(3,.ptr 1 0),(5,.pv (.int .i64 (i:Int)))] [.obj (.box (SB m)),.obj (.box (SB k))]
 | 0,i,e=>d9v m k i (Yj (K7 (by omega)) hn)
 | n+1,i,e=>by
  have h:i<m.im.length:=by omega
  have j:i<k.im.length:=by rw[<- g];exact h
  have go:=f6f l g hn n (i+1) (by omega)
  rw[<- next (k:=i) (by omega)]at go
  exact d9v m k i (Yd (Jn h) ⟨YG h rfl,Xm h ⟨YG j rfl,Xm j (b7z (fun q=>absurd (show m.im[i].s=k.im[i].s by simp only[g]) q) fun _=>go)⟩⟩)
end
theorem f2n: ∀ x:Mdu×Mdu×Unit,mdE x.1 x.2.1=true->Zj U7 0 (Za Vd (Ze true)) Va [] (YN f8w (encL x)):=by
 rintro⟨m,k,⟨⟩⟩ h
 have h:mdE m k=true:=h
 unfold mdE at h
 simp only[Bool.and_eq_true,decide_eq_true_eq]at h
 obtain⟨⟨h1,h2,h3⟩,⟨g,e⟩,h6,h7⟩:=h
 refine h0u m k (b7z (fun q=>absurd (show m.name.s=k.name.s by rw[h1]) q) fun _=>BK (fun q=>absurd (by rw[h2]) q) fun _=>BK (fun q=>absurd (by rw[h3]) q) fun _=>BK (fun q=>absurd (a0u h7).1 q) fun _=> ?_)
 exact f6f g h2 (f7y e h3 (f6h h6 h7 _ 0 (Nat.zero_add _)) _ 0 (Nat.zero_add _)) _ 0 (Nat.zero_add _)
theorem d8g(s D:List UInt8){m n k:Mdu}(hm:MdK m)(hn:n.ds.length<=60)(j:k.name=m.name)(r:k.im=m.im)(y:k.ex=m.ex)(u:k.ds.take m.ds.length=m.ds)(l:k.ds.length=m.ds.length+n.ds.length)
  (F : ∀ i (h1:i<n.ds.length) (h2:m.ds.length+i<k.ds.length),(k.ds[m.ds.length+i].name=n.ds[i].name∧k.ds[m.ds.length+i].ps=n.ds[i].ps∧Lu (.mk k.ds[m.ds.length+i].n k.ds[m.ds.length+i].ks) (.mk n.ds[i].n n.ds[i].ks)=true)∧tW (.mk k.ds[m.ds.length+i].n k.ds[m.ds.length+i].ks)=true∧tW (.mk n.ds[i].n n.ds[i].ks)=true) : ∀ (c i:Nat),i+c=n.ds.length ->
  At Cx 0 (Za JA (Ze true)) JE 0 149 [(5,.ptr 0 0),(8,.ptr 1 0),(11,.ptr 2 0),(14,.pv (.int .i64 (i:Int)))] [.obj (.box (SB m)),.obj (.box (SB n)),.obj (.box (SB k))]
 | 0,i,e=>by
  have hd:=hm.ds
  refine c1l s D i m n k (Yj (K7 (by omega)) ?_)
  have et:List.drop 0 (List.take (Int.toNat ((List.length (List.map (enc:Df->PV) m.ds):Nat):Int)) (List.map (enc:Df->PV) k.ds))=List.map enc m.ds:=by
   rw[List.drop_zero,List.length_map,Int.toNat_natCast,<- List.map_take,u]
  rw[et]
  have en:[PV.agg [.str k.name.s,.sl 1 false (k.im.map enc),.sl 1 false (k.ex.map enc),.sl 17 false (m.ds.map enc)],PV.agg [.str m.name.s,.sl 1 false (m.im.map enc),.sl 1 false (m.ex.map enc),.sl 17 false (m.ds.map enc)]]=encL (m,m,()):=by
   rw[j,r,y];rfl
  refine⟨?_,Zo (m,m,()) en (d5l hm),Zf (m,m,()) en (ZG rfl)⟩
  simp[l]
 | c+1,i,e=>by
  have hd:=hm.ds
  have h:i<n.ds.length:=by omega
  have g:m.ds.length+i<k.ds.length:=by omega
  obtain⟨⟨E,A,C⟩,f4,f5⟩:=F i h g
  have go:=d8g s D hm hn j r y u l F c (i+1) (by omega)
  rw[<- next (k:=i) (by omega)]at go
  refine c1l s D i m n k (Yd (Jn h) ?_)
  have B:IntKind.i64.wrap (((List.length (List.map (enc:Df->PV) m.ds):Nat):Int)+(i:Int))=((m.ds.length+i:Nat):Int):=by
   rw[List.length_map,WJ (by omega) (by omega)];omega
  rw[B]
  have H:(tW (.mk k.ds[m.ds.length+i].n k.ds[m.ds.length+i].ks)&&tW (.mk n.ds[i].n n.ds[i].ks))=true:=by rw[f4,f5];rfl
  refine⟨YG g rfl,Xm g ⟨YG h rfl,Xm h (b7z (fun q=>absurd (show k.ds[m.ds.length+i].name.s=n.ds[i].name.s by rw[E]) q) fun _=>⟨YG h rfl,Xm h ⟨Zo (Tm.mk k.ds[m.ds.length+i].n k.ds[m.ds.length+i].ks,Tm.mk n.ds[i].n n.ds[i].ks,()) (bd2 _ _) H,Zf (Tm.mk k.ds[m.ds.length+i].n k.ds[m.ds.length+i].ks,Tm.mk n.ds[i].n n.ds[i].ks,()) (bd2 _ _) (Yy (fun z=> ?_) fun _=>⟨YG h rfl,Xm h (BK (fun q=>absurd (by rw[A]) q) fun _=>go)⟩)⟩⟩)⟩⟩
  exact absurd (show Lu (.mk k.ds[m.ds.length+i].n k.ds[m.ds.length+i].ks) (.mk n.ds[i].n n.ds[i].ks)=false from z) (by rw[C];decide)
theorem e3u: ∀ x:Str×Str×Unit,true=true->Zj Cx 0 (Za JA (Ze true)) JE [] (YN f1e (encL x)):=by
 rintro⟨⟨s⟩,⟨D⟩,⟨⟩⟩ _
 refine g1q s D (Zf () rfl (Yj (by decide) (Yo (fun _=>ZG rfl) fun hs=>Yo (fun _=>ZG rfl) fun r=>Zf ((⟨s⟩:Str),()) rfl ⟨?_,Zf ((⟨U8++10::D⟩:Str),()) rfl (a9k (fun _=>ZG rfl) fun l=>a9k (fun _=>ZG rfl) fun g=> ?_)⟩)))
 ·have : ¬ ((D.length:Nat):Int)>200:=r
  exact decide_eq_true (by show 9+D.length<=1099511627776;omega)
 have hs:s.length<=400:=by have : ¬ ((s.length:Nat):Int)>400:=hs;omega
 have r:D.length<=200:=by have : ¬ ((D.length:Nat):Int)>200:=r;omega
 have l:(YH ⟨s⟩).c=0:=l
 have g:(YH ⟨U8++10::D⟩).c=0:=g
 have z:=f7a l
 have u:=f7a g
 have k1:=z.ds
 have k2:=u.im
 have k3:=u.ex
 have B:=u.ds
 show if decide (IntKind.i64.wrap (((List.length (List.map (enc:Str->PV) (YH ⟨U8++10::D⟩).a.im):Nat):Int)+((List.length (List.map (enc:Str->PV) (YH ⟨U8++10::D⟩).a.ex):Nat):Int))>0)=true then _ else _
 rw[List.length_map,List.length_map,WJ (by omega) (by omega)]
 refine Yo (fun _=>ZG rfl) fun h0=> ?_
 show if decide (IntKind.i64.wrap (((List.length (List.map (enc:Df->PV) (YH ⟨s⟩).a.ds):Nat):Int)+((List.length (List.map (enc:Df->PV) (YH ⟨U8++10::D⟩).a.ds):Nat):Int))>60)=true then _ else _
 rw[List.length_map,List.length_map,WJ (by omega) (by omega)]
 refine Yo (fun _=>ZG rfl) fun hl=> ?_
 obtain⟨X,e,v⟩:=d5v hs r l g (by omega) (by omega)
 have es:s++[10]++D=s++10::D:=by rw[List.append_assoc];rfl
 have j:=fun h=>(b4j (s:=⟨s++10::D⟩) h).2.1
 rw[e]at j
 have j:=j rfl
 have C:=(b4j g).2.1
 obtain⟨A,E⟩:=f1u v
 refine⟨decide_eq_true (by show s.length+1<=1099511627776;omega),decide_eq_true (by rw[List.length_append];show s.length+1+D.length<=1099511627776;omega),Zf ((⟨s++[10]++D⟩:Str),()) rfl ?_⟩
 show if ((YH ⟨s++[10]++D⟩).c != 0)=true then _ else _
 rw[es,e]
 refine Yj (show ¬ (((0:Int) != 0)=true) by decide) ?_
 rw[List.length_map]
 refine b2i (fun q=>absurd ?_ q) fun _=> ?_
 ·show(((YH ⟨s⟩).a.ds++X).length:Int)=_
  rw[List.length_append];omega
 refine d8g s D (m:=(YH ⟨s⟩).a) (n:=(YH ⟨U8++10::D⟩).a) (k:=⟨(YH ⟨s⟩).a.name,(YH ⟨s⟩).a.im,(YH ⟨s⟩).a.ex,(YH ⟨s⟩).a.ds++X⟩) z B rfl rfl rfl (List.take_left ..) (by show((YH ⟨s⟩).a.ds++X).length=_;rw[List.length_append,A]) (fun i h1 h2=> ?_) _ 0 (Nat.zero_add _)
 have y:i<X.length:=by omega
 have ex:((YH ⟨s⟩).a.ds++X)[(YH ⟨s⟩).a.ds.length+i]'h2=X[i]:=by
  rw[List.getElem_append_right (by omega)]
  simp only[Nat.add_sub_cancel_left]
 show((((YH ⟨s⟩).a.ds++X)[(YH ⟨s⟩).a.ds.length+i]'h2).name=_∧(((YH ⟨s⟩).a.ds++X)[(YH ⟨s⟩).a.ds.length+i]'h2).ps=_∧Lu (.mk (((YH ⟨s⟩).a.ds++X)[(YH ⟨s⟩).a.ds.length+i]'h2).n (((YH ⟨s⟩).a.ds++X)[(YH ⟨s⟩).a.ds.length+i]'h2).ks) _=true)∧tW (.mk (((YH ⟨s⟩).a.ds++X)[(YH ⟨s⟩).a.ds.length+i]'h2).n (((YH ⟨s⟩).a.ds++X)[(YH ⟨s⟩).a.ds.length+i]'h2).ks)=true∧_
 rw[ex]
 exact⟨E i y h1,(j _ (List.mem_append.2 (Or.inr (List.getElem_mem y)))).bw,(C _ (List.getElem_mem h1)).bw⟩
end
end Go.Pl
