/-
  Texts of mine that belong together (packed by pack.py), for every input: GYd, TyYo, TyYn, TyYp, QYm, QYn, GYe, TyYq, QYp, GYv, QYv, QYw, TyJi, GJl, QJl, QJm, TyJa, TyJb, TyJd, TyJw, GJw, GJc, GJb, GJa, QJa, TyJc, QJb, TyJe, TyJf, TyJg, TyJh, QJn, VwX, TyAk, VwN, QJw, TyJv, TyJz, TyKa, TyKc, TySy, TySz, TySw, TySv, TyKb, TyKd, GJk, TyJx, GJx, QJx, QJk.
-/
import Derived.Test.YtgclceacfcdigaaGreatDoorChecked
import Derived.Test.YtgclceacfcdigaaGreatDoorKB2
import Derived.Test.YtgclceacfcdigaaGreatDoorKB3
import Derived.Test.YtgclceacfcdigaaGreatDoorKB4
import Derived.KernelRfl
set_option linter.unusedVariables false
set_option linter.unusedSimpArgs false
namespace Go.Pl
open Go.RowKit
open Enc (enc dec is)
open EncL (encL decL isL)
set_option maxRecDepth 100000
abbrev d5k(args:List AV)(os:List AObj):=X7 (Zr) (Yb) ([]) ([]) (fun(s:PS) (x:Unit)=>Zc s) (QA) args os
abbrev d5p(args:List AV)(os:List AObj):=X7 (Zr) (Yb) ([]) ([]) (fun(s:PS) (x:Unit)=>Zc s) (Ni) args os
abbrev e0m(args:List AV)(os:List AObj):=X7 (Zr) (Yb) ([]) ([]) (fun(s:PS) (x:Unit)=>Zc s) (TG) args os
noncomputable def EN:IC:=XU Proofs.Tryz.f27
def a0d:List IRes:=[]
abbrev e1j:Nat:=14
noncomputable def b2p:ZL:=Y3 [(50,.own (Ya Zr [] [] (fun(s:PS) (_:Unit)=>Zc s)) (Yh Yb [] [] QA))]
theorem e7n{G:AV×List AObj×List AObj->Prop}(s:PS)(h:if (decide ((↑(PS.i s):Int)<(↑(List.length (List.map enc (PS.l s))):Int)))=true then d5k [(.ptr 0 0)] [(Zo s)] fun y0 e=>(G (((.pv (.tup [])),([(Zo e)],[]))))else(G (((.pv (.tup [])),([(Zo s)],[]))))):Zb b2p 1 (Zn 1 a0d G) EN [] (Z4 14 [.ptr 0 0] [Zo s]):=Zb.tf (dm [dv Unit,dO PS] 11 0x65100442) h
noncomputable def RY:IC:=XU Proofs.Tryz.f25
def PZ:List IRes:=[(.tmp 2),(.tmp 3),(.tmp 4)]
abbrev b3h:Nat:=21
noncomputable def a6p:ZL:=Y3 [(48,.pure (preT (fun _:Str×Unit=>true)) (Zm (fun x:Str×Unit=>Z7 x.1)))]
theorem e3t{G:AV×List AObj×List AObj->Prop}(s:List UInt8)(h:(Go.Pl.preT (fun(_:Str×Unit)=>true) [(.str s)])=true∧(∃ e:R3 (List Tok) Int Int,AV.pv (Zm (fun(x:Str×Unit)=>Z7 x.1) [(.str s)])=AV.pv (enc e)∧(G (((.tup [(.ptr 0 0),(.pv (.int .i64 (R3.b e))),(.pv (.int .i64 (R3.c e)))]),([],[(.box [(.pv (.sl 4 false (List.map enc (R3.a e)))),(.pv (.int .i64 0)),(.pv (.int .i64 (↑(List.length s):Int))),(.pv (.bool false)),(.pv (.int .i64 0)),(.pv (.bool false))])])))))):Zb a6p 0 (Z0 0 PZ G) RY [] (Z4 21 [.pv (.str s)] []):=Zb.to (.req (.abs (R3 (List Tok) Int Int) (fun g=>AV.pv (enc g)) (.nil))) h
noncomputable def a0e:IC:=XU Proofs.Tryz.f11
def OC:List IRes:=[(.cell true 10 2),(.tmp 3),(.tmp 4)]
abbrev e1f:Nat:=43
noncomputable def b5l:ZL:=Y3 [(25,.own Dh Ma),(26,.own (Ya Zr [] [] (fun(s:PS) (_:Unit)=>Zc s)) (Yh Yb [] [] Ni)),(27,.own (Ya Zr [] [] (fun(s:PS) (_:Unit)=>Zc s)) (Yh Yb [] [] TG)),(28,.pure (preT (fun x:Tm×Unit=>gW x.1)) (Zm (fun x:Tm×Unit=>Y8 x.1)))]
theorem e5t{G:PV->Prop}(s:List UInt8)(h:(Dh [(.pv (.str s))] [])=true∧(if (R3.c (Z7 (Str.mk s)) != 0)=true then G ((.tup [(.agg [(.int .i64 0),(.int .i64 0),(.str []),(.int .i64 0),(.str []),(.sl 0 true []),(.sl 0 true []),(.sl 0 true []),(.sl 0 true []),(.sl 0 true [])]),(.int .i64 (R3.b (Z7 (Str.mk s)))),(.int .i64 (R3.c (Z7 (Str.mk s))))]))else(d5p [(.ptr 0 0)] [(.box [(.pv (.sl 4 false (List.map enc (PS.l (X9 s))))),(.pv (.int .i64 (↑(PS.i (X9 s)):Int))),(.pv (.int .i64 (PS.sz (X9 s)))),(.pv (.bool false)),(.pv (.int .i64 (PS.wr (X9 s)))),(.pv (.bool false))])] fun e q=>(e0m [(.ptr 0 0)] [(Zo q)] fun y1 g=>(if (PS.bad g)=true then G ((.tup [(.agg [(.int .i64 0),(.int .i64 0),(.str []),(.int .i64 0),(.str []),(.sl 0 true []),(.sl 0 true []),(.sl 0 true []),(.sl 0 true []),(.sl 0 true [])]),(.int .i64 (PS.wr g)),(.int .i64 6)]))else(if (PS.big g)=true then G ((.tup [(.agg [(.int .i64 0),(.int .i64 0),(.str []),(.int .i64 0),(.str []),(.sl 0 true []),(.sl 0 true []),(.sl 0 true []),(.sl 0 true []),(.sl 0 true [])]),(.int .i64 0),(.int .i64 3)]))else((Go.Pl.preT (fun(x:Tm×Unit)=>gW x.1) [(.agg [(.int .i64 (Nd.kind (TS.n e))),(.int .i64 (Nd.line (TS.n e))),(.str (Str.s (Nd.name (TS.n e)))),(.int .i64 (Nd.num (TS.n e))),(.str (Str.s (Nd.elem (TS.n e)))),(.sl 1 false (List.map enc (Nd.dims (TS.n e)))),(.sl 1 false (List.map enc (Nd.data (TS.n e)))),(.sl 2 false (List.map enc (Nd.sizes (TS.n e)))),(.sl 1 false (List.map enc (Nd.ranks (TS.n e)))),(.sl 10 false (List.map enc (TS.k e)))])])=true∧(∃ j:Bool,AV.pv (Zm (fun(x:Tm×Unit)=>Y8 x.1) [(.agg [(.int .i64 (Nd.kind (TS.n e))),(.int .i64 (Nd.line (TS.n e))),(.str (Str.s (Nd.name (TS.n e)))),(.int .i64 (Nd.num (TS.n e))),(.str (Str.s (Nd.elem (TS.n e)))),(.sl 1 false (List.map enc (Nd.dims (TS.n e)))),(.sl 1 false (List.map enc (Nd.data (TS.n e)))),(.sl 2 false (List.map enc (Nd.sizes (TS.n e)))),(.sl 1 false (List.map enc (Nd.ranks (TS.n e)))),(.sl 10 false (List.map enc (TS.k e)))])])=AV.pv (enc j)∧(if (!j)=true then G ((.tup [(.agg [(.int .i64 0),(.int .i64 0),(.str []),(.int .i64 0),(.str []),(.sl 0 true []),(.sl 0 true []),(.sl 0 true []),(.sl 0 true []),(.sl 0 true [])]),(.int .i64 0),(.int .i64 3)]))else(G ((.tup [(.agg [(.int .i64 (Nd.kind (TS.n e))),(.int .i64 (Nd.line (TS.n e))),(.str (Str.s (Nd.name (TS.n e)))),(.int .i64 (Nd.num (TS.n e))),(.str (Str.s (Nd.elem (TS.n e)))),(.sl 1 false (List.map enc (Nd.dims (TS.n e)))),(.sl 1 false (List.map enc (Nd.data (TS.n e)))),(.sl 2 false (List.map enc (Nd.sizes (TS.n e)))),(.sl 1 false (List.map enc (Nd.ranks (TS.n e)))),(.sl 10 false (List.map enc (TS.k e)))]),(.int .i64 0),(.int .i64 0)])))))))))))):Zb b5l 0 (Za OC G) a0e [] (Yz 43 [.str s]):=Zb.tp (dm [dv TS,dO PS,dv Unit,dv Bool] 40 0x14228120222200540001467165100014231) h
end Go.Pl
namespace Go.Pl
open Go.RowKit
def a9w(t:Tok):Bool:=(decide (t.k≠1)||nameI t.t.s)&&((decide (t.k≠3)||(Y6 t.t).2)&&((decide (t.t≠⟨[46,46]⟩)||decide (t.k=4))&&decide (t.t.s.length<=65536)))
def YE(l:List Tok):Bool:=l.all a9w
theorem Aj{c:UInt8}{r:List UInt8}{b:Bool}(h:digB c=true∨lowB c=true):Yk ⟨c::r⟩ b≠⟨[46,46]⟩:=by
 intro e
 have e:(c::r).takeWhile (fun c=>digB c||(b&&lowB c))=[46,46]:=congrArg Str.s e
 rw[List.takeWhile_cons]at e
 split at e
 ·have g:c=46:=(List.cons.inj e).1
  subst g
  exact absurd h (by decide)
 ·cases e
theorem RB: ∀ (l:List (List UInt8)) (s:List UInt8),(Zh l s).1=4∨Zh l s=(0,⟨[]⟩)
 | [],s=>Or.inr rfl
 | x::l,s=>by
  rw[Zh]
  split
  ·exact Or.inl rfl
  ·exact RB l s
theorem c1f{s:Str}{k:Int}{w:Str}(h:Zu s=(k,w))(i:k≠0)(hs:s.s.length<=65536)(ln o:Int):a9w ⟨k,w,ln,o⟩=true:=by
 have j:w.s.length<=65536:=by
  have:=UJ s
  rw[h]at this
  exact Nat.le_trans this hs
 have g:(k=1->nameI w.s=true)∧(k=3->(Y6 w).2=true)∧(w=⟨[46,46]⟩->k=4):=by
  obtain⟨s⟩:=s
  cases s with
  | nil=>exact absurd (congrArg Prod.fst h).symm i
  | cons c r=>
   unfold Zu at h
   dsimp only at h
   split at h
   ·rename_i h1
    split at h
    ·obtain⟨rfl,rfl⟩:=Prod.mk.inj h
     exact⟨fun e=>absurd e (by decide),fun e=>absurd e (by decide),fun e=>absurd e (Aj (Or.inr h1))⟩
    ·split at h
     ·obtain⟨rfl,rfl⟩:=Prod.mk.inj h
      exact⟨fun _=> ‹_›,fun e=>absurd e (by decide),fun e=>absurd e (Aj (Or.inr h1))⟩
     ·exact absurd (congrArg Prod.fst h).symm i
   ·split at h
    ·rename_i h2
     split at h
     ·obtain⟨rfl,rfl⟩:=Prod.mk.inj h
      exact⟨fun e=>absurd e (by decide),fun _=> ‹_›,fun e=>absurd e (Aj (Or.inl h2))⟩
     ·exact absurd (congrArg Prod.fst h).symm i
    ·rcases RB Ze (c::r)with h3|h3
     ·rw[h]at h3
      have h3:k=4:=h3
      subst h3
      exact⟨fun e=>absurd e (by decide),fun e=>absurd e (by decide),fun _=>rfl⟩
     ·rw[h]at h3
      exact absurd (congrArg Prod.fst h3) i
 unfold a9w
 dsimp only
 simp only[Bool.and_eq_true,Bool.or_eq_true,decide_eq_true_eq]
 refine⟨?_,?_,?_,j⟩
 ·by_cases e:k=1
  ·exact Or.inr (g.1 e)
  ·exact Or.inl e
 ·by_cases e:k=3
  ·exact Or.inr (g.2.1 e)
  ·exact Or.inl e
 ·by_cases e:w=⟨[46,46]⟩
  ·exact Or.inr (g.2.2 e)
  ·exact Or.inl e
theorem a3c: ∀ (f:Nat) (s:List UInt8) (i:Nat) (ln:Int) (o:List Tok),s.length<=20000->YE o=true->o.length<=4000->YE (KF f s i ln o).a=true∧(KF f s i ln o).a.length<=4000
 | 0,s,i,ln,o,_,h1,h2=>⟨h1,h2⟩
 | f+1,s,i,ln,o,hs,h1,h2=>by
  rw[KF]
  split
  ·exact⟨h1,h2⟩
  ·split
   ·exact⟨rfl,by simp⟩
   ·split
    ·exact⟨rfl,by simp⟩
    ·rename_i q1 e q3
     refine a3c f s _ _ _ hs ?_ (by simp;omega)
     unfold YE at h1 ⊢
     rw[List.all_append,h1,List.all_cons,List.all_nil,Bool.and_true,Bool.true_and]
     exact c1f rfl e (by rw[List.length_drop];omega) _ _
theorem U7(s:Str):YE (Z7 s).a=true∧(Z7 s).a.length<=4000:=by
 unfold Z7
 split
 ·exact⟨rfl,by simp⟩
 ·exact a3c _ _ _ _ _ (by omega) rfl (by simp)
theorem He(s:List UInt8):Zc (X9 s)=true:=by
 have h:=U7 ⟨s⟩
 unfold Zc X9
 dsimp only
 simp only[Bool.and_eq_true,decide_eq_true_eq]
 refine⟨h.2,Nat.zero_le _,?_⟩
 rw[List.all_eq_true]
 intro t ht
 have h3:=List.all_eq_true.1 h.1 t ht
 unfold a9w at h3
 simp only[Bool.and_eq_true,decide_eq_true_eq]at h3
 exact decide_eq_true h3.2.2.2
section
theorem c0s{s:PS}(h:YE s.l=true)(hi:s.i<s.l.length):a9w (s.peek 0)=true:=by
 rw[Px (k:=0) hi]
 exact List.all_eq_true.1 h _ (List.getElem_mem _)
theorem b0h{w:List UInt8}(h:nameI w=true):w.length<=30:=by
 cases w with
 | nil=>cases h
 | cons c r=>
  unfold nameI at h
  simp only[Bool.and_eq_true,decide_eq_true_eq]at h
  have:=h.1.2
  simp only[List.length_cons]
  omega
theorem b0s{w:Str}(h:nameB w=true):w.s.length<=30:=by
 obtain⟨w⟩:=w
 unfold nameB at h
 cases w with
 | nil=>cases h
 | cons c r=>
  dsimp only at h
  split at h
  ·simp only[Bool.and_eq_true,decide_eq_true_eq]at h
   have:=h.2
   simp only[List.length_cons]
   omega
  ·simp only[Bool.and_eq_true,decide_eq_true_eq]at h
   have:=h.2
   simp only[List.length_cons]
   omega
theorem a3a{s:PS}{w:Str}(h:(s.need w).bad=false):s.next w=true∧(s.need w).i=s.i+1:=by
 unfold PS.need at h ⊢
 split at h
 ·rename_i h1;rw[if_pos h1];exact⟨h1,rfl⟩
 ·cases h
theorem Gp{s:PS}(g:YE s.l=true)(h:s.name.2.bad=false):s.name.1.s.length<=30∧s.name.2.i=s.i+1:=by
 unfold PS.name at h ⊢
 split at h
 ·rename_i h1
  rw[if_pos h1]
  refine⟨?_,rfl⟩
  have h2:=c0s g (YR (s:=s) (by omega))
  unfold a9w at h2
  simp only[Bool.and_eq_true,Bool.or_eq_true,decide_eq_true_eq]at h2
  rcases h2.1 with h3|h3
  ·exact absurd h1 h3
  ·exact b0h h3
 ·cases h
theorem UE{s:PS}{m:Int}(h:(s.num m).2.bad=false):(s.num m).2.i=s.i+1:=by
 unfold PS.num at h ⊢
 split at h
 ·rename_i h1;rw[if_pos h1];rfl
 ·cases h
theorem CS{s:PS}(g:YE s.l=true)(hi:s.i<=s.l.length)(h:s.func.2.bad=false):s.func.1.s.length<=61∧s.i+1<=s.func.2.i:=by
 have q:=Ge.name hi
 unfold PS.func at h ⊢
 split at h
 ·rename_i h1
  rw[if_pos h1]
  have j:=Ge.step (Zj h1)
  have r:=Ge.name j.hi
  have n2:=Gp (by rw[j.l,q.l];exact g) h
  have k:=Gp g (j.good (r.good h))
  have e:s.name.2.step.i=s.name.2.i+1:=rfl
  refine⟨?_,?_⟩
  ·simp only[List.length_append,List.length_cons,List.length_nil];omega
  ·show s.i+1<=s.name.2.step.name.2.i;omega
 ·rename_i h1
  rw[if_neg h1]
  have k:=Gp g h
  refine⟨?_,?_⟩
  ·show s.name.1.s.length<=61;omega
  ·show s.i+1<=s.name.2.i;omega
theorem c1c: ∀ (l:List Coef),(∀ c∈l,c.v.s.length<=30)->(l.map wCf).sum<=32*l.length
 | [],_=>by simp
 | c::l,h=>by
  have h1:=c1c l fun c hc=>h c (List.mem_cons_of_mem _ hc)
  have h2:=h c (List.mem_cons_self ..)
  have e:wCf c=c.v.s.length+2:=rfl
  simp only[List.map_cons,List.sum_cons,List.length_cons]
  omega
theorem d0k{l:Lin}(h:ZA l=true):Cj l<=386:=by
 unfold ZA at h
 simp only[Bool.and_eq_true,decide_eq_true_eq]at h
 have h1:=c1c l.t fun c hc=>by
  have h2:=List.all_eq_true.1 h.1.1.1 c hc
  simp only[Bool.and_eq_true]at h2
  exact b0s h2.1.1
 unfold Cj
 omega
theorem Pg(a b:Lin)(k:Int):Cj (ZE a b k).1<=386:=by
 unfold ZE
 split
 ·split
  ·unfold RU
   split
   ·exact d0k ‹_›
   ·exact by decide
  ·exact by decide
 ·exact by decide
theorem e2g{s:PS}(j:YE s.l=true)(hi:s.i<=s.l.length)(h:s.item.2.bad=false):Cj s.item.1<=386∧s.i+1<=s.item.2.i:=by
 unfold PS.item at h ⊢
 split at h
 ·rename_i h1
  rw[if_pos h1]
  have g:=Gp j h
  refine⟨?_,?_⟩
  ·show([(⟨s.name.1,1⟩:Coef)].map wCf).sum+2<=386
   simp only[List.map_cons,List.map_nil,List.sum_cons,List.sum_nil]
   unfold wCf
   dsimp only
   omega
  ·show s.i+1<=s.name.2.i;omega
 ·rename_i h1
  rw[if_neg h1]
  have q:=Ge.num (m:=2147483648) hi
  split at h
  ·rename_i h2
   rw[if_pos h2]
   have g:=UE h2.2
   have k:=Ge.name q.hi
   have e : ∀ x,(s.num 2147483648).2.name.2.i<=((s.num 2147483648).2.name.2.note x).2.i:=fun x=>Nat.le_refl _
   refine⟨Pg _ _ _,?_⟩
   have:=e (WA (Jz (s.num 2147483648).2.name.1) (s.num 2147483648).1)
   have:=k.le
   omega
  ·rename_i h2
   rw[if_neg h2]
   have g:=UE h
   refine⟨?_,?_⟩
   ·show([].map wCf).sum+2<=386;simp
   ·show s.i+1<=(s.num 2147483648).2.i;omega
theorem Jm: ∀ (n:Nat) {s:PS} {l:Lin},YE s.l=true->s.i<=s.l.length->Cj l<=386->(linLoop n s l).2.bad=false->Cj (linLoop n s l).1<=386
 | 0,s,l,_,_,hl,_=>hl
 | n+1,s,l,hx,hi,hl,h=>by
  have g:=Ge.linLoop (n+1) (l:=l) hi
  rw[linLoop]at h g ⊢
  split at h
  ·rename_i h1;rw[if_pos h1];exact hl
  ·rename_i h1
   rw[if_neg h1]at g ⊢
   split at h
   ·rename_i h2
    rw[if_pos h2]at g ⊢
    have k:=Ge.step (Zj h2)
    have j:=Ge.item k.hi
    have q:=Ge.wide (b:=decide ((ZE l s.step.item.1 1).2≠0)) j.hi
    exact Jm n (by show YE s.step.item.2.l=true;rw[j.l,k.l];exact hx) q.hi (Pg _ _ _) h
   ·rename_i h2
    rw[if_neg h2]at g ⊢
    split at h
    ·rename_i h3
     rw[if_pos h3]at g ⊢
     have k:=Ge.step (Zj h3)
     have j:=Ge.item k.hi
     have q:=Ge.wide (b:=decide ((ZE l s.step.item.1 (-1)).2≠0)) j.hi
     exact Jm n (by show YE s.step.item.2.l=true;rw[j.l,k.l];exact hx) q.hi (Pg _ _ _) h
    ·rename_i h3
     rw[if_neg h3]
     exact hl
theorem d3x{s:PS}(k:YE s.l=true)(hi:s.i<=s.l.length)(h:s.linear.2.bad=false):Cj s.linear.1+260*s.i<=260*s.linear.2.i+130:=by
 have key:Cj s.linear.1<=386∧s.i+1<=s.linear.2.i:=by
  unfold PS.linear at h ⊢
  unfold PS.lin0 at h ⊢
  split at h
  ·rename_i h1
   rw[if_pos h1]
   have r:=Ge.step (Zj h1)
   have g:=Ge.item r.hi
   have u:=Ge.wide (b:=decide ((WA s.step.item.1 (-1)).2≠0)) g.hi
   have j:=Ge.linLoop (s.l.length+1) (l:=(WA s.step.item.1 (-1)).1) u.hi
   have z:=g.le
   have y:=j.le
   refine⟨Jm _ (by show YE s.step.item.2.l=true;rw[g.l,r.l];exact k) u.hi (Pg _ _ _) h,?_⟩
   exact Nat.le_trans z y
  ·rename_i h1
   rw[if_neg h1]
   have g:=Ge.item hi
   have j:=Ge.linLoop (s.l.length+1) (l:=s.item.1) g.hi
   have q:=e2g k hi (j.good h)
   refine⟨Jm _ (by rw[g.l];exact k) g.hi q.1 h,?_⟩
   exact Nat.le_trans q.2 j.le
 omega
section
variable {α:Type} {one:PS->α×PS} {B:PS->Prop} {f:α->Nat} {e:Nat}
theorem a2h(A:e<=260)(j : ∀ s t,B s->Ge s t->B t)(k : ∀ s,B s->s.i<=s.l.length->Ge s (one s).2)
  (y : ∀ s,YE s.l=true->B s->s.i<=s.l.length->(one s).2.bad=false->f (one s).1+260*s.i<=260*(one s).2.i+e) :
  ∀ (n:Nat) {s:PS} {o:List α},YE s.l=true->B s->s.i<=s.l.length->(moreL one n s o).2.bad=false->((moreL one n s o).1.map f).sum+260*s.i<=(o.map f).sum+260*(moreL one n s o).2.i
 | 0,s,o,_,_,_,_=>Nat.le_refl _
 | n+1,s,o,hx,hb,hi,h=>by
  rw[moreL]at h ⊢
  split at h
  ·rename_i h1;rw[if_pos h1];exact Nat.le_refl _
  ·rename_i h1
   rw[if_neg h1]
   split at h
   ·rename_i h2
    rw[if_pos h2]
    have q:=Ge.step (Zj h2)
    have b1:=j _ _ hb q
    have g:=k _ b1 q.hi
    have r:YE s.step.l=true:=hx
    have z:YE (one s.step).2.l=true:=by rw[g.l];exact r
    have b2:=j _ _ b1 g
    have C:=Ge.moreL j k n (o:=o++[(one s.step).1]) b2 g.hi
    have w1:=y _ r b1 q.hi (C.good h)
    have u:=a2h A j k y n (o:=o++[(one s.step).1]) z b2 g.hi h
    have e1:s.step.i=s.i+1:=rfl
    rw[List.map_append,List.sum_append]at u
    simp only[List.map_cons,List.map_nil,List.sum_cons,List.sum_nil]at u
    omega
   ·rename_i h2;rw[if_neg h2];exact Nat.le_refl _
theorem PG(y:e<=260)(k : ∀ s t,B s->Ge s t->B t)(j : ∀ s,B s->s.i<=s.l.length->Ge s (one s).2)
  (r : ∀ s,YE s.l=true->B s->s.i<=s.l.length->(one s).2.bad=false->f (one s).1+260*s.i<=260*(one s).2.i+e)
  {s:PS} (q:YE s.l=true) (hb:B s) (hi:s.i<=s.l.length) (h:(listL one s).2.bad=false):((listL one s).1.map f).sum+260*s.i<=260*(listL one s).2.i+e:=by
 have g:=j _ hb hi
 have b1:=k _ _ hb g
 have u:=Ge.moreL k j (s.l.length+1) (o:=[(one s).1]) b1 g.hi
 have w1:=r _ q hb hi (u.good h)
 have z:=a2h y k j r (s.l.length+1) (o:=[(one s).1]) (by rw[g.l];exact q) b1 g.hi h
 simp only[List.map_cons,List.map_nil,List.sum_cons,List.sum_nil]at z
 unfold listL
 omega
end
end
section
theorem a6q: ∀ ks:List Tm,Gv ks=(ks.map Qq).sum
 | []=>by rw[Gv];rfl
 | k::ks=>by rw[Gv,a6q ks];rfl
theorem WT(n:Nd)(ks:List Tm):Qq (.mk n ks)=Lm n+(ks.map Qq).sum:=by rw[Qq,a6q]
theorem c6o(k ln num:Int)(n:Str):Lm {Um k ln n with num:=num}=n.s.length+1:=by
 show n.s.length+0+0+0+0+0+1=_
 omega
theorem Cc(k ln:Int)(n:Str):Lm (Um k ln n)=n.s.length+1:=c6o k ln 0 n
theorem e8z(k ln:Int):Lm (Lr k ln)=1:=rfl
theorem c0v(ln num:Int)(n:Str)(sz:List Lin)(e:List Int):Lm {Ki with kind:=6,line:=ln,name:=n,num:=num,sizes:=sz,ranks:=e}=n.s.length+e.length+(sz.map Cj).sum+1:=by
 show n.s.length+0+0+0+e.length+(sz.map Cj).sum+1=_
 omega
theorem c7l(ln:Int)(a:Arr):Lm {Lr 3 ln with elem:=a.e,dims:=a.d,data:=a.x}=a.e.s.length+a.d.length+a.x.length+1:=by
 show 0+a.e.s.length+a.d.length+a.x.length+0+0+1=_
 omega
theorem b2m(ln:Int)(l:Lin):Lm {Lr 4 ln with sizes:=[l]}=Cj l+1:=by
 show 0+0+0+0+0+(Cj l+0)+1=_
 omega
theorem a3h: ∀ (n:Nat) {s:PS} {o:List Int},s.i<=s.l.length->(numsP n s o).2.bad=false->(numsP n s o).1.length+s.i<=o.length+(numsP n s o).2.i
 | 0,s,o,_,_=>Nat.le_refl _
 | n+1,s,o,hi,h=>by
  rw[numsP]at h ⊢
  split at h
  ·rename_i h1
   rw[if_pos h1]
   have e:=Ge.num (m:=2147483648) hi
   have g:=Ge.numsP n (o:=o++[(s.num 2147483648).1]) e.hi
   have n1:=UE (g.good h)
   have w:=a3h n (o:=o++[(s.num 2147483648).1]) e.hi h
   rw[List.length_append]at w
   simp only[List.length_cons,List.length_nil]at w
   omega
  ·rename_i h1;rw[if_neg h1];exact Nat.le_refl _
theorem b6j: ∀ (n:Nat) {s:PS} {o:List Int},s.i<=s.l.length->(datP n s o).2.bad=false->(datP n s o).1.length+s.i<=o.length+(datP n s o).2.i
 | 0,s,o,_,_=>Nat.le_refl _
 | n+1,s,o,hi,h=>by
  rw[datP]at h ⊢
  split at h
  ·rename_i h1;rw[if_pos h1];exact Nat.le_refl _
  ·rename_i h1
   rw[if_neg h1]
   split at h
   ·rename_i h2;rw[if_pos h2];exact Nat.le_refl _
   ·rename_i h2
    rw[if_neg h2]
    have e:=Ge.sgs hi
    have g:=Ge.num (m:=2147483648) e.hi
    have j:=Ge.datP n (o:=o++[IntKind.i64.wrap (s.sgn*(s.sgs.num 2147483648).1)]) g.hi
    have n1:=UE (j.good h)
    have w:=b6j n (o:=o++[IntKind.i64.wrap (s.sgn*(s.sgs.num 2147483648).1)]) g.hi h
    have e0:=e.le
    rw[List.length_append]at w
    simp only[List.length_cons,List.length_nil]at w
    omega
theorem e7h{s:PS}(hi:s.i<=s.l.length)(h:s.arr.2.bad=false):s.arr.1.e.s.length+s.arr.1.d.length+s.arr.1.x.length+s.i<=4+s.arr.2.i:=by
 have k0:=Ge.ar0 hi
 have k:=Ge.ar1 hi
 have r:=Ge.ar2 hi
 have k2':Ge s.ar1 s.ar2.2:=Ge.numsP _ k.hi
 have j:=Ge.need (w:=⟨[58]⟩) r.hi
 have g:Ge (s.ar2.2.need ⟨[58]⟩) s.ar3.2:=Ge.datP _ j.hi
 have q:=Ge.need (w:=⟨[93]⟩) g.hi
 have b3:s.ar3.2.bad=false:=q.good h
 have u:=g.good b3
 have b2:=j.good u
 have A:s.ar3.1.length+(s.ar2.2.need ⟨[58]⟩).i<=([]:List Int).length+s.ar3.2.i:=b6j _ j.hi b3
 have z:s.ar2.1.length+s.ar1.i<=([]:List Int).length+s.ar2.2.i:=a3h _ k.hi b2
 have e1:=k.le
 have e2:=j.le
 have e3:=q.le
 have el:s.arr.1.e.s.length<=4:=by
  show(⟨if s.arB then Xv else WW⟩:Str).s.length<=4
  cases s.arB <;> decide
 have C:s.arr.1.d=s.ar2.1:=rfl
 have y:s.arr.1.x=s.ar3.1:=rfl
 have B:s.arr.2.i=(s.ar3.2.need ⟨[93]⟩).i:=rfl
 rw[C,y,B]
 simp only[List.length_nil]at z A
 omega
theorem ones(l:List Int):(l.map fun _=>1).sum=l.length:=by
 induction l with
 | nil=>rfl
 | cons a l ih=>simp only[List.map_cons,List.sum_cons,List.length_cons,ih];omega
theorem c6a{s:PS}(g:YE s.l=true)(hi:s.i<=s.l.length)(h:s.sizesN.2.bad=false):(s.sizesN.1.map Cj).sum+260*s.i<=260*s.sizesN.2.i:=by
 unfold PS.sizesN at h ⊢
 split at h
 ·rename_i h1
  rw[if_pos h1]
  have k:=Ge.step (Zj h1)
  have q:=Ge.list (one:=PS.linear) (fun s h=>Ge.linear h) k.hi
  have r:=Ge.need (w:=⟨[93]⟩) q.hi
  have w:=PG (one:=PS.linear) (B:=fun _=>True) (f:=Cj) (e:=130) (by omega) (fun _ _ _ _=>trivial) (fun s _ h=>Ge.linear h) (fun s g _ hi h=>d3x g hi h) (s:=s.step) g trivial k.hi (r.good h)
  have j:=(a3a h).2
  have e1:s.step.i=s.i+1:=rfl
  show((listL PS.linear s.step).1.map Cj).sum+260*s.i<=260*((listL PS.linear s.step).2.need ⟨[93]⟩).i
  have j:((listL PS.linear s.step).2.need ⟨[93]⟩).i=(listL PS.linear s.step).2.i+1:=j
  omega
 ·rename_i h1;rw[if_neg h1];exact Nat.le_of_eq (Nat.zero_add _)
theorem c7i{s:PS}(k:YE s.l=true)(hi:s.i<=s.l.length)(h:s.ranksN.2.bad=false):s.ranksN.1.length+260*s.i<=260*s.ranksN.2.i:=by
 unfold PS.ranksN at h ⊢
 split at h
 ·rename_i h1
  rw[if_pos h1]
  have j:=Ge.step (Zj h1)
  have g:=Ge.need (w:=⟨[40]⟩) j.hi
  have r:=Ge.list (one:=PS.numM) (fun s h=>Ge.num h) g.hi
  have q:=Ge.need (w:=⟨[41]⟩) r.hi
  have w:=PG (one:=PS.numM) (B:=fun _=>True) (f:=fun _=>1) (e:=0) (by omega) (fun _ _ _ _=>trivial) (fun s _ h=>Ge.num h) (fun s k _ hi h=>by have:=UE (s:=s) (m:=2147483648) h;show 1+260*s.i<=260*(s.num 2147483648).2.i+0;omega) (s:=s.step.need ⟨[40]⟩) (by rw[g.l,j.l];exact k) trivial g.hi (q.good h)
  rw[ones]at w
  have e1:=j.le
  have e2:=g.le
  have e4:=q.le
  show(listL PS.numM (s.step.need ⟨[40]⟩)).1.length+260*s.i<=260*((listL PS.numM (s.step.need ⟨[40]⟩)).2.need ⟨[41]⟩).i
  omega
 ·rename_i h1;rw[if_neg h1];exact Nat.le_of_eq (Nat.zero_add _)
def WX(N:Nat)(ex:PS->Tm×PS):Prop:= ∀ s,YE s.l=true->Yr N s->s.i<=s.l.length->(ex s).2.bad=false->Qq (ex s).1+260*s.i<=260*(ex s).2.i
def WU(N:Nat)(un:PS->(Tm×Int)×PS):Prop:= ∀ s,YE s.l=true->Yr N s->s.i<=s.l.length->(un s).2.bad=false->Qq (un s).1.1+260*s.i<=260*(un s).2.i
section
variable {N:Nat} {ex:PS->Tm×PS}
theorem b9l(j:K3 N ex)(u:WX N ex){s:PS}(r:YE s.l=true)(g:Yr N s)(hi:s.i<=s.l.length)(h:(listL ex s).2.bad=false):((listL ex s).1.map Qq).sum+260*s.i<=260*(listL ex s).2.i:=
 PG (one:=ex) (B:=Yr N) (f:=Qq) (e:=0) (by omega) (fun s t h k=>h.ge k) (fun s h k=>j s h k) (fun s q b i h=>u s q b i h) r g hi h
theorem d5a(j:K3 N ex)(C:WX N ex){s:PS}(A:YE s.l=true)(y:Yr N s)(hi:s.i<=s.l.length)(h:(Xt ex s).2.bad=false):((Xt ex s).1.map Qq).sum+260*s.i<=260*(Xt ex s).2.i:=by
 have e:=Ge.need (w:=⟨[40]⟩) hi
 have D:=Ge.need (w:=⟨[41]⟩) e.hi
 have e1:=e.le
 have e3:=D.le
 unfold Xt at h ⊢
 split at h
 ·rename_i q;rw[if_pos q];show 0+260*s.i<=260*((s.need ⟨[40]⟩).need ⟨[41]⟩).i;omega
 ·rename_i q
  rw[if_neg q]
  split at h
  ·rename_i g;rw[if_pos g];show 0+260*s.i<=260*((s.need ⟨[40]⟩).need ⟨[41]⟩).i;omega
  ·rename_i g
   rw[if_neg g]
   have r:=y.ge e
   have z:=Ge.listL (B:=Yr N) (fun s t h k=>h.ge k) (fun s h k=>j s h k) r e.hi
   have u:=Ge.need (w:=⟨[41]⟩) z.hi
   have w:=b9l j C (by rw[e.l];exact A) r e.hi (u.good h)
   have e4:=u.le
   show((listL ex (s.need ⟨[40]⟩)).1.map Qq).sum+260*s.i<=260*((listL ex (s.need ⟨[40]⟩)).2.need ⟨[41]⟩).i
   omega
theorem d2e(q:K3 N ex)(B:WX N ex){ln:Int}{n:Str}{s:PS}(j:YE s.l=true)(z:Yr N s)(hi:s.i<=s.l.length)(h:(WB ex ln n s).2.bad=false):Qq (WB ex ln n s).1+260*s.i<=n.s.length+1+260*(WB ex ln n s).2.i:=by
 have k:=Ge.sizesN hi
 have e:=Ge.frameN k.hi
 have g:=Ge.ranksN e.hi
 have r:=k.trans (e.trans g)
 have u:=z.ge r
 have A:=Ge.kids q u g.hi
 have y:(Xt ex s.sizesN.2.frameN.2.ranksN.2).2.bad=false:=h
 have b3:=A.good y
 have b2:=g.good b3
 have b1:=e.good b2
 have w1:=c6a j hi b1
 have w3:=c7i (s:=s.sizesN.2.frameN.2) (by rw[e.l,k.l];exact j) e.hi b3
 have w4:=d5a q B (s:=s.sizesN.2.frameN.2.ranksN.2) (by rw[r.l];exact j) u g.hi y
 have e2:=e.le
 show Qq (.mk {Ki with kind:=6,line:=ln,name:=n,num:=s.sizesN.2.frameN.1,sizes:=s.sizesN.1,ranks:=s.sizesN.2.frameN.2.ranksN.1} (Xt ex s.sizesN.2.frameN.2.ranksN.2).1)+260*s.i<=n.s.length+1+260*(Xt ex s.sizesN.2.frameN.2.ranksN.2).2.i
 rw[WT,c0v]
 omega
theorem c6q(g:K3 N ex)(B:WX N ex){s:PS}(e:YE s.l=true)(u:Yr (N+1) s)(r:(s.peek 0).k=1)(h:(YX ex s).2.bad=false):Qq (YX ex s).1+260*s.i<=260*(YX ex s).2.i:=by
 have hi:=YR (s:=s) (by omega)
 have A:=Ge.step hi
 have h1:=Ge.func1 r
 have y:=A.trans h1
 unfold YX at h ⊢
 split at h
 ·rename_i q
  rw[if_pos q]
  have z:=CS e (by omega) h
  rw[WT,Cc]
  show s.func.1.s.length+1+0+260*s.i<=260*s.func.2.i
  omega
 ·rename_i q
  rw[if_neg q]
  have j:Yr N s.func.2:=(u.step hi).ge h1
  have C:=Ge.callB g (ln:=(s.peek 0).ln) (n:=s.func.1) j h1.hi
  have z:=CS e (by omega) (C.good h)
  have w:=d2e g B (ln:=(s.peek 0).ln) (n:=s.func.1) (s:=s.func.2) (by rw[y.l];exact e) j h1.hi h
  omega
theorem d9s(z:K3 N ex)(F:WX N ex){ln:Int}{s:PS}(q:YE s.l=true)(I:Yr N s)(hi:s.i<=s.l.length)(h:(Ga ex ln s).2.bad=false):Qq (Ga ex ln s).1+260*s.i<=260*(Ga ex ln s).2.i:=by
 have g:=Ge.need (w:=⟨[40]⟩) hi
 have A:=Ge.func g.hi
 have j:=Ge.need (w:=⟨[44]⟩) A.hi
 have k:=g.trans (A.trans j)
 have r:=I.ge k
 have u:=z _ r j.hi
 have e:=Ge.need (w:=⟨[44]⟩) u.hi
 have B:=u.trans e
 have y:=r.ge B
 have H:=z _ y e.hi
 have E:=Ge.need (w:=⟨[41]⟩) H.hi
 have D:=E.good h
 have J:=H.good D
 have C:=e.good J
 have b3:=u.good C
 have n1:=CS (s:=s.need ⟨[40]⟩) (by rw[g.l];exact q) g.hi (j.good b3)
 have w4:=F _ (by rw[k.l];exact q) r j.hi C
 have w6:=F _ (by rw[B.l,k.l];exact q) y e.hi D
 have e1:=g.le
 have e3:=j.le
 have e5:=e.le
 have e7:=E.le
 unfold Ga
 dsimp only
 rw[WT,Cc]
 simp only[List.map_cons,List.map_nil,List.sum_cons,List.sum_nil]
 omega
theorem e2f(B:K3 N ex)(C:WX N ex){ln:Int}{s:PS}(r:YE s.l=true)(A:Yr N s)(hi:s.i<=s.l.length)(h:(H8 ex ln s).2.bad=false):Qq (H8 ex ln s).1+260*s.i<=260*(H8 ex ln s).2.i:=by
 have e:=Ge.need (w:=⟨[40]⟩) hi
 have j:=Ge.func e.hi
 have g:=Ge.need (w:=⟨[44]⟩) j.hi
 have q:=e.trans (j.trans g)
 have u:=A.ge q
 have z:=B _ u g.hi
 have y:=Ge.need (w:=⟨[41]⟩) z.hi
 have k:=y.good h
 have b3:=z.good k
 have n1:=CS (s:=s.need ⟨[40]⟩) (by rw[e.l];exact r) e.hi (g.good b3)
 have w4:=C _ (by rw[q.l];exact r) u g.hi k
 have e1:=e.le
 have e3:=g.le
 have e5:=y.le
 unfold H8
 dsimp only
 rw[WT,Cc]
 simp only[List.map_cons,List.map_nil,List.sum_cons,List.sum_nil]
 omega
theorem d2r{ln:Int}{s:PS}(j:YE s.l=true)(hi:s.i<=s.l.length)(h:(Km ln s).2.bad=false):Qq (Km ln s).1+260*s.i<=260*(Km ln s).2.i:=by
 have e:=Ge.need (w:=⟨[91]⟩) hi
 have k:=Ge.linear e.hi
 have q:=Ge.need (w:=⟨[93]⟩) k.hi
 have g:=(a3a h).2
 have w:=d3x (s:=s.need ⟨[91]⟩) (by rw[e.l];exact j) e.hi (q.good h)
 have e1:=e.le
 unfold Km at g ⊢
 dsimp only at g ⊢
 rw[WT,b2m]
 show Cj (s.need ⟨[91]⟩).linear.1+1+0+260*s.i<=260*((s.need ⟨[91]⟩).linear.2.need ⟨[93]⟩).i
 omega
end
section
variable {N:Nat} {ex:PS->Tm×PS}
theorem d6x(r:K3 N ex)(C:WX N ex){s:PS}(u:YE s.l=true)(y:Yr (N+1) s)(hi:s.i<=s.l.length)(h:(Y4 ex s).2.bad=false):Qq (Y4 ex s).1+260*s.i<=260*(Y4 ex s).2.i:=by
 by_cases q1:(s.peek 0).k=3
 ·rw[show Y4 ex s=(.mk {Um 2 (s.peek 0).ln ⟨WW⟩with num:=(s.num 2147483647).1} [],(s.num 2147483647).2)from if_pos q1]at h ⊢
  have n:=UE h
  rw[WT,c6o]
  show 3+1+0+260*s.i<=260*(s.num 2147483647).2.i
  omega
 by_cases q2:(s.peek 0).k=1
 ·rw[show Y4 ex s=YX ex s from(if_neg q1).trans (if_pos q2)]at h ⊢
  exact c6q r C u y q2 h
 unfold Y4 at h ⊢
 dsimp only at h ⊢
 rw[if_neg q1,if_neg q2]at h ⊢
 split at h
 ·rename_i q;rw[if_pos q,WT,c6o]
  show 4+1+0+260*s.i<=260*(s.i+1)
  omega
 ·rename_i q;rw[if_neg q]
  split at h
  ·rename_i q;rw[if_pos q,WT,Cc]
   show 4+1+0+260*s.i<=260*(s.i+1)
   omega
  ·rename_i q;rw[if_neg q]
   split at h
   ·rename_i q;rw[if_pos q]
    have g:=Zj q
    have j:=Ge.step g
    have z:=y.step g
    have A:=r _ z j.hi
    have D:=Ge.need (w:=⟨[41]⟩) A.hi
    have w:=C s.step u z j.hi (D.good h)
    have F:=D.le
    have E:s.step.i=s.i+1:=rfl
    show Qq (ex s.step).1+260*s.i<=260*((ex s.step).2.need ⟨[41]⟩).i
    omega
   ·rename_i q;rw[if_neg q]
    split at h
    ·rename_i q;rw[if_pos q]
     have g:=Zj q
     have j:=Ge.step g
     have z:=y.step g
     have A:=Ge.listL (B:=Yr N) (fun s t h k=>h.ge k) (fun s h k=>r s h k) z j.hi
     have D:=Ge.need (w:=⟨[93]⟩) A.hi
     have w:=b9l r C (s:=s.step) u z j.hi (D.good h)
     have F:=D.le
     have E:s.step.i=s.i+1:=rfl
     rw[WT,e8z]
     show 1+((listL ex s.step).1.map Qq).sum+260*s.i<=260*((listL ex s.step).2.need ⟨[93]⟩).i
     omega
    ·rename_i q;rw[if_neg q]
     have E:s.step.i=s.i+1:=rfl
     split at h
     ·rename_i q;rw[if_pos q]
      have g:=Zj q
      have w:=d9s r C (ln:=(s.peek 0).ln) (s:=s.step) u (y.step g) (Ge.step g).hi h
      omega
     ·rename_i q;rw[if_neg q]
      split at h
      ·rename_i q;rw[if_pos q]
       have g:=Zj q
       have w:=e2f r C (ln:=(s.peek 0).ln) (s:=s.step) u (y.step g) (Ge.step g).hi h
       omega
      ·rename_i q;rw[if_neg q]
       split at h
       ·rename_i q;rw[if_pos q]
        have g:=Zj q
        have w:=d2r (ln:=(s.peek 0).ln) (s:=s.step) u (Ge.step g).hi h
        omega
       ·rename_i q;rw[if_neg q]
        split at h
        ·rename_i q;rw[if_pos q]
         have g:=Zj q
         have j:=Ge.step g
         have A:=Ge.arr j.hi
         have e2:=A.le
         have w:=e7h (s:=s.step) j.hi h
         rw[WT,c7l]
         show s.step.arr.1.e.s.length+s.step.arr.1.d.length+s.step.arr.1.x.length+1+0+260*s.i<=260*s.step.arr.2.i
         omega
        ·cases h
theorem a2a(w:Str)(u:Bool):(Us w u).a.s.length<=61:=by
 unfold Us
 split
 ·rename_i r hr
  have h1:r∈Qp:=List.mem_of_find?_eq_some hr
  have h2 : ∀ r∈Qp,r.n.length<=61:=by decide
  exact h2 r h1
 ·exact Nat.zero_le _
theorem e4q(u:K3 N ex)(y:WX N ex){un:PS->(Tm×Int)×PS}(hu:AQ N un)(r:WU N un){s:PS}(k:YE s.l=true)(j:Yr (N+1) s)(hi:s.i<=s.l.length)(h:(Ue ex un s).2.bad=false):Qq (Ue ex un s).1.1+260*s.i<=260*(Ue ex un s).2.i:=by
 have e1:s.step.i=s.i+1:=rfl
 unfold Ue at h ⊢
 dsimp only at h ⊢
 split at h
 ·rename_i q
  rw[if_pos q]
  have n:=UE h
  rw[WT,c6o]
  show 3+1+0+260*s.i<=260*(s.step.num 2147483648).2.i
  omega
 ·rename_i q
  rw[if_neg q]
  split at h
  ·rename_i e
   rw[if_pos e]
   have g:s.i<s.l.length:=by
    simp only[Bool.or_eq_true]at e
    rcases e with e|e
    ·exact Zj e
    ·exact Zj e
   have w:=r s.step k (j.step g) (Ge.step g).hi h
   have l1:=a2a (s.peek 0).t true
   rw[WT,Cc]
   simp only[List.map_cons,List.map_nil,List.sum_cons,List.sum_nil]
   show(Us (s.peek 0).t true).a.s.length+1+(Qq (un s.step).1.1+0)+260*s.i<=260*(un s.step).2.i
   omega
  ·rename_i e
   rw[if_neg e]
   exact d6x u y k j hi h
theorem c4p(s:PS):s.oper.1.1.s.length<=61:=by
 unfold PS.oper
 split
 ·exact a2a _ _
 ·exact Nat.zero_le _
theorem MP{e:PS->(Tm×Int)×PS}{lev ln:Int}(z:lev≠0)(hu:AQ (N+1) e)(u:WU (N+1) e): ∀ (n:Nat) {s:PS} {l:Tm},YE s.l=true->Yr (N+1) s->s.i<=s.l.length->(opLoop e lev ln n s l).2.bad=false->Qq (opLoop e lev ln n s l).1.1+260*s.i<=Qq l+260*(opLoop e lev ln n s l).2.i
 | 0,s,l,_,_,_,_=>Nat.le_refl _
 | n+1,s,l,hl,hf,hi,h=>by
  rw[opLoop]at h ⊢
  split at h
  ·rename_i q;rw[if_pos q];exact Nat.le_refl _
  ·rename_i q
   rw[if_neg q]
   split at h
   ·rename_i q;rw[if_pos q];exact Nat.le_refl _
   ·rename_i B
    rw[if_neg B]
    have y:=Jt (s:=s) (by omega)
    have k:=Ge.step y
    have g:=hf.ge k
    have j:=hu _ g k.hi
    have l1:=c4p s
    have e1:s.step.i=s.i+1:=rfl
    split at h
    ·rename_i r
     rw[if_pos r]
     have w:=u s.step hl g k.hi h
     rw[WT,Cc]
     simp only[List.map_cons,List.map_nil,List.sum_cons,List.sum_nil]
     show s.oper.1.1.s.length+1+(Qq l+(Qq (e s.step).1.1+0))+260*s.i<=Qq l+260*(e s.step).2.i
     omega
    ·rename_i r
     rw[if_neg r]
     have C:=Ge.opLoop (ln:=ln) z hu n (l:=.mk (Um 6 ln s.oper.1.1) [l,(e s.step).1.1]) (g.ge j) j.hi
     have w:=u s.step hl g k.hi (C.good h)
     have A:=MP z hu u n (l:=.mk (Um 6 ln s.oper.1.1) [l,(e s.step).1.1]) (by rw[j.l];exact hl) (g.ge j) j.hi h
     rw[WT,Cc]at A
     simp only[List.map_cons,List.map_nil,List.sum_cons,List.sum_nil]at A
     omega
theorem a1v{un:PS->(Tm×Int)×PS}(hu:AQ (N+1) un)(j:WU (N+1) un): ∀ d:Nat,d<=5->WU (N+1) (YA un d)
 | 0,_=>j
 | d+1,hd=>fun s k g hi h=>by
  have i:=Ge.from hu d (by omega)
  have e:=i s g hi
  have q:=Ge.opLoop (ln:=(YA un d s).1.2) (lev:=5 - (d:Int)) (by omega) i (s.l.length+1) (l:=(YA un d s).1.1) (g.ge e) e.hi
  rw[YA]at h ⊢
  have w1:=a1v hu j d (by omega) s k g hi (q.good h)
  have w2:=MP (lev:=5 - (d:Int)) (by omega) i (a1v hu j d (by omega)) (s.l.length+1) (l:=(YA un d s).1.1) (by rw[e.l];exact k) (g.ge e) e.hi h
  omega
theorem e2s(B:K3 N ex)(F:WX N ex){un:PS->(Tm×Int)×PS}(hu:AQ (N+1) un)(J:WU (N+1) un){s:PS}(k:YE s.l=true)(A:Yr (N+1) s)(hi:s.i<=s.l.length)(h:(exB ex un s).2.bad=false):Qq (exB ex un s).1+260*s.i<=260*(exB ex un s).2.i:=by
 unfold exB at h ⊢
 dsimp only at h ⊢
 split at h
 ·rename_i q
  rw[if_pos q]
  have g:=Zj q
  have K:=Ge.step g
  have H:=A.step g
  have C:=Ge.name K.hi
  have j:=Ge.need (w:=⟨[61]⟩) C.hi
  have r:=C.trans j
  have u:=H.ge r
  have y:=B _ u j.hi
  have e:=Ge.need (w:=⟨[105,110]⟩) y.hi
  have D:=y.trans e
  have z:=u.ge D
  have L:=B _ z e.hi
  have I:=L.good h
  have E:=e.good I
  have b3:=y.good E
  have n1:=Gp (s:=s.step) k (j.good b3)
  have w4:=F _ (by rw[r.l];exact k) u j.hi E
  have w6:=F _ (by rw[D.l,r.l];exact k) z e.hi h
  have e1:s.step.i=s.i+1:=rfl
  have e3:=j.le
  have e5:=e.le
  rw[WT,Cc]
  simp only[List.map_cons,List.map_nil,List.sum_cons,List.sum_nil]
  omega
 ·rename_i q
  rw[if_neg q]
  exact a1v hu J 5 (by omega) s k A hi h
end
theorem a0r: ∀ N,WX N (ZR N)∧WU N (Uz N)
 | 0=>⟨fun t _ e=>by unfold Yr at e;omega,fun t _ e=>by unfold Yr at e;omega⟩
 | N+1=>by
  obtain⟨l,q⟩:=a0r N
  obtain⟨k,hu⟩:=XH N
  have j:=(XH (N+1)).2
  have g:WU (N+1) (Uz (N+1)):=fun t i e hi h=>by
   rw[QF]at h ⊢
   exact e4q k l hu q i e hi h
  exact⟨fun t i e hi h=>by
   rw[UG]at h ⊢
   exact e2s k l j g i e hi h,g⟩
theorem a6s{s:PS}(hs:Zc s=true)(q:YE s.l=true)(h:s.expr.2.bad=false):tW s.expr.1=true:=by
 have h1:=ZG hs
 have j:Yr 4001 s:=by unfold Yr;omega
 have w:=(a0r 4001).1 s q j h1.2 h
 have k:=Ge.expr j h1.2
 have g:=k.hi
 have e:=k.l
 unfold tW
 refine decide_eq_true ?_
 have w:Qq s.expr.1+260*s.i<=260*s.expr.2.i:=w
 have g:s.expr.2.i<=s.expr.2.l.length:=g
 have e:s.expr.2.l=s.l:=e
 rw[e]at g
 omega
end
open Enc (enc dec is)
open EncL (encL decL isL)
theorem c9x: ∀ (s:PS) (a:Unit),Zc s=true->Zb b2p 1 (Zn 1 a0d (ZQ [] [] (TG s a).1 (TG s a).2)) EN [] (Z4 e1j (Zr a) ([]++[Zo s])):=by
 rintro s ⟨⟩ hs
 show Zb b2p 1 (Zn 1 a0d (ZQ [] [] () s.endp)) EN [] _
 unfold PS.endp
 refine e7n s (X8 (fun h=>Hf hs ?_) fun h=> ?_)
 ·rw[if_pos (by rw[List.length_map]at h;omega)];exact Zt b1d
 ·rw[if_neg (by rw[List.length_map]at h;omega)];exact Zt b1d
theorem e4t{s:PS}{K:Unit->PS->Prop}(hs:Zc s=true)(h:K () s.endp):X7 Zr Yb [] [] (fun(s:PS) (_:Unit)=>Zc s) TG [.ptr 0 0] [Zo s] K:=YU ZO s () rfl rfl hs h
theorem Ge.endp{s:PS}(h:s.i<=s.l.length):Ge s s.endp:=by
 unfold PS.endp
 split
 ·exact Ge.fail h
 ·exact Ge.refl h
theorem c6b(s:List UInt8):Zb a6p 0 (Z0 0 PZ (fun r=>r=Ma [.pv (.str s)] [])) RY [] (Z4 b3h [.pv (.str s)] []):=
 e3t s ⟨Zl ((⟨s⟩:Str),()) rfl rfl,Zd ((⟨s⟩:Str),()) rfl rfl⟩
theorem e2a{s:PS}{K:TS->PS->Prop}(hs:Zc s=true)(h:K (UU s.expr.1) s.expr.2):X7 Zr Yb [] [] (fun(s:PS) (_:Unit)=>Zc s) Ni [.ptr 0 0] [Zo s] K:=YU ZO s () rfl rfl hs h
theorem Ge.exprA{s:PS}(hs:Zc s=true):Ge s s.expr.2:=Ge.expr (by have:=ZG hs;unfold Yr;omega) (ZG hs).2
theorem c3i{α:Type}[Enc α]{x:α}{a b:Int}{p:PV}(h:Zg x p):Zg (⟨x,a,b⟩:R3 α Int Int) (.tup [p,.int .i64 a,.int .i64 b]):=by
 refine⟨?_,?_⟩
 ·show(is α p&&true&&true)=true
  rw[h.1];rfl
 ·show(⟨dec p,a,b⟩:R3 α Int Int)=⟨x,a,b⟩
  rw[h.2]
theorem a4c:Zg (Tm.mk Ki []) (.agg [.int .i64 0,.int .i64 0,.str [],.int .i64 0,.str [],.sl 0 true [],.sl 0 true [],.sl 0 true [],.sl 0 true [],.sl 0 true []]):=a3x (K8 (YG rfl) (YG rfl) (YK rfl) (YG rfl) (YK rfl) Zx Zx Zx Zx Zx)
theorem e5r{f:Tm->Bool}{t:Tm}{p:PV}(h:Zg t p)(k:f t=true):preT (fun x:Tm×Unit=>f x.1) [p]=true:=NK (t,()) (by show(is Tm p&&true)=true;rw[h.1];rfl) (by show((dec p:Tm),())=_;rw[h.2]) k
theorem e8p{β:Type}[Enc β]{f:Tm->β}{t:Tm}{p:PV}{P:β->Prop}(h:Zg t p)(k:P (f t)): ∃ y,AV.pv (Zm (fun x:Tm×Unit=>f x.1) [p])=AV.pv (enc y)∧P y:=Ac (t,()) (by show((dec p:Tm),())=_;rw[h.2]) k
theorem d2g: ∀ x:Str×Unit,decide (x.1.s.length<=1048576)=true->Zb b5l 0 (Za OC (Zg (Yy x.1))) a0e [] (Yz e1f (encL x)):=by
 rintro⟨⟨s⟩,⟨⟩⟩ hs
 have hb:=He s
 have j:YE (X9 s).l=true:=(U7 ⟨s⟩).1
 have hl:=ZG hb
 have g:=Ge.exprA hb
 have e:=g.ok hb
 have i:=Ge.endp g.hi
 show Zb b5l 0 (Za OC (Zg (Yy ⟨s⟩))) a0e [] _
 unfold Yy
 refine e5t s ⟨rfl,Pn (fun h=> ?_) fun h=> ?_⟩
 ·rw[if_pos h];exact c3i a4c
 rw[if_neg (fun k=>k h)]
 refine e2a hb (e4t e (Z6 (fun h1=> ?_) fun h1=>Z6 (fun h2=> ?_) fun h2=>⟨e5r (QO (X9 s).expr.1) (e6i (a6s hb j (i.good h1))),e8p (QO (X9 s).expr.1) (Y5 (fun h3=> ?_) fun h3=> ?_)⟩))
 ·rw[if_pos h1];exact c3i a4c
 ·rw[if_neg (by rw[h1];decide),if_pos h2];exact c3i a4c
 ·rw[if_neg (by rw[h1];decide),if_neg (by rw[h2];decide),if_neg (by have h3:Y8 (X9 s).expr.1=false:=h3;rw[h3];decide)];exact c3i a4c
 ·rw[if_neg (by rw[h1];decide),if_neg (by rw[h2];decide),if_pos h3];exact c3i (QO _)
set_option maxRecDepth 100000
noncomputable def b6d:IC:=XU Proofs.Tryz.f137
def b9v:List IRes:=[(.cell true 2 2)]
abbrev e1w:Nat:=7
noncomputable def d4u:ZL:=Y3 []
theorem e4c{G:PV->Prop}(s:List UInt8)(h:G ((.agg [(.int .i64 0),(.sl 2 false [(.agg [(.str s),(.int .i64 1)])])]))):Zb d4u 0 (Za b9v G) b6d [] (Yz 7 [.str s]):=Zb.tp (.lit (.lit (.nil))) h
noncomputable def b5w:IC:=XU Proofs.Tryz.f98
def b6a:List IRes:=[(.tmp 2),(.tmp 3)]
abbrev d9o:Nat:=41
noncomputable def d3v:ZL:=Y3 [(95,.pure (preT (fun x:Str×Bool×Unit=>decide (x.1.s.length<=1048576))) (Zm (fun x:Str×Bool×Unit=>Yk x.1 x.2.1))),(123,.pure (preT (fun x:Str×Unit=>decide (x.1.s.length<=281474976710656))) (Zm (fun x:Str×Unit=>Yi x.1)))]
theorem e3g{G:PV->Prop}(s:List UInt8)(h:if (s==[])=true then G ((.tup [(.int .i64 0),(.bool false)]))else(if (decide ((↑(List.length s):Int)>10))=true then G ((.tup [(.int .i64 0),(.bool false)]))else((Go.Pl.preT (fun(x:Str×Bool×Unit)=>decide (List.length (Str.s x.1)<=1048576)) [(.str s),(.bool false)])=true∧(∃ i:Str,AV.pv (Zm (fun(x:Str×Bool×Unit)=>Yk x.1 x.2.1) [(.str s),(.bool false)])=AV.pv (enc i)∧(if (!Str.s i==s)=true then G ((.tup [(.int .i64 0),(.bool false)]))else((decide (0<=0)&&decide (Int.toNat 0<List.length s))=true∧(if ((↑(UInt8.toNat (List.getD s (Int.toNat 0) (0:UInt8))):Int)==48)=true then if (decide ((↑(List.length s):Int)>1))=true then G ((.tup [(.int .i64 0),(.bool false)]))else((Go.Pl.preT (fun(x:Str×Unit)=>decide (List.length (Str.s x.1)<=281474976710656)) [(.str s)])=true∧(∃ g:Int×Er,AV.pv (Zm (fun(x:Str×Unit)=>Yi x.1) [(.str s)])=AV.pv (enc g)∧((JF (enc g.2)&&Prod.fst (true,PV.bool !X4 (enc g.2)))=true∧(if (!X4 (enc g.2))=true then G ((.tup [(.int .i64 0),(.bool false)]))else(if (decide (g.1>2147483648))=true then G ((.tup [(.int .i64 0),(.bool false)]))else(G ((.tup [(.int .i64 g.1),(.bool true)]))))))))else((Go.Pl.preT (fun(x:Str×Unit)=>decide (List.length (Str.s x.1)<=281474976710656)) [(.str s)])=true∧(∃ e:Int×Er,AV.pv (Zm (fun(x:Str×Unit)=>Yi x.1) [(.str s)])=AV.pv (enc e)∧((JF (enc e.2)&&Prod.fst (true,PV.bool !X4 (enc e.2)))=true∧(if (!X4 (enc e.2))=true then G ((.tup [(.int .i64 0),(.bool false)]))else(if (decide (e.1>2147483648))=true then G ((.tup [(.int .i64 0),(.bool false)]))else(G ((.tup [(.int .i64 e.1),(.bool true)]))))))))))))))):Zb d3v 0 (Za b6a G) b5w [] (Yz 41 [.str s]):=Zb.tp (dm [dv Str,dv (Int×Er)] 126 0x1422202220044161222222000014222022200441610001422222201f42221202222220074222251202222222222200c42222022222222222222201042) h
def O7:IC:=(KH [YW 0 (.alloc (.agg [(.str []),(.str []),(.str []),(.str []),(.str []),(.str []),(.str []),(.str []),(.str []),(.str []),(.str []),(.str []),(.str []),(.str []),(.str []),(.str []),(.str []),(.str []),(.str []),(.str []),(.str []),(.str []),(.str []),(.str []),(.str []),(.str []),(.str []),(.str [])])) 0] (KH [YW 1 (.build [(.str []),(.str []),(.str []),(.str []),(.str []),(.str []),(.str []),(.str []),(.str []),(.str []),(.str []),(.str []),(.str []),(.str []),(.str []),(.str []),(.str []),(.str []),(.str []),(.str []),(.str []),(.str []),(.str []),(.str []),(.str []),(.str []),(.str []),(.str [])] [(0,(1,(.c (.str [46,46])))),(1,(1,(.c (.str [61,61])))),(2,(1,(.c (.str [33,61])))),(3,(1,(.c (.str [60,61])))),(4,(1,(.c (.str [62,61])))),(5,(1,(.c (.str [45,62])))),(6,(1,(.c (.str [38,38])))),(7,(1,(.c (.str [124,124])))),(8,(1,(.c (.str [40])))),(9,(1,(.c (.str [41])))),(10,(1,(.c (.str [91])))),(11,(1,(.c (.str [93])))),(12,(1,(.c (.str [123])))),(13,(1,(.c (.str [125])))),(14,(1,(.c (.str [44])))),(15,(1,(.c (.str [58])))),(16,(1,(.c (.str [46])))),(17,(1,(.c (.str [64])))),(18,(1,(.c (.str [35])))),(19,(1,(.c (.str [61])))),(20,(1,(.c (.str [60])))),(21,(1,(.c (.str [62])))),(22,(1,(.c (.str [43])))),(23,(1,(.c (.str [45])))),(24,(1,(.c (.str [42])))),(25,(1,(.c (.str [47])))),(26,(1,(.c (.str [37])))),(27,(1,(.c (.str [33]))))]) 0,o'' (.store 28 (.t 0) (.t 1)) 0] .ret))
def OZ:List IRes:=[(.cell true 28 0)]
abbrev e0u:Nat:=2
noncomputable def b2s:ZL:=Y3 []
theorem e6b{G:PV->Prop}(h:G ((.agg [(.str [(46:UInt8),(46:UInt8)]),(.str [(61:UInt8),(61:UInt8)]),(.str [(33:UInt8),(61:UInt8)]),(.str [(60:UInt8),(61:UInt8)]),(.str [(62:UInt8),(61:UInt8)]),(.str [(45:UInt8),(62:UInt8)]),(.str [(38:UInt8),(38:UInt8)]),(.str [(124:UInt8),(124:UInt8)]),(.str [(40:UInt8)]),(.str [(41:UInt8)]),(.str [(91:UInt8)]),(.str [(93:UInt8)]),(.str [(123:UInt8)]),(.str [(125:UInt8)]),(.str [(44:UInt8)]),(.str [(58:UInt8)]),(.str [(46:UInt8)]),(.str [(64:UInt8)]),(.str [(35:UInt8)]),(.str [(61:UInt8)]),(.str [(60:UInt8)]),(.str [(62:UInt8)]),(.str [(43:UInt8)]),(.str [(45:UInt8)]),(.str [(42:UInt8)]),(.str [(47:UInt8)]),(.str [(37:UInt8)]),(.str [(33:UInt8)])]))):Zb b2s 0 (Za OZ G) O7 [] (Yz 2 []):=Zb.tp (.nil) h
theorem d0f: ∀ x:Str×Unit,true=true->Zb d4u 0 (Za b9v (Zg (Jz x.1))) b6d [] (Yz e1w (encL x)):=by
 rintro⟨⟨s⟩,⟨⟩⟩ _
 exact e4c s (ZH (x:=Jz ⟨s⟩) rfl)
theorem c8r(ps:List PV)(h:Cy ps=true):Zb b2s 0 (Za OZ (fun p=>p=N7 ps)) O7 [] (Yz e0u ps):=by
 unfold Cy at h
 split at h
 ·exact e6b rfl
 ·cases h
theorem c0x{d:List UInt8}(l:d≠[])(hd:d.all digB=true)(k:d.length<=10):Yi ⟨d⟩=(VW d,⟨false⟩):=by
 cases d with
 | nil=>exact absurd rfl l
 | cons c r=>
  have h1:=hd
  simp only[List.all_cons,Bool.and_eq_true,Wo]at h1
  have hv:=NQ (c::r) 0 hd
  have hp:10 ^ (c::r).length<=10 ^ 10:=Nat.pow_le_pow_right (by omega) k
  have h:=GQ (c::r) 0 hd (by omega)
  have g:Lib.atoiAll (c::r) = .ok (QJ 0 (c::r):Int):=by
   have j : ¬ (c.toNat=43∨c.toNat=45):=by omega
   have i : ¬ c.toNat=45:=by omega
   simp only[Lib.atoiAll,if_neg j,Lib.parseMag,if_neg (show ¬ (c::r=[]) by simp),h]
   rw[if_neg (by omega),if_neg (fun e=>i e.1),if_neg i]
  simp only[Yi,g]
  rw[b2r _ _ rfl hd]
theorem Tg{p:UInt8->Bool}: ∀ {s:List UInt8},s.takeWhile p=s->s.all p=true
 | [],_=>rfl
 | c::s,h=>by
  rw[List.takeWhile_cons]at h
  split at h
  ·rename_i q
   rw[List.all_cons,q,Tg (List.cons.inj h).2];rfl
  ·cases h
theorem Rs{p:UInt8->Bool}: ∀ {s:List UInt8},s.all p=true->s.takeWhile p=s
 | [],_=>rfl
 | c::s,h=>by
  rw[List.all_cons,Bool.and_eq_true]at h
  rw[List.takeWhile_cons,if_pos h.1,Rs h.2]
theorem SV{n:Int}{b:Bool}:Zg ((n,b):Int×Bool) (.tup [.int .i64 n,.bool b]):=⟨rfl,rfl⟩
theorem d2m: ∀ x:Str×Unit,decide (x.1.s.length<=1048576)=true->Zb d3v 0 (Za b6a (Zg (Y6 x.1))) b5w [] (Yz d9o (encL x)):=by
 rintro⟨⟨s⟩,⟨⟩⟩ hs
 have hw:s.length<=1048576:=of_decide_eq_true hs
 have k:UB s=false->Y6 ⟨s⟩=(0,false):=fun h=>by unfold Y6;rw[h];rfl
 refine e3g s (Z5 (fun g=> ?_) fun g=>X8 (fun h1=> ?_) fun h1=>⟨Zl ((⟨s⟩:Str),false,()) rfl hs,Zd ((⟨s⟩:Str),false,()) rfl (Y5 (fun h2=> ?_) fun h2=> ?_)⟩)
 ·have g:s=[]:=g
  subst g
  exact SV
 ·rw[show Y6 ((⟨s⟩:Str),()).1=_ from k (by unfold UB;rw[decide_eq_false (show ¬ s.length<=10 by omega)];simp)]
  exact SV
 ·have h2:((Yk ⟨s⟩ false).s==s)=false:=h2
  have hd:s.all digB=false:=by
   cases e:s.all digB with
   | false=>rfl
   | true=>
    have u:(Yk ⟨s⟩ false).s=s:=Rs (p:=fun c=>digB c||(false&&lowB c)) (by
     rw[show(fun c=>digB c||(false&&lowB c))=digB from funext fun c=>by simp]
     exact e)
    rw[u]at h2
    simp at h2
  rw[show Y6 ((⟨s⟩:Str),()).1=_ from k (by unfold UB;rw[hd];simp)]
  exact SV
 ·have g:s≠[]:=g
  have h2:((Yk ⟨s⟩ false).s==s)=true:=h2
  have hd:s.all digB=true:=by
   have h3:(Yk ⟨s⟩ false).s=s:=by simpa using h2
   have:=Tg (p:=fun c=>digB c||(false&&lowB c)) (s:=s) h3
   rw[show(fun c=>digB c||(false&&lowB c))=digB from funext fun c=>by simp]at this
   exact this
  have l:s.length<=10:=by omega
  have hp:0<s.length:=List.length_pos_iff.2 g
  have y:s.isEmpty=false:=by cases s with|nil=>exact absurd rfl g|cons _ _=>rfl
  have ha:=c0x g hd l
  have last:(decide (s.head? = some 48)&&decide (1<s.length))=false->preT (fun(x:Str×Unit)=>decide (List.length (Str.s (Prod.fst x))<=281474976710656)) [(.str s)]=true∧ ∃ i:Int×Er,AV.pv (Zm (fun(x:Str×Unit)=>Yi (Prod.fst x)) [(.str s)])=AV.pv (enc i)∧((JF (enc (Prod.snd i))&&Prod.fst (true,PV.bool !X4 (enc (Prod.snd i))))=true∧(if (!X4 (enc (Prod.snd i)))=true then Zg (Y6 ⟨s⟩) (.tup [.int .i64 0,.bool false])else if decide (Prod.fst i>2147483648)=true then Zg (Y6 ⟨s⟩) (.tup [.int .i64 0,.bool false])else Zg (Y6 ⟨s⟩) (.tup [.int .i64 (Prod.fst i),.bool true]))):=fun j=>by
   refine⟨Zl ((⟨s⟩:Str),()) rfl (decide_eq_true (by show s.length<=281474976710656;omega)),Zd ((⟨s⟩:Str),()) rfl ?_⟩
   rw[show Yi ((⟨s⟩:Str),()).1=(VW s,⟨false⟩)from ha]
   refine⟨rfl,Yw (show ¬ (!X4 (enc (⟨false⟩:Er)))=true by decide) (X8 (fun h3=> ?_) fun h3=> ?_)⟩
   ·rw[k (by unfold UB;rw[decide_eq_false (show ¬ VW s<=2147483648 by omega),Bool.and_false])]
    exact SV
   ·rw[show Y6 ⟨s⟩=(VW s,true) by
     unfold Y6 UB
     rw[y,decide_eq_true l,hd,j,decide_eq_true (show VW s<=2147483648 by omega)]
     rfl]
    exact SV
  refine⟨by simp;omega,Z5 (fun h3=>X8 (fun q=> ?_) fun q=>last (by rw[decide_eq_false (show ¬ 1<s.length by omega),Bool.and_false])) fun h3=>last ?_⟩
  ·have j:s.head? = some 48:=by
    cases s with
    | nil=>exact absurd rfl g
    | cons c r=>
     have h3:(c.toNat:Int)=48:=h3
     have:c=48:=UInt8.toNat_inj.1 (by show c.toNat=48;omega)
     rw[this];rfl
   rw[show Y6 ((⟨s⟩:Str),()).1=_ from k (by unfold UB;rw[decide_eq_true j,decide_eq_true (show 1<s.length by omega)];simp)]
   exact SV
  ·have j:s.head? ≠ some 48:=by
    cases s with
    | nil=>exact absurd rfl g
    | cons c r=>
     have h3:(c.toNat:Int)≠48:=h3
     intro e
     have e:c=48:=by simpa using e
     rw[e]at h3
     exact h3 rfl
   rw[decide_eq_false j];rfl
end Go.Pl
namespace Go.Pl
open Go.RowKit
def Ye:List Str:=Ze.map Str.mk
theorem a6y(s:List UInt8)(a n:Nat):(s.drop a).getD n 0=s.getD (a+n) 0:=by
 rw[List.getD_eq_getElem?_getD,List.getD_eq_getElem?_getD,List.getElem?_drop]
theorem KZ: ∀ (f:Nat) (s:List UInt8) (a n:Nat),a<=s.length->ZJ f (s.drop a) n+a=ZJ f s (a+n)
 | 0,s,a,n,h=>by rw[ZJ,ZJ];omega
 | f+1,s,a,n,h=>by
  rw[ZJ,ZJ,List.length_drop,a6y,List.drop_drop]
  by_cases h1:s.length<=a+n
  ·rw[if_pos (show s.length - a<=n by omega),if_pos h1];omega
  ·rw[if_neg (show ¬ s.length - a<=n by omega),if_neg h1]
   split
   ·rw[KZ f s a (n+1) h];rfl
   ·split
    ·split
     ·omega
     ·rw[KZ f s a _ h,Nat.add_assoc]
    ·omega
theorem b5d{s:List UInt8}{n:Nat}(h:List.isPrefixOf [47,47] (s.drop n)=true)(k:0<=Lib.indexByte (s.drop n) 10):0<Lib.indexByte (s.drop n) 10:=by
 cases e:s.drop n with
 | nil=>rw[e]at h;cases h
 | cons c r=>
  rw[e]at h k
  refine b8y ?_ (by simp) k
  show c≠10
  intro q
  subst q
  cases r with
  | nil=>cases h
  | cons d r=>simp[List.isPrefixOf]at h
theorem JV: ∀ (f e:Nat) (s:List UInt8) (n:Nat),s.length<n+f->s.length<n+e->ZJ f s n=ZJ e s n
 | 0,e,s,n,h,h'=>by
  rw[ZJ]
  cases e with
  | zero=>rfl
  | succ e=>rw[ZJ,if_pos (by omega)]
 | f+1,0,s,n,h,h'=>by rw[ZJ,ZJ,if_pos (by omega)]
 | f+1,e+1,s,n,h,h'=>by
  rw[ZJ,ZJ]
  split
  ·rfl
  ·split
   ·exact JV f e s _ (by omega) (by omega)
   ·split
    ·split
     ·rfl
     ·rename_i g q2
      have h3:=b5d g (by omega)
      exact JV f e s _ (by omega) (by omega)
    ·rfl
theorem c7d{s:List UInt8}{a:Nat}(h:a<=s.length):ZJ (s.length+1) s a=a+(WV ⟨s.drop a⟩).toNat:=by
 unfold WV
 rw[Int.toNat_natCast]
 show _=a+ZJ ((s.drop a).length+1) (s.drop a) 0
 have e:=KZ ((s.drop a).length+1) s a 0 h
 rw[JV (s.length+1) ((s.drop a).length+1) s a (by omega) (by rw[List.length_drop];omega)]
 have e:ZJ ((s.drop a).length+1) (s.drop a) 0+a=ZJ ((s.drop a).length+1) s a:=e
 omega
theorem NU{s:List UInt8}{a:Nat}(h:a<=s.length):a<=ZJ (s.length+1) s a∧ZJ (s.length+1) s a<=s.length:=QD _ _ _ h
def Q5(s:List UInt8)(a b:Nat):Nat:=List.count 10 ((s.drop a).take (b - a))
theorem MJ(s:List UInt8)(a:Nat):Q5 s a a=0:=by unfold Q5;rw[Nat.sub_self];rfl
theorem NM{s:List UInt8}{a b c:Nat}(h1:a<=b)(h2:b<=c):Q5 s a c=Q5 s a b+Q5 s b c:=by
 unfold Q5
 rw[<- List.count_append]
 congr 1
 rw[show c - a=(b - a)+(c - b) by omega,List.take_add,List.drop_drop,show a+(b - a)=b by omega]
theorem a4h{s:List UInt8}{a:Nat}(h:a<s.length):Q5 s a (a+1)=if s[a]=10 then 1 else 0:=by
 unfold Q5
 rw[show a+1 - a=1 by omega,List.drop_eq_getElem_cons h]
 show List.count 10 [s[a]]=_
 rw[List.count_singleton]
 by_cases e:s[a]=10
 ·rw[e];rfl
 ·rw[if_neg e,if_neg (by simpa using e)]
theorem c7r(w s:List UInt8):w.isPrefixOf s=(decide (w.length<=s.length)&&(s.take w.length==w)):=by
 rw[Bool.eq_iff_iff]
 simp only[List.isPrefixOf_iff_prefix,Bool.and_eq_true,decide_eq_true_eq,beq_iff_eq]
 constructor
 ·intro h
  exact⟨h.length_le,(List.prefix_iff_eq_take.1 h).symm⟩
 ·intro h
  rw[List.prefix_iff_eq_take]
  exact h.2.symm
theorem e2r: ∀ w∈Ze,List.count 10 w=0:=by decide
theorem Me: ∀ (l:List (List UInt8)) (s:List UInt8),(∀ w∈l,List.count 10 w=0)->s.take (Zh l s).2.s.length=(Zh l s).2.s∧List.count 10 (Zh l s).2.s=0
 | [],s,_=>⟨rfl,rfl⟩
 | x::l,s,h=>by
  rw[Zh]
  split
  ·rename_i q
   exact⟨(List.prefix_iff_eq_take.1 (List.isPrefixOf_iff_prefix.1 q)).symm,h x (List.mem_cons_self ..)⟩
  ·exact Me l s fun w e=>h w (List.mem_cons_of_mem _ e)
theorem R5(s:Str)(b:Bool):s.s.take (Yk s b).s.length=(Yk s b).s∧List.count 10 (Yk s b).s=0:=by
 unfold Yk
 dsimp only
 refine⟨(List.prefix_iff_eq_take.1 (List.takeWhile_prefix _)).symm,?_⟩
 rw[List.count_eq_zero]
 intro h
 have e : ∀ (l:List UInt8),(10:UInt8) ∉ l.takeWhile fun c=>digB c||(b&&lowB c):=by
  intro l
  induction l with
  | nil=>simp
  | cons c l ih=>
   rw[List.takeWhile_cons]
   split
   ·rename_i q
    intro hm
    rcases List.mem_cons.1 hm with hm|hm
    ·rw[<- hm]at q
     revert q
     cases b <;> decide
    ·exact ih hm
   ·simp
 exact e _ h
theorem b0b(s:Str):s.s.take (Zu s).2.s.length=(Zu s).2.s∧List.count 10 (Zu s).2.s=0:=by
 unfold Zu
 split
 ·exact⟨rfl,rfl⟩
 ·split
  ·split
   ·exact R5 s true
   ·split
    ·exact R5 s true
    ·exact⟨rfl,rfl⟩
  ·split
   ·split
    ·exact R5 s false
    ·exact⟨rfl,rfl⟩
   ·exact Me Ze _ e2r
theorem a3b{s:List UInt8}{a:Nat}:Q5 s a (a+(Zu ⟨s.drop a⟩).2.s.length)=0:=by
 unfold Q5
 have h:=b0b ⟨s.drop a⟩
 rw[show a+(Zu ⟨s.drop a⟩).2.s.length - a=(Zu ⟨s.drop a⟩).2.s.length by omega,h.1]
 exact h.2
theorem JU{p:UInt8->Bool}: ∀ {s:List UInt8} {k:Nat},k<=s.length->(∀ c∈s.take k,p c=true)->(k=s.length∨p (s.getD k 0)=false)->s.take k=s.takeWhile p
 | [],k,hk,_,_=>by
  have:k=0:=by simpa using hk
  subst this;rfl
 | c::s,0,hk,_,h=>by
  rcases h with h|h
  ·cases h
  ·have h:p c=false:=h
   rw[List.takeWhile_cons,h];rfl
 | c::s,k+1,hk,hp,h=>by
  rw[List.take_succ_cons]at hp
  rw[List.take_succ_cons,List.takeWhile_cons,hp c (List.mem_cons_self ..),if_pos rfl]
  congr 1
  refine JU (by simpa using hk) (fun x e=>hp x (List.mem_cons_of_mem _ e)) ?_
  rcases h with h|h
  ·left;simpa using h
  ·right;exact h
def b2f(f:Nat)(s:List UInt8)(a:Nat)(ln:Int)(o:List Tok):R3 (List Tok) Int Int:=
 if a=s.length then⟨o,0,0⟩
 else if (Zu ⟨s.drop a⟩).1=0 then⟨[],(a:Nat),6⟩
 else if o.length=4000 then⟨[],(a:Nat),3⟩
 else KF f s (a+(Zu ⟨s.drop a⟩).2.s.length) ln (o++[⟨(Zu ⟨s.drop a⟩).1,(Zu ⟨s.drop a⟩).2,ln,(a:Nat)⟩])
theorem b4v{f:Nat}{s:List UInt8}{i a:Nat}{ln:Int}{o:List Tok}(hi:i<=s.length)(ha:a=ZJ (s.length+1) s i):KF (f+1) s i ln o=b2f f s a (ln+(Q5 s i a:Nat)) o:=by
 have e:=c7d hi
 rw[<- ha]at e
 have g:(WV ⟨s.drop i⟩).toNat=a - i:=by omega
 rw[KF]
 rw[g,show i+(a - i)=a by omega]
 unfold b2f Q5 Lib.countByte
 rfl
open Enc (enc dec is)
open EncL (encL decL isL)
set_option maxRecDepth 100000
abbrev a2d(ps:List PV)(k:Bool->Prop):Prop:=QN (fun(x:UInt8×Unit)=>true) (fun(x:UInt8×Unit)=>digB (Prod.fst x)) ps k
abbrev d4r(ps:List PV)(k:Bool->Prop):Prop:=QN (fun(x:UInt8×Unit)=>true) (fun(x:UInt8×Unit)=>lowB (Prod.fst x)) ps k
abbrev e3o(ps:List PV)(k:Str->Prop):Prop:=QN (fun(x:Str×Unit)=>decide (List.length (Str.s (Prod.fst x))<=1048576)) (fun(x:Str×Unit)=>Prod.snd (Zh Ze (Str.s (Prod.fst x)))) ps k
abbrev d2y(ps:List PV)(k:Bool->Prop):Prop:=ceP (fun(x:Str×Unit)=>List.contains Wx (Str.s (Prod.fst x))) ps k
abbrev d4o(ps:List PV)(k:Bool->Prop):Prop:=QN (fun(x:Str×Unit)=>decide (List.length (Str.s (Prod.fst x))<=1048576)) (fun(x:Str×Unit)=>nameI (Str.s (Prod.fst x))) ps k
abbrev d4p(ps:List PV)(k:Int×Bool->Prop):Prop:=QN (fun(x:Str×Unit)=>decide (List.length (Str.s (Prod.fst x))<=1048576)) (fun(x:Str×Unit)=>Y6 (Prod.fst x)) ps k
abbrev c3j(ps:List PV)(k:Int->Prop):Prop:=QN (fun(x:Str×Int×Unit)=>decide (List.length (Str.s (Prod.fst x))<=1048576)&&(decide (0<=Prod.fst (Prod.snd x))&&decide (Prod.fst (Prod.snd x)<=(↑(List.length (Str.s (Prod.fst x))):Int)))) (fun(x:Str×Int×Unit)=>(↑(ZJ (List.length (Str.s (Prod.fst x))+1) (Str.s (Prod.fst x)) (Int.toNat (Prod.fst (Prod.snd x)))):Int)) ps k
abbrev d4m(ps:List PV)(k:Tok->Prop):Prop:=QN (fun(x:Str×Unit)=>decide (List.length (Str.s (Prod.fst x))<=1048576)&& !List.isEmpty (Str.s (Prod.fst x))) (fun(x:Str×Unit)=>Tok.mk (Prod.fst (Zu (Prod.fst x))) (Prod.snd (Zu (Prod.fst x))) 0 0) ps k
noncomputable def Hl:IC:=XU Proofs.Tryz.f53
def JX:List IRes:=[(.tmp 2),(.tmp 3)]
abbrev d6v:Nat:=46
noncomputable def Sb:ZL:=Y3 [(43,.pure (preT (fun _:UInt8×Unit=>true)) (Zm (fun x:UInt8×Unit=>digB x.1)))]
theorem e6r{G:PV->Prop}(s:List UInt8)(h:At Sb 0 (Za JX G) Hl 0 46 [(0,(.pv (.str s))),(4,(.pv (.int .i64 0))),(5,(.pv (.int .i64 0)))] []):Zb Sb 0 (Za JX G) Hl [] (Yz 46 [.str s]):=Zb.tp (.nil) h
theorem b4a{G:PV->Prop}(s:List UInt8)(n:Int)(i:Nat)(h:if (decide ((↑i:Int)<(↑(List.length s):Int)))=true then(decide (0<=(↑i:Int))&&decide (Int.toNat (↑i:Int)<List.length s))=true∧((a2d [(.int IntKind.u8 (↑(UInt8.toNat (List.getD s (Int.toNat (↑i:Int)) (0:UInt8))):Int))] fun e=>(if (!e)=true then G ((.tup [(.int .i64 0),(.bool false)]))else(if (decide ((↑i:Int)>9))=true then G ((.tup [(.int .i64 0),(.bool false)]))else((decide (0<=(↑i:Int))&&decide (Int.toNat (↑i:Int)<List.length s))=true∧(At Sb 0 (Za JX G) Hl 0 46 [(0,(.pv (.str s))),(4,(.pv (.int .i64 (IntKind.wrap IntKind.i64 (IntKind.wrap IntKind.i64 (10*n)+IntKind.wrap IntKind.i64 (IntKind.wrap IntKind.u8 ((↑(UInt8.toNat (List.getD s (Int.toNat (↑i:Int)) (0:UInt8))):Int) - 48))))))),(5,(.pv (.int .i64 (IntKind.wrap IntKind.i64 ((↑i:Int)+1)))))] []))))))else(if (s==[])=true then G ((.tup [(.int .i64 0),(.bool false)]))else(if (decide ((↑(List.length s):Int)>1))=true then(decide (0<=0)&&decide (Int.toNat 0<List.length s))=true∧(if ((↑(UInt8.toNat (List.getD s (Int.toNat 0) (0:UInt8))):Int)==48)=true then G ((.tup [(.int .i64 0),(.bool false)]))else(if (decide (n>2147483648))=true then G ((.tup [(.int .i64 0),(.bool false)]))else(G ((.tup [(.int .i64 n),(.bool true)])))))else(if (decide (n>2147483648))=true then G ((.tup [(.int .i64 0),(.bool false)]))else(G ((.tup [(.int .i64 n),(.bool true)]))))))):At Sb 0 (Za JX G) Hl 0 46 [(0,.pv (.str s)),(4,.pv (.int .i64 n)),(5,.pv (.int .i64 (i:Int)))] []:=At.tp (dm [dv Bool] 93 0x1422222222200001422202220044222221201842222022222222200a42022212000142220222004451101942) h
noncomputable def J4:IC:=XU Proofs.Tryz.f54
def JQ:List IRes:=[(.tmp 2)]
abbrev e1h:Nat:=38
noncomputable def AJ:ZL:=Y3 []
theorem e7g{G:PV->Prop}(s:List UInt8)(h:At AJ 0 (Za JQ G) J4 0 38 [(0,(.pv (.str s))),(3,(.row 0 28 0 28)),(4,(.pv (.int .i64 0)))] [(.obj (.row false 9 1 [(.str [(46:UInt8),(46:UInt8)]),(.str [(61:UInt8),(61:UInt8)]),(.str [(33:UInt8),(61:UInt8)]),(.str [(60:UInt8),(61:UInt8)]),(.str [(62:UInt8),(61:UInt8)]),(.str [(45:UInt8),(62:UInt8)]),(.str [(38:UInt8),(38:UInt8)]),(.str [(124:UInt8),(124:UInt8)]),(.str [(40:UInt8)]),(.str [(41:UInt8)]),(.str [(91:UInt8)]),(.str [(93:UInt8)]),(.str [(123:UInt8)]),(.str [(125:UInt8)]),(.str [(44:UInt8)]),(.str [(58:UInt8)]),(.str [(46:UInt8)]),(.str [(64:UInt8)]),(.str [(35:UInt8)]),(.str [(61:UInt8)]),(.str [(60:UInt8)]),(.str [(62:UInt8)]),(.str [(43:UInt8)]),(.str [(45:UInt8)]),(.str [(42:UInt8)]),(.str [(47:UInt8)]),(.str [(37:UInt8)]),(.str [(33:UInt8)])]))]):Zb AJ 0 (Za JQ G) J4 [] (Yz 38 [.str s]):=Zb.tp (.lit (.nil)) h
theorem c0l{G:PV->Prop}(s:List UInt8)(i:Nat)(h:if (decide ((↑i:Int)<(↑(28 - 0):Int)))=true then(decide (0<=(↑i:Int))&&decide (0+Int.toNat (↑i:Int)<28)&&List.length (List.map enc Ye)==28)=true∧((List.length (List.map enc Ye)==28&&decide (0+Int.toNat (↑i:Int)<List.length (List.map enc Ye)))=true∧((decide (0+List.length [Sh.str]<=List.length (PV.cells (List.getD (List.map enc Ye) (0+Int.toNat (↑i:Int)) default)))&&Wy (PV.cells (List.getD (List.map enc Ye) (0+Int.toNat (↑i:Int)) default)) 0 [Sh.str])=true∧(if (decide ((↑(List.length s):Int) ≥ (↑(List.length (PV.asStr (List.getD (PV.cells (List.getD (List.map enc Ye) (0+Int.toNat (↑i:Int)) default)) 0 default))):Int)))=true then(decide (0<=(↑i:Int))&&decide (0+Int.toNat (↑i:Int)<28)&&List.length (List.map enc Ye)==28)=true∧((List.length (List.map enc Ye)==28&&decide (0+Int.toNat (↑i:Int)<List.length (List.map enc Ye)))=true∧((decide (0+List.length [Sh.str]<=List.length (PV.cells (List.getD (List.map enc Ye) (0+Int.toNat (↑i:Int)) default)))&&Wy (PV.cells (List.getD (List.map enc Ye) (0+Int.toNat (↑i:Int)) default)) 0 [Sh.str])=true∧((true&&decide (0<=(↑(List.length (PV.asStr (List.getD (PV.cells (List.getD (List.map enc Ye) (0+Int.toNat (↑i:Int)) default)) 0 default))):Int))&&decide (0<=Int.toNat (↑(List.length (PV.asStr (List.getD (PV.cells (List.getD (List.map enc Ye) (0+Int.toNat (↑i:Int)) default)) 0 default))):Int))&&decide (Int.toNat (↑(List.length (PV.asStr (List.getD (PV.cells (List.getD (List.map enc Ye) (0+Int.toNat (↑i:Int)) default)) 0 default))):Int)<=List.length s))=true∧((decide (0<=(↑i:Int))&&decide (0+Int.toNat (↑i:Int)<28)&&List.length (List.map enc Ye)==28)=true∧((List.length (List.map enc Ye)==28&&decide (0+Int.toNat (↑i:Int)<List.length (List.map enc Ye)))=true∧((decide (0+List.length [Sh.str]<=List.length (PV.cells (List.getD (List.map enc Ye) (0+Int.toNat (↑i:Int)) default)))&&Wy (PV.cells (List.getD (List.map enc Ye) (0+Int.toNat (↑i:Int)) default)) 0 [Sh.str])=true∧(if (List.drop 0 (List.take (Int.toNat (↑(List.length (PV.asStr (List.getD (PV.cells (List.getD (List.map enc Ye) (0+Int.toNat (↑i:Int)) default)) 0 default))):Int)) s)==PV.asStr (List.getD (PV.cells (List.getD (List.map enc Ye) (0+Int.toNat (↑i:Int)) default)) 0 default))=true then(decide (0<=(↑i:Int))&&decide (0+Int.toNat (↑i:Int)<28)&&List.length (List.map enc Ye)==28)=true∧((List.length (List.map enc Ye)==28&&decide (0+Int.toNat (↑i:Int)<List.length (List.map enc Ye)))=true∧((decide (0+List.length [Sh.str]<=List.length (PV.cells (List.getD (List.map enc Ye) (0+Int.toNat (↑i:Int)) default)))&&Wy (PV.cells (List.getD (List.map enc Ye) (0+Int.toNat (↑i:Int)) default)) 0 [Sh.str])=true∧(G ((.str (PV.asStr (List.getD (PV.cells (List.getD (List.map enc Ye) (0+Int.toNat (↑i:Int)) default)) 0 default)))))))else(At AJ 0 (Za JQ G) J4 0 38 [(0,(.pv (.str s))),(3,(.row 0 28 0 28)),(4,(.pv (.int .i64 (IntKind.wrap IntKind.i64 ((↑i:Int)+1)))))] [(.obj (.row false 9 1 (List.map enc Ye)))]))))))))else(At AJ 0 (Za JQ G) J4 0 38 [(0,(.pv (.str s))),(3,(.row 0 28 0 28)),(4,(.pv (.int .i64 (IntKind.wrap IntKind.i64 ((↑i:Int)+1)))))] [(.obj (.row false 9 1 (List.map enc Ye)))]))))else(G ((.str [])))):At AJ 0 (Za JQ G) J4 0 38 [(0,.pv (.str s)),(3,.row 0 28 0 28),(4,.pv (.int .i64 (i:Int)))] [.obj (.row false 9 1 (List.map enc Ye))]:=At.tp (dm [] 64 0x2222222222222202011310054222112312221221123122202142113103942) h
noncomputable def Ug:IC:=XU Proofs.Tryz.f32
def V8:List IRes:=[(.cell true 4 2)]
abbrev d7m:Nat:=80
noncomputable def KD:ZL:=Y3 [(42,.pure (preT (fun _:UInt8×Unit=>true)) (Zm (fun x:UInt8×Unit=>lowB x.1))),(43,.pure (preT (fun _:UInt8×Unit=>true)) (Zm (fun x:UInt8×Unit=>digB x.1))),(44,.pure (preT (fun _:Str×Unit=>true)) (Zm (fun x:Str×Unit=>Wx.contains x.1.s))),(20,.pure (preT (fun x:Str×Unit=>decide (x.1.s.length<=1048576))) (Zm (fun x:Str×Unit=>nameI x.1.s))),(53,.pure (preT (fun x:Str×Unit=>decide (x.1.s.length<=1048576))) (Zm (fun x:Str×Unit=>Y6 x.1))),(54,.pure (preT (fun x:Str×Unit=>decide (x.1.s.length<=1048576))) (Zm (fun x:Str×Unit=>(Zh Ze x.1.s).2)))]
theorem e5m{G:PV->Prop}(s:List UInt8)(h:(decide (0<=0)&&decide (Int.toNat 0<List.length s))=true∧((d4r [(.int IntKind.u8 (↑(UInt8.toNat (List.getD s (Int.toNat 0) (0:UInt8))):Int))] fun g=>(if (g)=true then At KD 0 (Za V8 G) Ug 0 80 [(0,(.pv (.str s))),(2,(.ptr 0 0)),(3,(.pv (.int .i64 0)))] [(.obj (.box [(.pv (.int .i64 0)),(.pv (.str [])),(.pv (.int .i64 0)),(.pv (.int .i64 0))]))]else((decide (0<=0)&&decide (Int.toNat 0<List.length s))=true∧((a2d [(.int IntKind.u8 (↑(UInt8.toNat (List.getD s (Int.toNat 0) (0:UInt8))):Int))] fun i=>(if (i)=true then At KD 0 (Za V8 G) Ug 1 80 [(0,(.pv (.str s))),(2,(.ptr 0 0)),(3,(.pv (.int .i64 0)))] [(.obj (.box [(.pv (.int .i64 0)),(.pv (.str [])),(.pv (.int .i64 0)),(.pv (.int .i64 0))]))]else((e3o [(.str s)] fun e=>(if (!Str.s e==[])=true then G ((.agg [(.int .i64 4),(.str (Str.s e)),(.int .i64 0),(.int .i64 0)]))else(G ((.agg [(.int .i64 0),(.str []),(.int .i64 0),(.int .i64 0)])))))))))))))):Zb KD 0 (Za V8 G) Ug [] (Yz 80 [.str s]):=Zb.tp (dm [dv Bool,dv Str] 26 0x142610001451100014511) h
theorem b9g{G:PV->Prop}(s:List UInt8)(k:Nat)(h:if (decide ((↑k:Int)<(↑(List.length s):Int)))=true then(decide (0<=(↑k:Int))&&decide (Int.toNat (↑k:Int)<List.length s))=true∧((d4r [(.int IntKind.u8 (↑(UInt8.toNat (List.getD s (Int.toNat (↑k:Int)) (0:UInt8))):Int))] fun e=>(if (e)=true then At KD 0 (Za V8 G) Ug 0 80 [(0,(.pv (.str s))),(2,(.ptr 0 0)),(3,(.pv (.int .i64 (IntKind.wrap IntKind.i64 ((↑k:Int)+1)))))] [(.obj (.box [(.pv (.int .i64 0)),(.pv (.str [])),(.pv (.int .i64 0)),(.pv (.int .i64 0))]))]else((decide (0<=(↑k:Int))&&decide (Int.toNat (↑k:Int)<List.length s))=true∧((a2d [(.int IntKind.u8 (↑(UInt8.toNat (List.getD s (Int.toNat (↑k:Int)) (0:UInt8))):Int))] fun j=>(if (j)=true then At KD 0 (Za V8 G) Ug 0 80 [(0,(.pv (.str s))),(2,(.ptr 0 0)),(3,(.pv (.int .i64 (IntKind.wrap IntKind.i64 ((↑k:Int)+1)))))] [(.obj (.box [(.pv (.int .i64 0)),(.pv (.str [])),(.pv (.int .i64 0)),(.pv (.int .i64 0))]))]else((true&&decide (0<=(↑k:Int))&&decide (0<=Int.toNat (↑k:Int))&&decide (Int.toNat (↑k:Int)<=List.length s))=true∧(d2y [(.str (List.drop 0 (List.take (Int.toNat (↑k:Int)) s)))] fun q=>(if (q)=true then(true&&decide (0<=(↑k:Int))&&decide (0<=Int.toNat (↑k:Int))&&decide (Int.toNat (↑k:Int)<=List.length s))=true∧(G ((.agg [(.int .i64 2),(.str (List.drop 0 (List.take (Int.toNat (↑k:Int)) s))),(.int .i64 0),(.int .i64 0)])))else((true&&decide (0<=(↑k:Int))&&decide (0<=Int.toNat (↑k:Int))&&decide (Int.toNat (↑k:Int)<=List.length s))=true∧((d4o [(.str (List.drop 0 (List.take (Int.toNat (↑k:Int)) s)))] fun g=>(if (g)=true then(true&&decide (0<=(↑k:Int))&&decide (0<=Int.toNat (↑k:Int))&&decide (Int.toNat (↑k:Int)<=List.length s))=true∧(G ((.agg [(.int .i64 1),(.str (List.drop 0 (List.take (Int.toNat (↑k:Int)) s))),(.int .i64 0),(.int .i64 0)])))else(G ((.agg [(.int .i64 0),(.str []),(.int .i64 0),(.int .i64 0)])))))))))))))))))else((true&&decide (0<=(↑k:Int))&&decide (0<=Int.toNat (↑k:Int))&&decide (Int.toNat (↑k:Int)<=List.length s))=true∧(d2y [(.str (List.drop 0 (List.take (Int.toNat (↑k:Int)) s)))] fun i=>(if (i)=true then(true&&decide (0<=(↑k:Int))&&decide (0<=Int.toNat (↑k:Int))&&decide (Int.toNat (↑k:Int)<=List.length s))=true∧(G ((.agg [(.int .i64 2),(.str (List.drop 0 (List.take (Int.toNat (↑k:Int)) s))),(.int .i64 0),(.int .i64 0)])))else((true&&decide (0<=(↑k:Int))&&decide (0<=Int.toNat (↑k:Int))&&decide (Int.toNat (↑k:Int)<=List.length s))=true∧((d4o [(.str (List.drop 0 (List.take (Int.toNat (↑k:Int)) s)))] fun l=>(if (l)=true then(true&&decide (0<=(↑k:Int))&&decide (0<=Int.toNat (↑k:Int))&&decide (Int.toNat (↑k:Int)<=List.length s))=true∧(G ((.agg [(.int .i64 1),(.str (List.drop 0 (List.take (Int.toNat (↑k:Int)) s))),(.int .i64 0),(.int .i64 0)])))else(G ((.agg [(.int .i64 0),(.str []),(.int .i64 0),(.int .i64 0)]))))))))))):At KD 0 (Za V8 G) Ug 0 80 [(0,.pv (.str s)),(2,.ptr 0 0),(3,.pv (.int .i64 (k:Int)))] [.obj (.box [.pv (.int .i64 0),.pv (.str []),.pv (.int .i64 0),.pv (.int .i64 0)])]:=At.tp (dm [dv Bool] 86 0x10024511010024521222222200100245110100245210200242225121220222222220094251212203642) h
theorem b1l{G:PV->Prop}(s:List UInt8)(k:Nat)(h:if (decide ((↑k:Int)<(↑(List.length s):Int)))=true then(decide (0<=(↑k:Int))&&decide (Int.toNat (↑k:Int)<List.length s))=true∧((a2d [(.int IntKind.u8 (↑(UInt8.toNat (List.getD s (Int.toNat (↑k:Int)) (0:UInt8))):Int))] fun e=>(if (e)=true then At KD 0 (Za V8 G) Ug 1 80 [(0,(.pv (.str s))),(2,(.ptr 0 0)),(3,(.pv (.int .i64 (IntKind.wrap IntKind.i64 ((↑k:Int)+1)))))] [(.obj (.box [(.pv (.int .i64 0)),(.pv (.str [])),(.pv (.int .i64 0)),(.pv (.int .i64 0))]))]else((true&&decide (0<=(↑k:Int))&&decide (0<=Int.toNat (↑k:Int))&&decide (Int.toNat (↑k:Int)<=List.length s))=true∧((d4p [(.str (List.drop 0 (List.take (Int.toNat (↑k:Int)) s)))] fun i=>(if i.2=true then(true&&decide (0<=(↑k:Int))&&decide (0<=Int.toNat (↑k:Int))&&decide (Int.toNat (↑k:Int)<=List.length s))=true∧(G ((.agg [(.int .i64 3),(.str (List.drop 0 (List.take (Int.toNat (↑k:Int)) s))),(.int .i64 0),(.int .i64 0)])))else(G ((.agg [(.int .i64 0),(.str []),(.int .i64 0),(.int .i64 0)]))))))))))else((true&&decide (0<=(↑k:Int))&&decide (0<=Int.toNat (↑k:Int))&&decide (Int.toNat (↑k:Int)<=List.length s))=true∧((d4p [(.str (List.drop 0 (List.take (Int.toNat (↑k:Int)) s)))] fun g=>(if g.2=true then(true&&decide (0<=(↑k:Int))&&decide (0<=Int.toNat (↑k:Int))&&decide (Int.toNat (↑k:Int)<=List.length s))=true∧(G ((.agg [(.int .i64 3),(.str (List.drop 0 (List.take (Int.toNat (↑k:Int)) s))),(.int .i64 0),(.int .i64 0)])))else(G ((.agg [(.int .i64 0),(.str []),(.int .i64 0),(.int .i64 0)])))))))):At KD 0 (Za V8 G) Ug 1 80 [(0,.pv (.str s)),(2,.ptr 0 0),(3,.pv (.int .i64 (k:Int)))] [.obj (.box [.pv (.int .i64 0),.pv (.str []),.pv (.int .i64 0),.pv (.int .i64 0)])]:=At.tp (dm [dv Bool,dv (Int×Bool)] 44 0x10024611222220010024611020024251212201742) h
noncomputable def X3:IC:=XU Proofs.Tryz.f31
def XY:List IRes:=[(.tmp 4)]
abbrev d8a:Nat:=61
noncomputable def Vw:ZL:=Y3 []
theorem e6a{G:PV->Prop}(s:List UInt8)(a:Int)(h:At Vw 0 (Za XY G) X3 0 61 [(0,(.pv (.str s))),(1,(.pv (.int .i64 a)))] []):Zb Vw 0 (Za XY G) X3 [] (Yz 61 [.str s,.int .i64 a]):=Zb.tp (.nil) h
theorem b2a{G:PV->Prop}(s:List UInt8)(a:Int)(i:Nat)(h:if (decide ((↑i:Int)<(↑(List.length s):Int)))=true then(decide (0<=(↑i:Int))&&decide (Int.toNat (↑i:Int)<List.length s))=true∧(if ((↑(UInt8.toNat (List.getD s (Int.toNat (↑i:Int)) (0:UInt8))):Int)==32)=true then At Vw 0 (Za XY G) X3 0 61 [(0,(.pv (.str s))),(1,(.pv (.int .i64 (IntKind.wrap IntKind.i64 ((↑i:Int)+1)))))] []else((decide (0<=(↑i:Int))&&decide (Int.toNat (↑i:Int)<List.length s))=true∧(if ((↑(UInt8.toNat (List.getD s (Int.toNat (↑i:Int)) (0:UInt8))):Int)==9)=true then At Vw 0 (Za XY G) X3 0 61 [(0,(.pv (.str s))),(1,(.pv (.int .i64 (IntKind.wrap IntKind.i64 ((↑i:Int)+1)))))] []else((decide (0<=(↑i:Int))&&decide (Int.toNat (↑i:Int)<List.length s))=true∧(if ((↑(UInt8.toNat (List.getD s (Int.toNat (↑i:Int)) (0:UInt8))):Int)==10)=true then At Vw 0 (Za XY G) X3 0 61 [(0,(.pv (.str s))),(1,(.pv (.int .i64 (IntKind.wrap IntKind.i64 ((↑i:Int)+1)))))] []else((decide (0<=(↑i:Int))&&decide (Int.toNat (↑i:Int)<List.length s))=true∧(if ((↑(UInt8.toNat (List.getD s (Int.toNat (↑i:Int)) (0:UInt8))):Int)==47)=true then if (decide (IntKind.wrap IntKind.i64 ((↑i:Int)+1)<(↑(List.length s):Int)))=true then(decide (0<=IntKind.wrap IntKind.i64 ((↑i:Int)+1))&&decide (Int.toNat (IntKind.wrap IntKind.i64 ((↑i:Int)+1))<List.length s))=true∧(if ((↑(UInt8.toNat (List.getD s (Int.toNat (IntKind.wrap IntKind.i64 ((↑i:Int)+1))) (0:UInt8))):Int)==47)=true then At Vw 0 (Za XY G) X3 1 61 [(0,(.pv (.str s))),(1,(.pv (.int .i64 (↑i:Int))))] []else(G ((.int .i64 (↑i:Int)))))else(G ((.int .i64 (↑i:Int))))else(G ((.int .i64 (↑i:Int)))))))))))else(G ((.int .i64 (↑i:Int))))):At Vw 0 (Za XY G) X3 0 61 [(0,.pv (.str s)),(1,.pv (.int .i64 (i:Int)))] []:=At.tp (dm [] 105 0x22222222222202222220000142221222200e422222220204210200242221220222222007422212202222222222200c42106242) h
theorem a0z{G:PV->Prop}(s:List UInt8)(a:Int)(i:Nat)(h:if (decide ((↑i:Int)<(↑(List.length s):Int)))=true then(decide (0<=(↑i:Int))&&decide (Int.toNat (↑i:Int)<List.length s))=true∧(if ((↑(UInt8.toNat (List.getD s (Int.toNat (↑i:Int)) (0:UInt8))):Int) != 10)=true then At Vw 0 (Za XY G) X3 1 61 [(0,(.pv (.str s))),(1,(.pv (.int .i64 (IntKind.wrap IntKind.i64 ((↑i:Int)+1)))))] []else(At Vw 0 (Za XY G) X3 0 61 [(0,(.pv (.str s))),(1,(.pv (.int .i64 (↑i:Int))))] []))else(At Vw 0 (Za XY G) X3 0 61 [(0,(.pv (.str s))),(1,(.pv (.int .i64 (↑i:Int))))] [])):At Vw 0 (Za XY G) X3 1 61 [(0,.pv (.str s)),(1,.pv (.int .i64 (i:Int)))] []:=At.tp (dm [] 25 0x22222002002422212200d42) h
noncomputable def Xm:IC:=XU Proofs.Tryz.f16
def Xk:List IRes:=[(.tmp 2),(.tmp 3),(.tmp 4)]
abbrev b1q:Nat:=59
noncomputable def Wz:ZL:=Y3 [(31,.pure (preT (fun x:Str×Int×Unit=>decide (x.1.s.length<=1048576)&&(decide (0<=x.2.1)&&decide (x.2.1<=x.1.s.length)))) (Zm (fun x:Str×Int×Unit=>((ZJ (x.1.s.length+1) x.1.s x.2.1.toNat:Nat):Int)))),(32,.pure (preT (fun x:Str×Unit=>decide (x.1.s.length<=1048576)&& !x.1.s.isEmpty)) (Zm (fun x:Str×Unit=>(⟨(Zu x.1).1,(Zu x.1).2,0,0⟩:Tok))))]
theorem e3z{G:PV->Prop}(s:List UInt8)(h:if (decide ((↑(List.length s):Int)>20000))=true then G ((.tup [(.sl 0 true []),(.int .i64 0),(.int .i64 3)]))else((c3j [(.str s),(.int .i64 0)] fun e=>(At Wz 0 (Za Xk G) Xm 0 59 [(0,(.pv (.str s))),(5,(.pv (.sl 0 true []))),(6,(.pv (.int .i64 1))),(7,(.pv (.int .i64 0))),(8,(.pv (.int .i64 e)))] [])))):Zb Wz 0 (Za Xk G) Xm [] (Yz 59 [.str s]):=Zb.tp (dm [dv Int] 10 0x51000142) h
theorem a4x{G:PV->Prop}(s:List UInt8)(ln g a:Int)(h:if (decide (a<(↑(List.length s):Int)))=true then(decide (0<=a)&&true&&decide (Int.toNat a<=List.length s)&&decide (List.length s<=List.length s))=true∧((d4m [(.str (List.drop (Int.toNat a) (List.take (List.length s) s)))] fun e=>(if (Tok.k e==0)=true then G ((.tup [(.sl 0 true []),(.int .i64 a),(.int .i64 6)]))else(At Wz 0 (Za Xk G) Xm 1 59 [(0,(.pv (.str s))),(5,(.pv (.sl 0 true []))),(6,(.pv (.int .i64 ln))),(7,(.pv (.int .i64 g))),(8,(.pv (.int .i64 a))),(9,(.ptr 0 0))] [(.obj (.box [(.pv (.int .i64 (Tok.k e))),(.pv (.str (Str.s (Tok.t e)))),(.pv (.int .i64 (Tok.ln e))),(.pv (.int .i64 (Tok.o e)))]))]))))else(G ((.tup [(.sl 0 true []),(.int .i64 0),(.int .i64 0)])))):At Wz 0 (Za Xk G) Xm 0 59 [(0,.pv (.str s)),(5,.pv (.sl 0 true [])),(6,.pv (.int .i64 ln)),(7,.pv (.int .i64 g)),(8,.pv (.int .i64 a))] []:=At.tp (dm [dv Tok] 19 0x2200014251100c42) h
theorem a4w{G:PV->Prop}(s:List UInt8)(ln g a:Int)(o:List Tok)(L:Nat)(h:if (decide (a<(↑(List.length s):Int)))=true then(decide (0<=a)&&true&&decide (Int.toNat a<=List.length s)&&decide (List.length s<=List.length s))=true∧((d4m [(.str (List.drop (Int.toNat a) (List.take (List.length s) s)))] fun e=>(if (Tok.k e==0)=true then G ((.tup [(.sl 0 true []),(.int .i64 a),(.int .i64 6)]))else(if ((↑(L - 0):Int)==4000)=true then G ((.tup [(.sl 0 true []),(.int .i64 a),(.int .i64 3)]))else(At Wz 0 (Za Xk G) Xm 1 59 [(0,(.pv (.str s))),(5,(.row 0 L 0 L)),(6,(.pv (.int .i64 ln))),(7,(.pv (.int .i64 g))),(8,(.pv (.int .i64 a))),(9,(.ptr 1 0))] [(.obj (.row false 62 4 (List.map enc o))),(.obj (.box [(.pv (.int .i64 (Tok.k e))),(.pv (.str (Str.s (Tok.t e)))),(.pv (.int .i64 (Tok.ln e))),(.pv (.int .i64 (Tok.o e)))]))])))))else((List.length (List.map enc o)==L)=true∧(G ((.tup [(.sl 4 false (List.drop 0 (List.take L (List.map enc o)))),(.int .i64 0),(.int .i64 0)]))))):At Wz 0 (Za Xk G) Xm 0 59 [(0,.pv (.str s)),(5,.row 0 L 0 L),(6,.pv (.int .i64 ln)),(7,.pv (.int .i64 g)),(8,.pv (.int .i64 a))] [.obj (.row false 62 4 (o.map enc))]:=At.tp (dm [dv Tok] 24 0x1000014200014251101042) h
theorem a3y{G:PV->Prop}(s:List UInt8)(ln e a:Int)(t:Tok)(h:if (decide (e<a))=true then(decide (0<=e)&&decide (Int.toNat e<List.length s))=true∧(if ((↑(UInt8.toNat (List.getD s (Int.toNat e) (0:UInt8))):Int)==10)=true then At Wz 0 (Za Xk G) Xm 1 59 [(0,(.pv (.str s))),(5,(.pv (.sl 0 true []))),(6,(.pv (.int .i64 (IntKind.wrap IntKind.i64 (ln+1))))),(7,(.pv (.int .i64 (IntKind.wrap IntKind.i64 (e+1))))),(8,(.pv (.int .i64 a))),(9,(.ptr 0 0))] [(.obj (.box [(.pv (.int .i64 (Tok.k t))),(.pv (.str (Str.s (Tok.t t)))),(.pv (.int .i64 (Tok.ln t))),(.pv (.int .i64 (Tok.o t)))]))]else(At Wz 0 (Za Xk G) Xm 1 59 [(0,(.pv (.str s))),(5,(.pv (.sl 0 true []))),(6,(.pv (.int .i64 ln))),(7,(.pv (.int .i64 (IntKind.wrap IntKind.i64 (e+1))))),(8,(.pv (.int .i64 a))),(9,(.ptr 0 0))] [(.obj (.box [(.pv (.int .i64 (Tok.k t))),(.pv (.str (Str.s (Tok.t t)))),(.pv (.int .i64 (Tok.ln t))),(.pv (.int .i64 (Tok.o t)))]))]))else((c3j [(.str s),(.int .i64 (IntKind.wrap IntKind.i64 (a+(↑(List.length (Str.s (Tok.t t))):Int))))] fun g=>(At Wz 0 (Za Xk G) Xm 0 59 [(0,(.pv (.str s))),(5,(.row 0 1 0 1)),(6,(.pv (.int .i64 ln))),(7,(.pv (.int .i64 e))),(8,(.pv (.int .i64 g)))] [(.obj (.row false 62 4 [(.agg [(.int .i64 (Tok.k t)),(.str (Str.s (Tok.t t))),(.int .i64 ln),(.int .i64 a)])]))])))):At Wz 0 (Za Xk G) Xm 1 59 [(0,.pv (.str s)),(5,.pv (.sl 0 true [])),(6,.pv (.int .i64 ln)),(7,.pv (.int .i64 e)),(8,.pv (.int .i64 a)),(9,.ptr 0 0)] [.obj (.box [.pv (enc t.k),.pv (enc t.t),.pv (enc t.ln),.pv (enc t.o)])]:=At.tp (dm [dv Int] 26 0x512222220202200342100b42) h
theorem a5c{G:PV->Prop}(s:List UInt8)(ln e a:Int)(t:Tok)(o:List Tok)(L:Nat)(h:if (decide (e<a))=true then(decide (0<=e)&&decide (Int.toNat e<List.length s))=true∧(if ((↑(UInt8.toNat (List.getD s (Int.toNat e) (0:UInt8))):Int)==10)=true then At Wz 0 (Za Xk G) Xm 1 59 [(0,(.pv (.str s))),(5,(.row 0 L 0 L)),(6,(.pv (.int .i64 (IntKind.wrap IntKind.i64 (ln+1))))),(7,(.pv (.int .i64 (IntKind.wrap IntKind.i64 (e+1))))),(8,(.pv (.int .i64 a))),(9,(.ptr 1 0))] [(.obj (.row false 62 4 (List.map enc o))),(.obj (.box [(.pv (.int .i64 (Tok.k t))),(.pv (.str (Str.s (Tok.t t)))),(.pv (.int .i64 (Tok.ln t))),(.pv (.int .i64 (Tok.o t)))]))]else(At Wz 0 (Za Xk G) Xm 1 59 [(0,(.pv (.str s))),(5,(.row 0 L 0 L)),(6,(.pv (.int .i64 ln))),(7,(.pv (.int .i64 (IntKind.wrap IntKind.i64 (e+1))))),(8,(.pv (.int .i64 a))),(9,(.ptr 1 0))] [(.obj (.row false 62 4 (List.map enc o))),(.obj (.box [(.pv (.int .i64 (Tok.k t))),(.pv (.str (Str.s (Tok.t t)))),(.pv (.int .i64 (Tok.ln t))),(.pv (.int .i64 (Tok.o t)))]))]))else((List.length (List.map enc o)==L&&L==L&&decide ((L+List.length (List.drop 0 (List.take 1 [PV.agg [enc (Tok.k t),enc (Tok.t t),PV.int .i64 ln,PV.int .i64 a]])))*40<=1099511627776)&&decide (L+List.length (List.drop 0 (List.take 1 [PV.agg [enc (Tok.k t),enc (Tok.t t),PV.int .i64 ln,PV.int .i64 a]]))<=1099511627776))=true∧((c3j [(.str s),(.int .i64 (IntKind.wrap IntKind.i64 (a+(↑(List.length (Str.s (Tok.t t))):Int))))] fun g=>(At Wz 0 (Za Xk G) Xm 0 59 [(0,(.pv (.str s))),(5,(.row 0 (L+List.length (List.drop 0 (List.take 1 [PV.agg [enc (Tok.k t),enc (Tok.t t),PV.int .i64 ln,PV.int .i64 a]]))) 0 (L+List.length (List.drop 0 (List.take 1 [PV.agg [enc (Tok.k t),enc (Tok.t t),PV.int .i64 ln,PV.int .i64 a]]))))),(6,(.pv (.int .i64 ln))),(7,(.pv (.int .i64 e))),(8,(.pv (.int .i64 g)))] [(.obj (.row false 62 4 (List.map enc o++List.drop 0 (List.take 1 [PV.agg [enc (Tok.k t),enc (Tok.t t),PV.int .i64 ln,PV.int .i64 a]]))))]))))):At Wz 0 (Za Xk G) Xm 1 59 [(0,.pv (.str s)),(5,.row 0 L 0 L),(6,.pv (.int .i64 ln)),(7,.pv (.int .i64 e)),(8,.pv (.int .i64 a)),(9,.ptr 1 0)] [.obj (.row false 62 4 (o.map enc)),.obj (.box [.pv (enc t.k),.pv (enc t.t),.pv (enc t.ln),.pv (enc t.o)])]:=At.tp (dm [dv Int] 24 0x5121220202200342100b42) h
theorem TM{n:Int}{b:Bool}:Zg ((n,b):Int×Bool) (.tup [.int .i64 n,.bool b]):=⟨rfl,rfl⟩
theorem Vo{s:List UInt8}{i:Nat}(h:i<s.length):(decide (0<=(i:Int))&&decide (Int.toNat (i:Int)<List.length s))=true:=by simp;omega
theorem WQ{s:List UInt8}{k:Nat}(h:k<=s.length):(true&&decide (0<=(k:Int))&&decide (0<=Int.toNat (k:Int))&&decide (Int.toNat (k:Int)<=List.length s))=true:=by simp;omega
theorem Pf(s:List UInt8)(k:Nat):List.drop 0 (List.take (Int.toNat (k:Int)) s)=s.take k:=by rw[List.drop_zero,Int.toNat_natCast]
theorem a3t: ∀ (d:List UInt8) (n:Int) (k:Nat),0<=n->n<10 ^ k->d.all digB=true->0<=d.foldl (fun n c=>10*n+((c.toNat:Int) - 48)) n∧d.foldl (fun n c=>10*n+((c.toNat:Int) - 48)) n<10 ^ (k+d.length)
 | [],n,k,e,h1,_=>⟨e,h1⟩
 | c::d,n,k,e,h1,h=>by
  rw[List.all_cons,Bool.and_eq_true]at h
  have hc:=h.1
  unfold digB at hc
  simp only[Bool.and_eq_true,decide_eq_true_eq]at hc
  have c1:48<=c.toNat:=hc.1
  have c2:c.toNat<=57:=hc.2
  rw[List.foldl_cons,List.length_cons,show k+(d.length+1)=(k+1)+d.length by omega]
  refine a3t d _ (k+1) (by omega) ?_ h.2
  rw[Int.pow_succ]
  generalize (10:Int) ^ k=P at *
  omega
theorem d5f(d:List UInt8)(h:d.all digB=true):0<=VW d∧VW d<10 ^ d.length:=by
 have:=a3t d 0 0 (by decide) (by decide) h
 rw[Nat.zero_add]at this
 exact this
theorem b2t{s:List UInt8}(hd:s.all digB=true)(q:s.length<=10)(hs:s.length<=1048576):At Sb 0 (Za JX (Zg (Y6 ⟨s⟩))) Hl 0 46 [(0,.pv (.str s)),(4,.pv (.int .i64 (VW s))),(5,.pv (.int .i64 (s.length:Int)))] []:=by
 have j : ∀ b,UB s=b->Y6 ⟨s⟩=if b then(VW s,true)else(0,false):=fun b h=>by unfold Y6;rw[h]
 refine b4a s _ _ (Yw (WC (by omega)) (Z5 (fun g=> ?_) fun g=> ?_))
 ·have g:s=[]:=g
  subst g
  exact TM
 ·have g:s≠[]:=g
  have hp:0<s.length:=List.length_pos_iff.2 g
  have l:s.isEmpty=false:=by cases s with|nil=>exact absurd rfl g|cons _ _=>rfl
  have big : ∀ (b:Bool),(decide (s.head? = some 48)&&decide (1<s.length))=b->b=false->if decide (VW s>2147483648)=true then Zg (Y6 ⟨s⟩) (.tup [.int .i64 0,.bool false])else Zg (Y6 ⟨s⟩) (.tup [.int .i64 (VW s),.bool true]):=fun b hb k=>by
   refine X8 (fun h3=> ?_) fun h3=> ?_
   ·rw[j false (by unfold UB;rw[decide_eq_false (show ¬ VW s<=2147483648 by omega),Bool.and_false])]
    exact TM
   ·rw[j true (by unfold UB;rw[l,decide_eq_true q,hd,hb,k,decide_eq_true (show VW s<=2147483648 by omega)];rfl)]
    exact TM
  refine X8 (fun h1=>⟨by simp;omega,Z5 (fun h2=> ?_) fun h2=> ?_⟩) fun h1=> ?_
  ·have i:s.head? = some 48:=by
    cases s with
    | nil=>exact absurd rfl g
    | cons c r=>
     have h2:(c.toNat:Int)=48:=h2
     have:c=48:=UInt8.toNat_inj.1 (by show c.toNat=48;omega)
     rw[this];rfl
   rw[j false (by unfold UB;rw[decide_eq_true i,decide_eq_true (show 1<s.length by omega)];simp)]
   exact TM
  ·have i:s.head? ≠ some 48:=by
    cases s with
    | nil=>exact absurd rfl g
    | cons c r=>
     have h2:(c.toNat:Int)≠48:=h2
     intro e
     have e:c=48:=by simpa using e
     rw[e]at h2
     exact h2 rfl
   exact big _ rfl (by rw[decide_eq_false i];rfl)
  ·exact big _ rfl (by rw[decide_eq_false (show ¬ 1<s.length by omega),Bool.and_false])
theorem b3o(s:List UInt8)(hs:s.length<=1048576): ∀ (m i:Nat),i+m=s.length->i<=10->(s.take i).all digB=true->At Sb 0 (Za JX (Zg (Y6 ⟨s⟩))) Hl 0 46 [(0,.pv (.str s)),(4,.pv (.int .i64 (VW (s.take i)))),(5,.pv (.int .i64 (i:Int)))] []:=by
 intro m
 induction m with
 | zero=>
  intro i hi h hd
  have e:i=s.length:=by omega
  subst e
  rw[List.take_length]at hd ⊢
  exact b2t hd h hs
 | succ m ih=>
  intro i hi h hd
  have g:i<s.length:=by omega
  have q:s.getD (Int.toNat (i:Int)) 0=s[i]:=by rw[Int.toNat_natCast,List.getD_eq_getElem?_getD,List.getElem?_eq_getElem g];rfl
  refine b4a s _ i (Yt (XZ g) ⟨Vo g,?_⟩)
  rw[q]
  refine⟨Zl (s[i],()) rfl rfl,Zd (s[i],()) rfl (Y5 (fun h1=> ?_) fun h1=>X8 (fun h2=> ?_) fun h2=>⟨Vo g,?_⟩)⟩
  ·have h1:digB s[i]=false:=h1
   have k:UB s=false:=by
    have:s.all digB=false:=by
     rw[List.all_eq_false]
     exact⟨s[i],List.getElem_mem g,by rw[h1];decide⟩
    unfold UB
    rw[this];simp
   rw[show Y6 ⟨s⟩=(0,false) by unfold Y6;rw[k];rfl]
   exact TM
  ·have k:UB s=false:=by
    unfold UB
    rw[decide_eq_false (show ¬ s.length<=10 by omega)];simp
   rw[show Y6 ⟨s⟩=(0,false) by unfold Y6;rw[k];rfl]
   exact TM
  ·have h1:digB s[i]=true:=h1
   have l:(s.take (i+1)).all digB=true:=by
    rw[List.take_add_one,List.getElem?_eq_getElem g,List.all_append,hd]
    show(true&&(digB s[i]&&true))=true
    rw[h1];rfl
   have hn:=d5f _ hd
   have j:(s.take i).length=i:=by rw[List.length_take];omega
   rw[j]at hn
   have hp:(10:Int) ^ i<=10 ^ 10:=by
    have:(10:Nat) ^ i<=10 ^ 10:=Nat.pow_le_pow_right (by omega) h
    exact_mod_cast this
   have hp2:(10:Int) ^ 10=10000000000:=by decide
   have c1:48<=s[i].toNat:=by
    unfold digB at h1
    simp only[Bool.and_eq_true,decide_eq_true_eq]at h1
    exact h1.1
   have c2:s[i].toNat<=57:=by
    unfold digB at h1
    simp only[Bool.and_eq_true,decide_eq_true_eq]at h1
    exact h1.2
   have r:VW (s.take (i+1))=10*VW (s.take i)+((s[i].toNat:Int) - 48):=by
    rw[List.take_add_one,List.getElem?_eq_getElem g]
    show VW (s.take i++[s[i]])=_
    unfold VW
    rw[List.foldl_append]
    rfl
   have u:IntKind.wrap IntKind.u8 ((s[i].toNat:Int) - 48)=(s[i].toNat:Int) - 48:=by
    show((s[i].toNat:Int) - 48) % 256=_
    omega
   rw[u,Xl (n:=(s[i].toNat:Int) - 48) (by omega) (by omega),Xl (n:=10*VW (s.take i)) (by omega) (by omega),Xl (n:=10*VW (s.take i)+((s[i].toNat:Int) - 48)) (by omega) (by omega),<- r,next (by omega)]
   exact ih (i+1) (by omega) (by omega) l
theorem d1z: ∀ a:Str×Unit,decide (a.1.s.length<=1048576)=true->Zb Sb 0 (Za JX (Zg (Y6 a.1))) Hl [] (Yz d6v (encL a)):=by
 rintro⟨⟨s⟩,⟨⟩⟩ h
 have hs:s.length<=1048576:=of_decide_eq_true h
 exact e6r s (b3o s hs s.length 0 (by omega) (by omega) rfl)
theorem O9:Ze.length=28:=rfl
theorem d6q{i:Nat}(h:i<28):List.getD (List.map (enc:Str->PV) Ye) (0+Int.toNat (i:Int)) default = .str (Ze[i]'(by rw[O9];exact h)):=by
 rw[Nat.zero_add,Int.toNat_natCast,List.getD_eq_getElem?_getD]
 unfold Ye
 rw[List.map_map,List.getElem?_map,List.getElem?_eq_getElem (by rw[O9];exact h)]
 rfl
theorem c0g(s:List UInt8)(hs:s.length<=1048576): ∀ (m i:Nat),i+m=28->At AJ 0 (Za JQ (Zg (Zh (Ze.drop i) s).2)) J4 0 38 [(0,.pv (.str s)),(3,.row 0 28 0 28),(4,.pv (.int .i64 (i:Int)))] [.obj (.row false 9 1 (List.map enc Ye))]:=by
 intro m
 induction m with
 | zero=>
  intro i hi
  have e:i=28:=by omega
  subst e
  exact c0l s 28 (Yw (by decide) (YK rfl))
 | succ m ih=>
  intro i hi
  have h:i<28:=by omega
  have l:i<Ze.length:=by rw[O9];exact h
  have r:Ze.drop i=Ze[i]::Ze.drop (i+1):=List.drop_eq_getElem_cons l
  have k:(decide (0<=(i:Int))&&decide (0+Int.toNat (i:Int)<28)&&List.length (List.map (enc:Str->PV) Ye)==28)=true:=by
   rw[decide_eq_true (show(0:Int)<=(i:Int) by omega),decide_eq_true (show 0+Int.toNat (i:Int)<28 by omega)]
   rfl
  have j:(List.length (List.map (enc:Str->PV) Ye)==28&&decide (0+Int.toNat (i:Int)<List.length (List.map (enc:Str->PV) Ye)))=true:=by
   rw[decide_eq_true (show 0+Int.toNat (i:Int)<List.length (List.map (enc:Str->PV) Ye) by show 0+Int.toNat (i:Int)<28;omega)]
   rfl
  have g:=ih (i+1) (by omega)
  rw[r,Zh,c7r]
  refine c0l s i ?_
  rw[d6q h,next (by omega)]
  generalize Ze[i]=w
  refine Yt (by simp;omega) ⟨k,j,rfl,?_⟩
  have q:PV.asStr (List.getD (PV.cells (.str w)) 0 default)=w:=rfl
  rw[q]
  refine X8 (fun h1=>⟨k,j,rfl,by simp;omega,k,j,rfl,?_⟩) fun h1=> ?_
  ·rw[decide_eq_true (show w.length<=s.length by omega),Bool.true_and,Int.toNat_natCast,List.drop_zero]
   refine Z6 (fun h2=> ?_) fun h2=> ?_
   ·rw[h2]
    exact⟨k,j,rfl,YK rfl⟩
   ·rw[h2]
    exact g
  ·rw[decide_eq_false (show ¬ w.length<=s.length by omega),Bool.false_and]
   exact g
theorem c9h: ∀ a:Str×Unit,decide (a.1.s.length<=1048576)=true->Zb AJ 0 (Za JQ (Zg (Zh Ze a.1.s).2)) J4 [] (Yz e1h (encL a)):=by
 rintro⟨⟨s⟩,⟨⟩⟩ h
 exact e7g s (c0g s (of_decide_eq_true h) 28 0 rfl)
theorem Kw{k:Int}{w:List UInt8}:Zg (⟨k,⟨w⟩,0,0⟩:Tok) (.agg [.int .i64 k,.str w,.int .i64 0,.int .i64 0]):=e1c ⟨k,⟨w⟩,0,0⟩
def La(w:List UInt8):Tok:=if Wx.contains w then⟨2,⟨w⟩,0,0⟩else if nameI w then⟨1,⟨w⟩,0,0⟩else⟨0,⟨[]⟩,0,0⟩
def LP(w:List UInt8):Tok:=if (Y6 ⟨w⟩).2 then⟨3,⟨w⟩,0,0⟩else⟨0,⟨[]⟩,0,0⟩
theorem e7s(s:List UInt8)(hs:s.length<=1048576)(R:Tok)(y:R=La (Yk ⟨s⟩ true).s): ∀ (m k:Nat),k+m=s.length->(∀ c∈s.take k,(digB c||(true&&lowB c))=true)->At KD 0 (Za V8 (Zg R)) Ug 0 80 [(0,.pv (.str s)),(2,.ptr 0 0),(3,.pv (.int .i64 (k:Int)))] [.obj (.box [.pv (.int .i64 0),.pv (.str []),.pv (.int .i64 0),.pv (.int .i64 0)])]:=by
 have leaf : ∀ k:Nat,k<=s.length->(∀ c∈s.take k,(digB c||(true&&lowB c))=true)->(k=s.length∨(digB (s.getD k 0)||(true&&lowB (s.getD k 0)))=false)->R=La (s.take k):=fun k q hc z=>by
  rw[y]
  congr 1
  exact(JU (p:=fun c=>digB c||(true&&lowB c)) q hc z).symm
 intro m
 induction m with
 | zero=>
  intro k q hc
  have e:k=s.length:=by omega
  have i:=leaf k (by omega) hc (Or.inl e)
  have g:(s.take k).length<=1048576:=by rw[List.length_take];omega
  refine b9g s k (Yw (WC (by omega)) ⟨WQ (by omega),?_⟩)
  rw[Pf]
  unfold La at i
  generalize s.take k=w at i g
  subst i
  refine Zd ((⟨w⟩:Str),()) rfl (Z6 (fun h1=>⟨WQ (by omega),?_⟩) fun h1=>⟨WQ (by omega),Zl ((⟨w⟩:Str),()) rfl (decide_eq_true g),Zd ((⟨w⟩:Str),()) rfl (Z6 (fun h2=>⟨WQ (by omega),?_⟩) fun h2=> ?_)⟩)
  ·rw[if_pos h1];exact Kw
  ·have h1:Wx.contains w=false:=h1
   have h2:nameI w=true:=h2
   rw[h1,h2];exact Kw
  ·have h1:Wx.contains w=false:=h1
   have h2:nameI w=false:=h2
   rw[h1,h2];exact Kw
 | succ m ih=>
  intro k q hc
  have h:k<s.length:=by omega
  have u:s.getD (Int.toNat (k:Int)) 0=s[k]:=by rw[Int.toNat_natCast,List.getD_eq_getElem?_getD,List.getElem?_eq_getElem h];rfl
  have l:s.getD k 0=s[k]:=by rw[List.getD_eq_getElem?_getD,List.getElem?_eq_getElem h];rfl
  have go:(digB s[k]||(true&&lowB s[k]))=true->At KD 0 (Za V8 (Zg R)) Ug 0 80 [(0,.pv (.str s)),(2,.ptr 0 0),(3,.pv (.int .i64 (IntKind.i64.wrap ((k:Int)+1))))] [.obj (.box [.pv (.int .i64 0),.pv (.str []),.pv (.int .i64 0),.pv (.int .i64 0)])]:=fun r=>by
   rw[next (by omega)]
   refine ih (k+1) (by omega) fun c j=> ?_
   rw[List.take_add_one,List.getElem?_eq_getElem h]at j
   rcases List.mem_append.1 j with j|j
   ·exact hc c j
   ·obtain rfl:c=s[k]:=by simpa using j
    exact r
  refine b9g s k (Yt (XZ h) ⟨Vo h,?_⟩)
  rw[u]
  refine⟨Zl (s[k],()) rfl rfl,Zd (s[k],()) rfl (Z6 (fun h1=> ?_) fun h1=>⟨Vo h,Zl (s[k],()) rfl rfl,Zd (s[k],()) rfl (Z6 (fun h2=> ?_) fun h2=>⟨WQ (by omega),?_⟩)⟩)⟩
  ·have h1:lowB s[k]=true:=h1
   exact go (by rw[h1];simp)
  ·have h2:digB s[k]=true:=h2
   exact go (by rw[h2];rfl)
  ·have h1:lowB s[k]=false:=h1
   have h2:digB s[k]=false:=h2
   have i:=leaf k (by omega) hc (Or.inr (by rw[l,h1,h2];rfl))
   have g:(s.take k).length<=1048576:=by rw[List.length_take];omega
   rw[Pf]
   unfold La at i
   generalize s.take k=w at i g
   subst i
   refine Zd ((⟨w⟩:Str),()) rfl (Z6 (fun h1=>⟨WQ (by omega),?_⟩) fun h1=>⟨WQ (by omega),Zl ((⟨w⟩:Str),()) rfl (decide_eq_true g),Zd ((⟨w⟩:Str),()) rfl (Z6 (fun h2=>⟨WQ (by omega),?_⟩) fun h2=> ?_)⟩)
   ·rw[if_pos h1];exact Kw
   ·have h1:Wx.contains w=false:=h1
    have h2:nameI w=true:=h2
    rw[h1,h2];exact Kw
   ·have h1:Wx.contains w=false:=h1
    have h2:nameI w=false:=h2
    rw[h1,h2];exact Kw
theorem e5k(s:List UInt8)(hs:s.length<=1048576)(R:Tok)(u:R=LP (Yk ⟨s⟩ false).s): ∀ (m k:Nat),k+m=s.length->(∀ c∈s.take k,(digB c||(false&&lowB c))=true)->At KD 0 (Za V8 (Zg R)) Ug 1 80 [(0,.pv (.str s)),(2,.ptr 0 0),(3,.pv (.int .i64 (k:Int)))] [.obj (.box [.pv (.int .i64 0),.pv (.str []),.pv (.int .i64 0),.pv (.int .i64 0)])]:=by
 have leaf : ∀ k:Nat,k<=s.length->(∀ c∈s.take k,(digB c||(false&&lowB c))=true)->(k=s.length∨(digB (s.getD k 0)||(false&&lowB (s.getD k 0)))=false)->R=LP (s.take k):=fun k q hc y=>by
  rw[u]
  congr 1
  exact(JU (p:=fun c=>digB c||(false&&lowB c)) q hc y).symm
 intro m
 induction m with
 | zero=>
  intro k q hc
  have e:k=s.length:=by omega
  have i:=leaf k (by omega) hc (Or.inl e)
  have g:(s.take k).length<=1048576:=by rw[List.length_take];omega
  refine b1l s k (Yw (WC (by omega)) ⟨WQ (by omega),?_⟩)
  rw[Pf]
  unfold LP at i
  generalize s.take k=w at i g
  subst i
  refine⟨Zl ((⟨w⟩:Str),()) rfl (decide_eq_true g),Zd ((⟨w⟩:Str),()) rfl (Z6 (fun h2=>⟨WQ (by omega),?_⟩) fun h2=> ?_)⟩
  ·have h2:(Y6 ⟨w⟩).2=true:=h2
   rw[h2];exact Kw
  ·have h2:(Y6 ⟨w⟩).2=false:=h2
   rw[h2];exact Kw
 | succ m ih=>
  intro k q hc
  have h:k<s.length:=by omega
  have r:s.getD (Int.toNat (k:Int)) 0=s[k]:=by rw[Int.toNat_natCast,List.getD_eq_getElem?_getD,List.getElem?_eq_getElem h];rfl
  have l:s.getD k 0=s[k]:=by rw[List.getD_eq_getElem?_getD,List.getElem?_eq_getElem h];rfl
  refine b1l s k (Yt (XZ h) ⟨Vo h,?_⟩)
  rw[r]
  refine⟨Zl (s[k],()) rfl rfl,Zd (s[k],()) rfl (Z6 (fun h1=> ?_) fun h1=>⟨WQ (by omega),?_⟩)⟩
  ·have h1:digB s[k]=true:=h1
   rw[next (by omega)]
   refine ih (k+1) (by omega) fun c j=> ?_
   rw[List.take_add_one,List.getElem?_eq_getElem h]at j
   rcases List.mem_append.1 j with j|j
   ·exact hc c j
   ·obtain rfl:c=s[k]:=by simpa using j
    rw[h1];rfl
  ·have h1:digB s[k]=false:=h1
   have i:=leaf k (by omega) hc (Or.inr (by rw[l,h1];rfl))
   have g:(s.take k).length<=1048576:=by rw[List.length_take];omega
   rw[Pf]
   unfold LP at i
   generalize s.take k=w at i g
   subst i
   refine⟨Zl ((⟨w⟩:Str),()) rfl (decide_eq_true g),Zd ((⟨w⟩:Str),()) rfl (Z6 (fun h2=>⟨WQ (by omega),?_⟩) fun h2=> ?_)⟩
   ·have h2:(Y6 ⟨w⟩).2=true:=h2
    rw[h2];exact Kw
   ·have h2:(Y6 ⟨w⟩).2=false:=h2
    rw[h2];exact Kw
def nxT(s:Str):Tok:=⟨(Zu s).1,(Zu s).2,0,0⟩
theorem Bg: ∀ (l:List (List UInt8)) (s:List UInt8),(∀ w∈l,w≠[])->Zh l s=(0,⟨[]⟩)∨((Zh l s).1=4∧(Zh l s).2.s≠[])
 | [],s,_=>Or.inl rfl
 | x::l,s,h=>by
  rw[Zh]
  split
  ·exact Or.inr ⟨rfl,h x (List.mem_cons_self ..)⟩
  ·exact Bg l s fun w e=>h w (List.mem_cons_of_mem _ e)
theorem d0v: ∀ a:Str×Unit,(decide (a.1.s.length<=1048576)&& !a.1.s.isEmpty)=true->Zb KD 0 (Za V8 (Zg (nxT a.1))) Ug [] (Yz d7m (encL a)):=by
 rintro⟨⟨s⟩,⟨⟩⟩ h
 obtain⟨hs,i⟩:s.length<=1048576∧s.isEmpty=false:=by simpa using h
 cases s with
 | nil=>cases i
 | cons c r=>
  have g:(decide ((0:Int)<=0)&&decide (Int.toNat 0<List.length (c::r)))=true:=by simp
  refine e5m (c::r) ⟨g,Zl (c,()) rfl rfl,Zd (c,()) rfl (Z6 (fun h1=> ?_) fun h1=>⟨g,Zl (c,()) rfl rfl,Zd (c,()) rfl (Z6 (fun h2=> ?_) fun h2=>⟨Zl ((⟨c::r⟩:Str),()) rfl (decide_eq_true hs),Zd ((⟨c::r⟩:Str),()) rfl (Y5 (fun h3=> ?_) fun h3=> ?_)⟩)⟩)⟩
  ·have h1:lowB c=true:=h1
   refine e7s (c::r) hs _ ?_ (c::r).length 0 (by omega) (by simp)
   show nxT ⟨c::r⟩=_
   unfold nxT Zu La
   dsimp only
   rw[if_pos h1]
   generalize (Yk ⟨c::r⟩ true)=w
   cases Wx.contains w.s with
   | true=>rfl
   | false=>
    cases nameI w.s <;> rfl
  ·have h1:lowB c=false:=h1
   have h2:digB c=true:=h2
   refine e5k (c::r) hs _ ?_ (c::r).length 0 (by omega) (by simp)
   show nxT ⟨c::r⟩=_
   unfold nxT Zu LP
   dsimp only
   rw[h1,h2,if_neg (by decide),if_pos rfl]
   generalize (Yk ⟨c::r⟩ false)=w
   cases (Y6 w).2 <;> rfl
  ·have h1:lowB c=false:=h1
   have h2:digB c=false:=h2
   have h3:((Zh Ze (c::r)).2.s==[])=false:=h3
   have e:nxT ⟨c::r⟩=⟨(Zh Ze (c::r)).1,(Zh Ze (c::r)).2,0,0⟩:=by
    unfold nxT Zu
    dsimp only
    rw[h1,h2,if_neg (by decide),if_neg (by decide)]
   rw[show nxT ((⟨c::r⟩:Str),()).1=nxT ⟨c::r⟩from rfl,e]
   rcases Bg Ze (c::r) (by decide)with q|q
   ·rw[q]at h3;cases h3
   ·rw[q.1];exact Kw
  ·have h1:lowB c=false:=h1
   have h2:digB c=false:=h2
   have h3:((Zh Ze (c::r)).2.s==[])=true:=h3
   have e:nxT ⟨c::r⟩=⟨(Zh Ze (c::r)).1,(Zh Ze (c::r)).2,0,0⟩:=by
    unfold nxT Zu
    dsimp only
    rw[h1,h2,if_neg (by decide),if_neg (by decide)]
   rw[show nxT ((⟨c::r⟩:Str),()).1=nxT ⟨c::r⟩from rfl,e]
   rcases Bg Ze (c::r) (by decide)with q|q
   ·rw[q];exact Kw
   ·exact absurd (by simpa using h3) q.2
theorem KM{c:UInt8}{n:Nat}(hn:n<256)(h:(c.toNat:Int)=(n:Int)):c=UInt8.ofNat n:=by
 refine UInt8.toNat_inj.1 ?_
 rw[UInt8.toNat_ofNat_of_lt' hn]
 omega
theorem a8u{f:Nat}{s:List UInt8}{i:Nat}(h:s.length<=i):ZJ f s i=i:=by
 cases f with
 | zero=>rfl
 | succ f=>rw[ZJ,if_pos h]
theorem c4u{f:Nat}{s:List UInt8}{i:Nat}(h:i<s.length)(hc:s.getD i 0=32∨s.getD i 0=9∨s.getD i 0=10):ZJ (f+1) s i=ZJ f s (i+1):=by rw[ZJ,if_neg (by omega),if_pos hc]
theorem Sg{f:Nat}{s:List UInt8}{i:Nat}(h:i<s.length)(hc : ¬ (s.getD i 0=32∨s.getD i 0=9∨s.getD i 0=10))(e:List.isPrefixOf [47,47] (s.drop i)=false):ZJ (f+1) s i=i:=by rw[ZJ,if_neg (by omega),if_neg hc,if_neg (by rw[e];decide)]
def Gy(f:Nat)(s:List UInt8)(j:Nat):Nat:=if Lib.indexByte (s.drop j) 10<0 then s.length else ZJ f s (j+(Lib.indexByte (s.drop j) 10).toNat)
theorem a8h{f:Nat}{s:List UInt8}{i:Nat}(h:i<s.length)(hc : ¬ (s.getD i 0=32∨s.getD i 0=9∨s.getD i 0=10))(e:List.isPrefixOf [47,47] (s.drop i)=true):ZJ (f+1) s i=Gy f s i:=by rw[ZJ,if_neg (by omega),if_neg hc,if_pos e];rfl
theorem b7m{f:Nat}{s:List UInt8}{j:Nat}(h:s.length<=j):Gy f s j=s.length:=by
 unfold Gy
 rw[List.drop_eq_nil_of_le h,Lib.indexByte,if_pos (by decide)]
theorem c7a{f:Nat}{s:List UInt8}{j:Nat}(h:j<s.length)(hc:s[j]=10):Gy f s j=ZJ f s j:=by
 unfold Gy
 have e:Lib.indexByte (s.drop j) 10=0:=by
  rw[List.drop_eq_getElem_cons h,Lib.indexByte,hc]
  rfl
 rw[e,if_neg (by decide)]
 rfl
theorem a3i{f:Nat}{s:List UInt8}{j:Nat}(h:j<s.length)(hc:s[j]≠10):Gy f s j=Gy f s (j+1):=by
 unfold Gy
 have e:Lib.indexByte (s.drop j) 10=if (Lib.indexByte (s.drop (j+1)) 10 == -1)=true then -1 else Lib.indexByte (s.drop (j+1)) 10+1:=by
  rw[List.drop_eq_getElem_cons h,Lib.indexByte,if_neg (by simpa using hc)]
 rw[e]
 have hb:=TN 10 (s.drop (j+1))
 rcases hb with hb|hb
 ·rw[hb]
  rfl
 ·have hn : ¬ (Lib.indexByte (s.drop (j+1)) 10 == -1)=true:=by simp;omega
  rw[if_neg hn,if_neg (show ¬ Lib.indexByte (s.drop (j+1)) 10+1<0 by omega),if_neg (show ¬ Lib.indexByte (s.drop (j+1)) 10<0 by omega)]
  congr 1
  omega
theorem H9{s:List UInt8}{i:Nat}:List.isPrefixOf [47,47] (s.drop i)=(decide (i+1<s.length)&&(s.getD i 0==47&&s.getD (i+1) 0==47)):=by
 by_cases h1:i<s.length
 ·rw[List.drop_eq_getElem_cons h1]
  have g:s.getD i 0=s[i]:=by rw[List.getD_eq_getElem?_getD,List.getElem?_eq_getElem h1];rfl
  by_cases h2:i+1<s.length
  ·have e:s.getD (i+1) 0=s[i+1]:=by rw[List.getD_eq_getElem?_getD,List.getElem?_eq_getElem h2];rfl
   rw[List.drop_eq_getElem_cons h2,g,e,decide_eq_true h2,Bool.true_and]
   show(47==s[i]&&(47==s[i+1]&&true))=_
   rw[Bool.and_true,Bool.beq_comm (a:=(47:UInt8)) (b:=s[i]),Bool.beq_comm (a:=(47:UInt8)) (b:=s[i+1])]
  ·rw[List.drop_eq_nil_of_le (by omega),decide_eq_false h2,Bool.false_and]
   show(47==s[i]&&false)=false
   simp
 ·rw[List.drop_eq_nil_of_le (by omega),decide_eq_false (by omega)]
  rfl
theorem b3v(s:List UInt8)(hs:s.length<=1048576)(v:Int): ∀ (f:Nat),(∀ i:Nat,i<=s.length->s.length<i+f->At Vw 0 (Za XY (Zg ((ZJ f s i:Nat):Int))) X3 0 61 [(0,.pv (.str s)),(1,.pv (.int .i64 (i:Int)))] [])∧(∀ m j:Nat,j+m=s.length->s.length<j+f->At Vw 0 (Za XY (Zg ((Gy f s j:Nat):Int))) X3 1 61 [(0,.pv (.str s)),(1,.pv (.int .i64 (j:Int)))] []):=by
 intro f
 have outer_end : ∀ R:Int,R=(s.length:Int)->At Vw 0 (Za XY (Zg R)) X3 0 61 [(0,.pv (.str s)),(1,.pv (.int .i64 (s.length:Int)))] []:=fun R C=>b2a s v s.length (Yw (WC (by omega)) (YG C.symm))
 induction f with
 | zero=>
  refine⟨fun i hi h=>by omega,fun m=> ?_⟩
  intro j A h
  omega
 | succ f ih=>
  have k : ∀ i:Nat,i<=s.length->s.length<i+(f+1)->At Vw 0 (Za XY (Zg ((ZJ (f+1) s i:Nat):Int))) X3 0 61 [(0,.pv (.str s)),(1,.pv (.int .i64 (i:Int)))] []:=fun i hi h=>by
   by_cases g:i<s.length
   ·have z:s.getD (Int.toNat (i:Int)) 0=s.getD i 0:=by rw[Int.toNat_natCast]
    have go:(s.getD i 0=32∨s.getD i 0=9∨s.getD i 0=10)->At Vw 0 (Za XY (Zg ((ZJ (f+1) s i:Nat):Int))) X3 0 61 [(0,.pv (.str s)),(1,.pv (.int .i64 (IntKind.i64.wrap ((i:Int)+1))))] []:=fun hc=>by
     rw[next (by omega),c4u g hc]
     exact ih.1 (i+1) (by omega) (by omega)
    refine b2a s v i (Yt (XZ g) ⟨Vo g,?_⟩)
    rw[z]
    refine Z5 (fun h1=>go (Or.inl (KM (n:=32) (by decide) h1))) fun h1=>⟨Vo g,Z5 (fun h2=>go (Or.inr (Or.inl (KM (n:=9) (by decide) h2)))) fun h2=>⟨Vo g,Z5 (fun h3=>go (Or.inr (Or.inr (KM (n:=10) (by decide) h3)))) fun h3=>⟨Vo g,?_⟩⟩⟩
    have hc : ¬ (s.getD i 0=32∨s.getD i 0=9∨s.getD i 0=10):=by
     rintro(q|q|q)
     ·rw[q]at h1;exact h1 rfl
     ·rw[q]at h2;exact h2 rfl
     ·rw[q]at h3;exact h3 rfl
    refine Z5 (fun r=> ?_) fun r=> ?_
    ·have r:s.getD i 0=47:=KM (n:=47) (by omega) r
     rw[next (by omega)]
     by_cases h5:i+1<s.length
     ·refine Yt (XZ h5) ⟨Vo h5,Z5 (fun l=> ?_) fun l=> ?_⟩
      ·rw[Int.toNat_natCast]at l
       have l:s.getD (i+1) 0=47:=KM (n:=47) (by omega) l
       rw[a8h g hc (by rw[H9,decide_eq_true h5,r,l];rfl)]
       -- the comment's first sign is no end of a line
       have B:s.getD i 0=s[i]:=by rw[List.getD_eq_getElem?_getD,List.getElem?_eq_getElem g];rfl
       have y:s[i]≠10:=by rw[<- B,r];decide
       rw[a3i g y]
       refine a0z s v i (Yt (XZ g) ⟨Vo g,Pn (fun u=> ?_) fun u=> ?_⟩)
       ·rw[next (by omega)]
        exact ih.2 (s.length - (i+1)) (i+1) (by omega) (by omega)
       ·rw[Int.toNat_natCast,r]at u
        exact absurd (show(47:Int)=10 from u) (by decide)
      ·rw[Int.toNat_natCast]at l
       have l:s.getD (i+1) 0≠47:=fun e=>by rw[e]at l;exact l rfl
       rw[Sg g hc (by rw[H9,beq_false_of_ne l];simp)]
       exact YG rfl
     ·rw[Sg g hc (by rw[H9,decide_eq_false h5];rfl)]
      exact Yw (WC h5) (YG rfl)
    ·have r:s.getD i 0≠47:=fun e=>by rw[e]at r;exact r rfl
     rw[Sg g hc (by rw[H9,beq_false_of_ne r];simp)]
     exact YG rfl
   ·have e:i=s.length:=by omega
    subst e
    exact outer_end _ (by rw[a8u (Nat.le_refl _)])
  refine⟨k,?_⟩
  intro m
  induction m with
  | zero=>
   intro j A h
   have e:j=s.length:=by omega
   subst e
   refine a0z s v s.length (Yw (WC (by omega)) (outer_end _ ?_))
   rw[b7m (Nat.le_refl _)]
  | succ m ihm=>
   intro j A h
   have g:j<s.length:=by omega
   have z:s.getD (Int.toNat (j:Int)) 0=s[j]:=by rw[Int.toNat_natCast,List.getD_eq_getElem?_getD,List.getElem?_eq_getElem g];rfl
   refine a0z s v j (Yt (XZ g) ⟨Vo g,?_⟩)
   rw[z]
   refine Pn (fun u=> ?_) fun u=> ?_
   ·rw[next (by omega),a3i g (fun e=>by rw[e]at u;exact u rfl)]
    exact ihm (j+1) (by omega) (by omega)
   ·rw[c7a g (KM (n:=10) (by omega) u)]
    exact k j (by omega) (by omega)
theorem c7q: ∀ a:Str×Int×Unit,(decide (a.1.s.length<=1048576)&&(decide (0<=a.2.1)&&decide (a.2.1<=a.1.s.length)))=true->Zb Vw 0 (Za XY (Zg ((ZJ (a.1.s.length+1) a.1.s a.2.1.toNat:Nat):Int))) X3 [] (Yz d8a (encL a)):=by
 rintro⟨⟨s⟩,v,⟨⟩⟩ h
 obtain⟨hs,h1,h2⟩:s.length<=1048576∧0<=v∧v<=s.length:=by simpa using h
 obtain⟨i,rfl⟩ : ∃ n:Nat,v=n:=⟨v.toNat,by omega⟩
 refine e6a s (i:Int) ?_
 show At Vw 0 (Za XY (Zg ((ZJ (s.length+1) s (Int.toNat (i:Int)):Nat):Int))) X3 0 61 _ _
 rw[Int.toNat_natCast]
 exact(b3v s hs i (s.length+1)).1 i (by omega) (by omega)
theorem a2w(s:List UInt8)(a b:Nat):Q5 s a b<=b - a:=by
 unfold Q5
 refine Nat.le_trans List.count_le_length ?_
 rw[List.length_take]
 omega
theorem Te{l:List Tok}{a c:Int}{p:PV}(h:Zg l p):Zg (⟨l,a,c⟩:R3 (List Tok) Int Int) (.tup [p,.int .i64 a,.int .i64 c]):=by
 refine⟨?_,?_⟩
 ·show(is (List Tok) p&&true&&true)=true
  rw[h.1];rfl
 ·show(⟨dec p,a,c⟩:R3 (List Tok) Int Int)=_
  rw[h.2]
theorem b7l(o:List Tok)(k ln a:Int)(w:Str):List.map (enc:Tok->PV) o++List.drop 0 (List.take 1 [PV.agg [enc k,enc w,.int .i64 ln,.int .i64 a]])=(o++[(⟨k,w,ln,a⟩:Tok)]).map enc:=by rw[List.map_append];rfl
theorem d5l{s:List UInt8}(hs:s.length<=20000){a:Nat}(ha:a<s.length){t:Tok}{o:List Tok}{L:Nat}(u:L=o.length)(hL2:L<4000)(hk:t.t.s.length+a<=s.length){ln':Int}{F:PV->Prop}
  (K:At Wz 0 (Za Xk F) Xm 0 59 [(0,.pv (.str s)),(5,.row 0 (L+1) 0 (L+1)),(6,.pv (.int .i64 ln')),(7,.pv (.int .i64 (a:Int))),(8,.pv (.int .i64 ((ZJ (s.length+1) s (a+t.t.s.length):Nat):Int)))] [.obj (.row false 62 4 ((o++[(⟨t.k,t.t,ln',(a:Int)⟩:Tok)]).map enc))]) :
  ∀ (m g:Nat) (ln:Int),g+m=a->0<=ln->ln<=1+g->ln'=ln+(Q5 s g a:Nat) ->
  At Wz 0 (Za Xk F) Xm 1 59 [(0,.pv (.str s)),(5,.row 0 L 0 L),(6,.pv (.int .i64 ln)),(7,.pv (.int .i64 (g:Int))),(8,.pv (.int .i64 (a:Int))),(9,.ptr 1 0)] [.obj (.row false 62 4 (o.map enc)),.obj (.box [.pv (enc t.k),.pv (enc t.t),.pv (enc t.ln),.pv (enc t.o)])]:=by
 intro m
 induction m with
 | zero=>
  intro g ln h l h1 h2
  have e:g=a:=by omega
  subst e
  rw[MJ]at h2
  have q:ln'=ln:=by simpa using h2
  subst q
  refine a5c s ln' g g t o L (Yw (by simp) ⟨by simp[u];omega,?_⟩)
  have hb:=NU (s:=s) (a:=g+t.t.s.length) (by omega)
  have y:IntKind.i64.wrap ((g:Int)+(t.t.s.length:Int))=((g+t.t.s.length:Nat):Int):=by rw[Xl (by omega) (by omega)];omega
  rw[y,b7l]
  refine⟨Zl ((⟨s⟩:Str),((g+t.t.s.length:Nat):Int),()) rfl ?_,Zd ((⟨s⟩:Str),((g+t.t.s.length:Nat):Int),()) rfl ?_⟩
  ·show(decide (s.length<=1048576)&&(decide ((0:Int)<=((g+t.t.s.length:Nat):Int))&&decide (((g+t.t.s.length:Nat):Int)<=(s.length:Int))))=true
   rw[decide_eq_true (show s.length<=1048576 by omega),decide_eq_true (show(0:Int)<=((g+t.t.s.length:Nat):Int) by omega),decide_eq_true (show((g+t.t.s.length:Nat):Int)<=(s.length:Int) by omega)]
   rfl
  ·exact K
 | succ m ih=>
  intro g ln h l h1 h2
  have i:g<s.length:=by omega
  have r:s.getD (Int.toNat (g:Int)) 0=s[g]:=by rw[Int.toNat_natCast,List.getD_eq_getElem?_getD,List.getElem?_eq_getElem i];rfl
  have j:=NM (s:=s) (a:=g) (b:=g+1) (c:=a) (by omega) (by omega)
  rw[a4h i]at j
  refine a5c s ln g a t o L (Yt (by simp;omega) ⟨Vo i,?_⟩)
  rw[r,next (by omega)]
  refine Z5 (fun h3=> ?_) fun h3=> ?_
  ·rw[if_pos (show s[g]=10 from KM (n:=10) (by decide) h3)]at j
   rw[Xl (by omega) (by omega)]
   exact ih (g+1) (ln+1) (by omega) (by omega) (by omega) (by rw[h2,j];push_cast;omega)
  ·rw[if_neg (fun e=>by rw[e]at h3;exact h3 rfl)]at j
   exact ih (g+1) ln (by omega) l (by omega) (by rw[h2,j,Nat.zero_add])
theorem e1q{s:List UInt8}(hs:s.length<=20000){a:Nat}(ha:a<s.length){t:Tok}(hk:t.t.s.length+a<=s.length){ln':Int}{F:PV->Prop}
  (K:At Wz 0 (Za Xk F) Xm 0 59 [(0,.pv (.str s)),(5,.row 0 1 0 1),(6,.pv (.int .i64 ln')),(7,.pv (.int .i64 (a:Int))),(8,.pv (.int .i64 ((ZJ (s.length+1) s (a+t.t.s.length):Nat):Int)))] [.obj (.row false 62 4 ([(⟨t.k,t.t,ln',(a:Int)⟩:Tok)].map enc))]) :
  ∀ (m g:Nat) (ln:Int),g+m=a->0<=ln->ln<=1+g->ln'=ln+(Q5 s g a:Nat) ->
  At Wz 0 (Za Xk F) Xm 1 59 [(0,.pv (.str s)),(5,.pv (.sl 0 true [])),(6,.pv (.int .i64 ln)),(7,.pv (.int .i64 (g:Int))),(8,.pv (.int .i64 (a:Int))),(9,.ptr 0 0)] [.obj (.box [.pv (enc t.k),.pv (enc t.t),.pv (enc t.ln),.pv (enc t.o)])]:=by
 intro m
 induction m with
 | zero=>
  intro g ln h l h1 h2
  have e:g=a:=by omega
  subst e
  rw[MJ]at h2
  have q:ln'=ln:=by simpa using h2
  subst q
  refine a3y s ln' g g t (Yw (by simp) ?_)
  have u:IntKind.i64.wrap ((g:Int)+(t.t.s.length:Int))=((g+t.t.s.length:Nat):Int):=by rw[Xl (by omega) (by omega)];omega
  rw[u]
  refine⟨Zl ((⟨s⟩:Str),((g+t.t.s.length:Nat):Int),()) rfl ?_,Zd ((⟨s⟩:Str),((g+t.t.s.length:Nat):Int),()) rfl ?_⟩
  ·show(decide (s.length<=1048576)&&(decide ((0:Int)<=((g+t.t.s.length:Nat):Int))&&decide (((g+t.t.s.length:Nat):Int)<=(s.length:Int))))=true
   rw[decide_eq_true (show s.length<=1048576 by omega),decide_eq_true (show(0:Int)<=((g+t.t.s.length:Nat):Int) by omega),decide_eq_true (show((g+t.t.s.length:Nat):Int)<=(s.length:Int) by omega)]
   rfl
  ·exact K
 | succ m ih=>
  intro g ln h l h1 h2
  have i:g<s.length:=by omega
  have r:s.getD (Int.toNat (g:Int)) 0=s[g]:=by rw[Int.toNat_natCast,List.getD_eq_getElem?_getD,List.getElem?_eq_getElem i];rfl
  have j:=NM (s:=s) (a:=g) (b:=g+1) (c:=a) (by omega) (by omega)
  rw[a4h i]at j
  refine a3y s ln g a t (Yt (by simp;omega) ⟨Vo i,?_⟩)
  rw[r,next (by omega)]
  refine Z5 (fun h3=> ?_) fun h3=> ?_
  ·rw[if_pos (show s[g]=10 from KM (n:=10) (by decide) h3)]at j
   rw[Xl (by omega) (by omega)]
   exact ih (g+1) (ln+1) (by omega) (by omega) (by omega) (by rw[h2,j];push_cast;omega)
  ·rw[if_neg (fun e=>by rw[e]at h3;exact h3 rfl)]at j
   exact ih (g+1) ln (by omega) l (by omega) (by rw[h2,j,Nat.zero_add])
theorem Ap{s:List UInt8}(h:(Zu ⟨s⟩).1≠0):0<(Zu ⟨s⟩).2.s.length:=by
 cases s with
 | nil=>exact absurd rfl h
 | cons c r=>
  unfold Zu at h ⊢
  dsimp only at h ⊢
  have run : ∀ b,(digB c||(b&&lowB c))=true->0<(Yk ⟨c::r⟩ b).s.length:=fun b hb=>by
   unfold Yk
   dsimp only
   rw[List.takeWhile_cons,if_pos hb]
   simp
  split
  ·rename_i h1
   rw[if_pos h1]at h
   have hr:=run true (by rw[h1];simp)
   split
   ·exact hr
   ·rename_i q
    rw[if_neg q]at h
    split
    ·exact hr
    ·rename_i e
     rw[if_neg e]at h
     exact absurd rfl h
  ·rename_i h1
   rw[if_neg h1]at h
   split
   ·rename_i h2
    rw[if_pos h2]at h
    have hr:=run false (by rw[h2];rfl)
    split
    ·exact hr
    ·rename_i q
     rw[if_neg q]at h
     exact absurd rfl h
   ·rename_i h2
    rw[if_neg h2]at h
    rcases Bg Ze (c::r) (by decide)with q|q
    ·rw[q]at h;exact absurd rfl h
    ·exact List.length_pos_iff.2 q.2
theorem d6t{s:List UInt8}(hs:s.length<=20000)(R:R3 (List Tok) Int Int): ∀ (f i g a:Nat) (ln:Int) (o:List Tok) (L:Nat),i<=s.length->g<=i->Q5 s g i=0->a=ZJ (s.length+1) s i->s.length<i+f->0<=ln->ln<=1+g->L=o.length->L<=4000->R=KF f s i ln o ->
  At Wz 0 (Za Xk (Zg R)) Xm 0 59 [(0,.pv (.str s)),(5,.row 0 L 0 L),(6,.pv (.int .i64 ln)),(7,.pv (.int .i64 (g:Int))),(8,.pv (.int .i64 (a:Int)))] [.obj (.row false 62 4 (o.map enc))]:=by
 intro f
 induction f with
 | zero=>intro i g a ln o L hi _ _ _ h;omega
 | succ f ih=>
  intro i g a ln o L hi q hc ha hf z h1 k hL2 j
  have hb:=NU hi
  rw[<- ha]at hb
  have r:=NM (s:=s) q hb.1
  rw[hc,Nat.zero_add]at r
  rw[b4v hi ha,<- r]at j
  unfold b2f at j
  by_cases hlt:a<s.length
  ·have y:List.drop (Int.toNat (a:Int)) (List.take (List.length s) s)=s.drop a:=by rw[Int.toNat_natCast,List.take_length]
   have l:(s.drop a).isEmpty=false:=by
    cases e:s.drop a with
    | nil=>rw[List.drop_eq_nil_iff]at e;omega
    | cons _ _=>rfl
   rw[if_neg (by omega)]at j
   refine a4w s ln g a o L (Yt (XZ hlt) ⟨by simp;omega,?_⟩)
   rw[y]
   refine⟨Zl ((⟨s.drop a⟩:Str),()) rfl ?_,Zd ((⟨s.drop a⟩:Str),()) rfl (Z5 (fun h2=> ?_) fun h2=>Z5 (fun h3=> ?_) fun h3=> ?_)⟩
   ·show(decide ((s.drop a).length<=1048576)&& !(s.drop a).isEmpty)=true
    rw[l,decide_eq_true (show(s.drop a).length<=1048576 by rw[List.length_drop];omega)]
    rfl
   ·have h2:(Zu ⟨s.drop a⟩).1=0:=h2
    rw[if_pos h2]at j
    rw[j]
    exact Te Zx
   ·have h2:(Zu ⟨s.drop a⟩).1≠0:=h2
    have h3:o.length=4000:=by
     have h3:((L - 0:Nat):Int)=4000:=h3
     omega
    rw[if_neg h2,if_pos h3]at j
    rw[j]
    exact Te Zx
   ·have h2:(Zu ⟨s.drop a⟩).1≠0:=h2
    have h3:o.length≠4000:=by
     have h3 : ¬ ((L - 0:Nat):Int)=4000:=h3
     omega
    rw[if_neg h2,if_neg h3]at j
    have u:(Zu ⟨s.drop a⟩).2.s.length+a<=s.length:=by
     have:=UJ ⟨s.drop a⟩
     rw[List.length_drop]at this
     omega
    have hp:=Ap h2
    have hcl:=a2w s g a
    refine d5l hs hlt (t:=⟨(Zu ⟨s.drop a⟩).1,(Zu ⟨s.drop a⟩).2,0,0⟩) k (by omega) u (ln':=ln+(Q5 s g a:Nat)) ?_ (a - g) g ln (by omega) z h1 rfl
    exact ih (a+(Zu ⟨s.drop a⟩).2.s.length) a _ _ _ _ (by omega) (by omega) a3b rfl (by omega) (by omega) (by omega) (by rw[k];simp) (by omega) j
  ·rw[if_pos (by omega)]at j
   refine a4w s ln g a o L (Yw (WC hlt) ⟨by simp[k],?_⟩)
   rw[j,QY o k]
   exact Te (Kz o rfl)
theorem c5i: ∀ a:Str×Unit,decide (a.1.s.length<=1048576)=true->Zb Wz 0 (Za Xk (Zg (Z7 a.1))) Xm [] (Yz b1q (encL a)):=by
 rintro⟨⟨s⟩,⟨⟩⟩ h
 have hs0:s.length<=1048576:=of_decide_eq_true h
 show Zb Wz 0 (Za Xk (Zg (Z7 ⟨s⟩))) Xm [] (Yz b1q [.str s])
 unfold Z7
 refine e3z s (X8 (fun h1=> ?_) fun h1=> ?_)
 ·rw[if_pos (show 20000<s.length by omega)]
  exact Te Zx
 ·rw[if_neg (show ¬ 20000<s.length by omega)]
  have hs:s.length<=20000:=by omega
  refine⟨Zl ((⟨s⟩:Str),(0:Int),()) rfl ?_,Zd ((⟨s⟩:Str),(0:Int),()) rfl ?_⟩
  ·show(decide (s.length<=1048576)&&(decide ((0:Int)<=0)&&decide ((0:Int)<=(s.length:Int))))=true
   rw[h,decide_eq_true (show(0:Int)<=(s.length:Int) by omega)]
   rfl
  ·show At Wz 0 (Za Xk (Zg (KF (s.length+1) s 0 1 []))) Xm 0 59 [(0,.pv (.str s)),(5,.pv (.sl 0 true [])),(6,.pv (.int .i64 1)),(7,.pv (.int .i64 0)),(8,.pv (.int .i64 ((ZJ (s.length+1) s 0:Nat):Int)))] []
   have hb:=NU (s:=s) (a:=0) (Nat.zero_le _)
   rw[b4v (Nat.zero_le _) rfl]
   generalize ZJ (s.length+1) s 0=a at hb ⊢
   by_cases hlt:a<s.length
   ·have j:List.drop (Int.toNat (a:Int)) (List.take (List.length s) s)=s.drop a:=by rw[Int.toNat_natCast,List.take_length]
    have g:(s.drop a).isEmpty=false:=by
     cases e:s.drop a with
     | nil=>rw[List.drop_eq_nil_iff]at e;omega
     | cons _ _=>rfl
    unfold b2f
    rw[if_neg (show ¬ a=s.length by omega)]
    refine a4x s 1 0 a (Yt (XZ hlt) ⟨by simp;omega,?_⟩)
    rw[j]
    refine⟨Zl ((⟨s.drop a⟩:Str),()) rfl ?_,Zd ((⟨s.drop a⟩:Str),()) rfl (Z5 (fun h2=> ?_) fun h2=> ?_)⟩
    ·show(decide ((s.drop a).length<=1048576)&& !(s.drop a).isEmpty)=true
     rw[g,decide_eq_true (show(s.drop a).length<=1048576 by rw[List.length_drop];omega)]
     rfl
    ·have h2:(Zu ⟨s.drop a⟩).1=0:=h2
     rw[if_pos h2]
     exact Te Zx
    ·have h2:(Zu ⟨s.drop a⟩).1≠0:=h2
     rw[if_neg h2,if_neg (show ¬ ([]:List Tok).length=4000 by decide)]
     have i:(Zu ⟨s.drop a⟩).2.s.length+a<=s.length:=by
      have:=UJ ⟨s.drop a⟩
      rw[List.length_drop]at this
      omega
     have hp:=Ap h2
     have hcl:=a2w s 0 a
     refine e1q hs hlt (t:=⟨(Zu ⟨s.drop a⟩).1,(Zu ⟨s.drop a⟩).2,0,0⟩) i (ln':=1+(Q5 s 0 a:Nat)) ?_ (a - 0) 0 1 (by omega) (by omega) (by omega) rfl
     exact d6t hs _ s.length (a+(Zu ⟨s.drop a⟩).2.s.length) a _ _ _ _ (by omega) (by omega) a3b rfl (by omega) (by omega) (by omega) rfl (by omega) rfl
   ·unfold b2f
    rw[if_pos (show a=s.length by omega)]
    exact a4x s 1 0 a (Yw (WC hlt) (Te Zx))
def RS.tok(s:RS)(k:Nat):Tok:=s.l.getD (s.i+k) ⟨0,⟨[]⟩,0,0⟩
def RS.is(s:RS)(w:Str):Bool:= !s.bad&&(decide (s.i<s.l.length)&&(decide ((s.tok 0).t=w)&&(decide ((s.tok 0).k=2)||decide ((s.tok 0).k=4))))
def RS.step(s:RS):RS:=⟨s.l,s.i+1,s.bad,s.wide⟩
def RS.fail(s:RS):RS:=⟨s.l,s.i,true,s.wide⟩
def RS.wid(s:RS):RS:=⟨s.l,s.i,s.bad,true⟩
def RS.take(s:RS)(w:Str):Bool×RS:=if s.is w then(true,s.step)else(false,s)
def RS.need(s:RS)(w:Str):RS:=if s.is w then s.step else s.fail
def RS.kind(s:RS)(k:Int):Bool:= !s.bad&&(decide (s.i<s.l.length)&&decide ((s.tok 0).k=k))
def RS.line(s:RS):Int:=if s.i<s.l.length then(s.tok 0).ln else 0
def RS.name(s:RS):Str×RS:=if s.kind 1 then((s.tok 0).t,s.step)else(⟨[]⟩,s.fail)
def d3p{α:Type}(one:RS->α×RS):Nat->RS->List α->List α×RS
 | 0,s,o=>(o,s)
 | n+1,s,o=>if s.is ⟨[44]⟩then d3p one n (one s.step).2 (o++[(one s.step).1])else(o,s)
def BX{α:Type}(one:RS->α×RS)(s:RS):List α×RS:=d3p one (s.l.length+1) (one s).2 [(one s).1]
def RS.num(s:RS)(m:Int):Int×RS:=if s.kind 3 then(if (Y6 (s.tok 0).t).1<=m then((Y6 (s.tok 0).t).1,s.step)else(0,s.fail))else(0,s.fail)
def RS.chk(s:RS)(x:Lin×Int):Lin×RS:=if !s.bad&&(decide (x.2≠0) || !ZA x.1)then(⟨0,[]⟩,s.wid)else(x.1,s)
def RS.itemN(s:RS)(c:Int):Lin×RS:=s.name.2.chk (WA (Jz s.name.1) c)
def RS.item(s:RS):Lin×RS:=
 if s.kind 3 then(if (s.num 2147483648).2.kind 1 then(s.num 2147483648).2.itemN (s.num 2147483648).1 else(s.num 2147483648).2.chk (⟨(s.num 2147483648).1,[]⟩,0))
 else s.itemN 1
def sgM:Bool->Int
 | true=> -1
 | false=>1
def d7i:Nat->RS->Lin->Bool->Lin×RS
 | 0,s,l,m=>(l,s)
 | n+1,s,l,m=>
  if s.item.2.bad then(⟨0,[]⟩,s.item.2)
  else
   let b:=s.item.2.chk (ZE l s.item.1 (sgM m))
   if b.2.is ⟨[43]⟩then d7i n b.2.step b.1 false
   else if b.2.is ⟨[45]⟩then d7i n b.2.step b.1 true
   else b
def RS.size(s:RS):Lin×RS:=d7i (s.l.length+1) (s.take ⟨[45]⟩).2 ⟨0,[]⟩ (s.take ⟨[45]⟩).1
def RS.isRow(s:RS):Bool:=s.kind 1&&(decide (s.i+1<s.l.length)&&decide ((s.tok 1).t=⟨[46,46]⟩))
def RS.dims(s:RS)(w:Str):List Lin×RS:=if s.is w then BX RS.size s.step else([],s)
def RS.elem(s:RS):Str×RS:=if s.is ⟨WW⟩then(⟨WW⟩,s.step)else if s.is ⟨Xv⟩then(⟨Xv⟩,s.step)else(⟨[]⟩,s.fail)
def RS.func(s:RS):Str×RS:=if s.name.2.is ⟨[46]⟩then(⟨s.name.1.s++([46]++s.name.2.step.name.1.s)⟩,s.name.2.step.name.2)else(s.name.1,s.name.2)
def RS.oper(s:RS)(lev:Int):Str×Bool:=if s.kind 4 then((Us (s.tok 0).t false).a,(Us (s.tok 0).t false).c&&decide ((Us (s.tok 0).t false).b=lev))else(⟨[]⟩,false)
def d3j:Nat->RS->List Int->List Int×RS
 | 0,s,o=>(o,s)
 | n+1,s,o=>if s.kind 3 then d3j n (s.num 2147483648).2 (o++[(s.num 2147483648).1])else(o,s)
def d5z:Nat->RS->List Int->List Int×RS
 | 0,s,o=>(o,s)
 | n+1,s,o=>
  if s.kind 3||s.is ⟨[45]⟩then(if s.is ⟨[45]⟩then d5z n (s.step.num 2147483648).2 (o++[IntKind.i64.wrap (-(s.step.num 2147483648).1)])else d5z n (s.num 2147483648).2 (o++[(s.num 2147483648).1]))
  else(o,s)
def RS.con0(s:RS):RS:=(if s.kind 1 then s.step else s).need ⟨[91]⟩
def RS.con1(s:RS):List Int×RS:=d3j (s.l.length+1) s.con0 []
def RS.con2(s:RS):List Int×RS:=d5z (s.l.length+1) (s.con1.2.need ⟨[58]⟩) []
def RS.con(s:RS)(ln:Int):Tm×RS:=
 if s.kind 1&&decide ((s.tok 0).t≠⟨[98]⟩)then(.mk {Lr 3 ln with elem:=⟨WW⟩} [],s.fail)
 else(.mk {Lr 3 ln with elem:=⟨if s.kind 1 then Xv else WW⟩,dims:=s.con1.1,data:=s.con2.1} [],s.con2.2.need ⟨[93]⟩)
def RS.sizesN(s:RS):List Lin×RS:=if s.is ⟨[91]⟩then((BX RS.size s.step).1,(BX RS.size s.step).2.need ⟨[93]⟩)else([],s)
def RS.frameN(s:RS):Int×RS:=if s.is ⟨[123]⟩then((s.step.num 2147483648).1,(s.step.num 2147483648).2.need ⟨[125]⟩)else(0,s)
def RS.numM(s:RS):Int×RS:=s.num 2147483648
def RS.ranksN(s:RS):List Int×RS:=if s.is ⟨[64]⟩then((BX RS.numM (s.step.need ⟨[40]⟩)).1,(BX RS.numM (s.step.need ⟨[40]⟩)).2.need ⟨[41]⟩)else([],s)
def b8h(ex:RS->Tm×RS)(w:Str)(s:RS):List Tm×RS:=((BX ex s).1,(BX ex s).2.need w)
def d4h(ex:RS->Tm×RS)(s:RS):List Tm×RS:=if (s.need ⟨[40]⟩).is ⟨[41]⟩then([],(s.need ⟨[40]⟩).step)else b8h ex ⟨[41]⟩ (s.need ⟨[40]⟩)
def RS.plain(s:RS)(n:Str):Bool:=(!s.bad&&decide ((s.l.getD (s.i - 1) ⟨0,⟨[]⟩,0,0⟩).t=n))&&(!(s.is ⟨[91]⟩)&&(!(s.is ⟨[123]⟩)&&(!(s.is ⟨[64]⟩)&& !(s.is ⟨[40]⟩))))
def e1b(ex:RS->Tm×RS)(ln:Int)(n:Str)(s:RS):Tm×RS:=
 (.mk {Ki with kind:=6,line:=ln,name:=n,num:=s.sizesN.2.frameN.1,sizes:=s.sizesN.1,ranks:=s.sizesN.2.frameN.2.ranksN.1} (d4h ex s.sizesN.2.frameN.2.ranksN.2).1,(d4h ex s.sizesN.2.frameN.2.ranksN.2).2)
def d8y(ex:RS->Tm×RS)(ln:Int)(s:RS):Tm×RS:=if s.func.2.plain s.func.1 then(.mk (Um 1 ln s.func.1) [],s.func.2)else e1b ex ln s.func.1 s.func.2
def b7i(ex:RS->Tm×RS):Nat->RS->List Tm->List Tm×RS
 | 0,s,o=>(o,s)
 | k+1,s,o=>if s.bad then(o,s)else b7i ex k (ex (s.need ⟨[44]⟩)).2 (o++[(ex (s.need ⟨[44]⟩)).1])
def e7o(ex:RS->Tm×RS)(ln:Int)(s:RS):Tm×RS:=
 if s.is ⟨[102,111,108,100]⟩then
  let a:=(s.step.need ⟨[40]⟩).func
  let b:=b7i ex 2 a.2 []
  (.mk (Um 8 ln a.1) b.1,b.2.need ⟨[41]⟩)
 else
  let a:=((s.need ⟨[115,99,97,110]⟩).need ⟨[40]⟩).func
  let b:=b7i ex 1 a.2 []
  (.mk (Um 9 ln a.1) b.1,b.2.need ⟨[41]⟩)
def d9k(ln:Int)(s:RS):Tm×RS:=(.mk {Lr 4 ln with sizes:=[(s.need ⟨[91]⟩).size.1]} [],(s.need ⟨[91]⟩).size.2.need ⟨[93]⟩)
def e5i(ex:RS->Tm×RS)(s:RS):Tm×RS:=
 let ln:=s.line
 if s.kind 3 then(.mk {Um 2 ln ⟨WW⟩with num:=(s.num 2147483647).1} [],(s.num 2147483647).2)
 else if s.is ⟨[116,114,117,101]⟩then(.mk {Um 2 ln ⟨Xv⟩with num:=1} [],s.step)
 else if s.is ⟨[102,97,108,115,101]⟩then(.mk (Um 2 ln ⟨Xv⟩) [],s.step)
 else if s.kind 1 then d8y ex ln s
 else if s.is ⟨[40]⟩then((ex s.step).1,(ex s.step).2.need ⟨[41]⟩)
 else if s.is ⟨[91]⟩then(.mk (Lr 7 ln) (b8h ex ⟨[93]⟩ s.step).1,(b8h ex ⟨[93]⟩ s.step).2)
 else if s.is ⟨[35]⟩then s.step.con ln
 else if s.is ⟨[115,105,122,101]⟩then d9k ln s.step
 else e7o ex ln s
def e5n(ex un:RS->Tm×RS)(s:RS):Tm×RS:=
 let ln:=s.line
 if s.is ⟨[45]⟩then
  if s.step.kind 3 then(.mk {Um 2 ln ⟨WW⟩with num:=IntKind.i64.wrap (-(s.step.num 2147483648).1)} [],(s.step.num 2147483648).2)
  else(.mk (Um 6 ln ⟨[110,101,103]⟩) [(un s.step).1],(un s.step).2)
 else if s.is ⟨[33]⟩then(.mk (Um 6 ln ⟨[110,111,116]⟩) [(un s.step).1],(un s.step).2)
 else e5i ex s
def opR(e:RS->Tm×RS)(lev ln:Int):Nat->RS->Tm->Tm×RS
 | 0,s,l=>(l,s)
 | n+1,s,l=>
  if (s.oper lev).2 then opR e lev ln n (if ((e s.step).2.oper lev).2&&decide (lev=3)then(e s.step).2.fail else(e s.step).2) (.mk (Um 6 ln (s.oper lev).1) [l,(e s.step).1])
  else(l,s)
def a4r(un:RS->Tm×RS):Nat->RS->Tm×RS
 | 0,s=>un s
 | d+1,s=>opR (a4r un d) (5 - (d:Int)) s.line (s.l.length+1) (a4r un d s).2 (a4r un d s).1
def exR(ex un:RS->Tm×RS)(s:RS):Tm×RS:=
 if s.is ⟨[108,101,116]⟩then
  let ln:=s.line
  let a:=s.step.name
  let b:=ex (a.2.need ⟨[61]⟩)
  let c:=ex (b.2.need ⟨[105,110]⟩)
  (.mk (Um 5 ln a.1) [b.1,c.1],c.2)
 else a4r un 5 s
def TQ:Nat->(RS->Tm×RS)×(RS->Tm×RS)
 | 0=>(fun s=>(.mk Ki [],s),fun s=>(.mk Ki [],s))
 | N+1=>(exR (TQ N).1 (e5n (TQ N).1 (TQ N).2),e5n (TQ N).1 (TQ N).2)
def e8s(N:Nat):RS->Tm×RS:=(TQ N).1
def RS.expr(s:RS):Tm×RS:=e8s 4001 s
section
section
variable {N:Nat} {ex:RS->Tm×RS}
end
end
def r3S(r:R3 Tm Int Int):R3 TS Int Int:=⟨UU r.a,r.b,r.c⟩
end Go.Pl
namespace Go.Pl
open Go.RowKit
section
section
variable {o:Int} {s:PS}
end
section
variable {z:Int} {s:PS} {r:RS}
variable {tb:Bool}
end
section
variable {α β α' β':Type} {S R:α->β->Prop} {S' R':α'->β'->Prop} {K:Int->PS->Prop} {z:Int} {tb:Bool}
end
section
variable {α:Type}
end
end
open Enc (enc dec is)
open EncL (encL decL isL)
section
section
variable {ex:RS->Tm×RS} {s:RS} (h1:s.kind 3=false)
include h1
variable (h2:s.is ⟨[116,114,117,101]⟩=false)
include h2
variable (h3:s.is ⟨[102,97,108,115,101]⟩=false)
include h3
variable (h4:s.kind 1=false)
include h4
variable (h5:s.is ⟨[40]⟩=false)
include h5
variable (h6:s.is ⟨[91]⟩=false)
include h6
variable (h7:s.is ⟨[35]⟩=false)
include h7
variable (h8:s.is ⟨[115,105,122,101]⟩=false)
include h8
end
end
end Go.Pl
namespace Go.Pl
open Go.RowKit
section
section
variable {α:Type} {one one':PS->α×PS} {two:RS->α×RS} {K:Int->PS->Prop}
end
end
section
section
variable {ex:PS->Tm×PS} {ex':RS->Tm×RS}
end
section
variable {ex:PS->Tm×PS} {ex':RS->Tm×RS}
end
section
variable {un:PS->(Tm×Int)×PS} {un':RS->Tm×RS}
end
end
open Enc (enc dec is)
open EncL (encL decL isL)
theorem c3u{args:List AV}{os:List AObj}(h:Dh args os=true): ∃ s:List UInt8,args=[.pv (.str s)]∧os=[]:=by
 unfold Dh at h
 split at h
 ·exact⟨_,rfl,rfl⟩
 ·cases h
theorem d0z: ∀ args os,Dh args os=true->Zb a6p os.length (Z0 os.length PZ (fun r=>r=Ma args os)) RY [] (Z4 b3h args os):=fun args os h=>by
 obtain⟨s,rfl,rfl⟩:=c3u h
 exact c6b s
theorem c5k(r:R3 Tm Int Int):(enc r:PV)=enc (r3S r):=by
 obtain⟨a,b,c⟩:=r
 show PV.tup [enc a,enc b,enc c]=PV.tup [enc (UU a),enc b,enc c]
 rw[Ec]
theorem DN(s:Str):tW (Yy s).a=true:=by
 unfold Yy
 split
 ·rfl
 ·split
  ·rfl
  ·split
   ·rfl
   ·split
    ·rename_i h1 h2 h3 h4
     have hb:=He s.s
     have e:YE (X9 s.s).l=true:=(U7 ⟨s.s⟩).1
     have h:=Ge.exprA hb
     have g:=Ge.endp h.hi
     exact a6s hb e (g.good (by simpa using h2))
    ·rfl
end Go.Pl
namespace Go.Pl
open Go.RowKit
section
def UpL(l:List Tok):Prop:=l.Pairwise (fun a b=>a.ln<=b.ln)∧ ∀ t∈l,1<=t.ln∧0<=t.o
theorem UpL.nil:UpL []:=⟨.nil,fun t h=>by cases h⟩
theorem a5q: ∀ (f:Nat) (s:List UInt8) (i:Nat) (ln:Int) (o:List Tok),1<=ln->UpL o->(∀ t∈o,t.ln<=ln)->UpL (KF f s i ln o).a
 | 0,s,i,ln,o,h1,h2,h3=>h2
 | f+1,s,i,ln,o,h1,h2,h3=>by
  rw[KF]
  generalize he:ln+((Lib.countByte ((s.drop i).take (WV ⟨s.drop i⟩).toNat) 10:Nat):Int)=ln'
  have hge:ln<=ln':=by omega
  split
  ·exact h2
  ·split
   ·exact UpL.nil
   ·split
    ·exact UpL.nil
    ·refine a5q f s _ ln' _ (by omega) ⟨?_,?_⟩ ?_
     ·refine List.pairwise_append.2 ⟨h2.1,List.pairwise_singleton _ _,fun a ha b hb=> ?_⟩
      rw[List.mem_singleton]at hb
      subst hb
      have:=h3 a ha
      show a.ln<=ln'
      omega
     ·intro t ht
      rcases List.mem_append.1 ht with ht|ht
      ·exact h2.2 t ht
      ·rw[List.mem_singleton]at ht
       subst ht
       exact⟨show 1<=ln' by omega,Int.natCast_nonneg _⟩
     ·intro t ht
      rcases List.mem_append.1 ht with ht|ht
      ·have:=h3 t ht;omega
      ·rw[List.mem_singleton]at ht
       subst ht
       exact Int.le_refl _
theorem a5g(s:Str):UpL (Z7 s).a:=by
 unfold Z7
 split
 ·exact UpL.nil
 ·exact a5q _ _ _ _ _ (Int.le_refl _) UpL.nil (fun t h=>by cases h)
section
variable {N:Nat} {ex:PS->Tm×PS}
end
end
theorem Ge.exprS{s:PS}(h:Zc s=true):Ge s s.expr.2:=by
 have e:=ZG h
 exact Ge.expr (by unfold Yr;omega) e.2
def blB(c:UInt8):Bool:=c==32||(c==9||c==10)
def Yv:Nat->List UInt8->Nat
 | 0,_=>0
 | f+1,r=>match r with
  | []=>0
  | c::u=>if blB c then Yv f u+1
   else if List.isPrefixOf [47,47] (c::u)then(if Lib.indexByte (c::u) 10<0 then(c::u).length else(Lib.indexByte (c::u) 10).toNat+Yv f ((c::u).drop (Lib.indexByte (c::u) 10).toNat))
   else 0
theorem PN(c:UInt8):blB c=true ↔ c=32∨c=9∨c=10:=by
 unfold blB
 simp only[Bool.or_eq_true,beq_iff_eq]
theorem H6: ∀ (f:Nat) (s:List UInt8) (n:Nat),n<=s.length->ZJ f s n=n+Yv f (s.drop n)
 | 0,s,n,h=>rfl
 | f+1,s,n,h=>by
  rw[ZJ]
  rcases Nat.lt_or_ge n s.length with h1|h1
  ·have e:s.drop n=s[n]::s.drop (n+1):=List.drop_eq_getElem_cons h1
   have i:s.getD n 0=s[n]:=by rw[List.getD_eq_getElem?_getD,List.getElem?_eq_getElem h1];rfl
   rw[if_neg (by omega),e,i,Yv]
   by_cases hb:s[n]=32∨s[n]=9∨s[n]=10
   ·rw[if_pos hb,if_pos ((PN _).2 hb),H6 f s (n+1) h1]
    omega
   ·rw[if_neg hb,if_neg (fun k=>hb ((PN _).1 k))]
    split
    ·rename_i hp
     rw[<- e]
     have g:=TN 10 (s.drop n)
     rw[List.length_drop]at g
     split
     ·rename_i hi
      rw[List.length_drop]
      omega
     ·rename_i hi
      rw[H6 f s _ (by omega),List.drop_drop]
      omega
    ·rfl
  ·rw[if_pos h1,List.drop_eq_nil_of_le h1]
   rfl
theorem c2r(r:List UInt8):(WV ⟨r⟩).toNat=Yv (r.length+1) r:=by
 unfold WV
 rw[Int.toNat_natCast]
 have:=H6 (r.length+1) r 0 (Nat.zero_le _)
 rw[this,List.drop_zero,Nat.zero_add]
theorem Rf: ∀ (f:Nat) (r:List UInt8),Yv f r<=r.length:=fun f r=>by
 have h1:=H6 f r 0 (Nat.zero_le _)
 have h2:=(QD f r 0 (Nat.zero_le _)).2
 rw[h1,List.drop_zero]at h2
 omega
def AZ:Nat->List UInt8->Nat->Int->List Tok->R3 (List Tok) Int Int
 | 0,r,i,ln,o=>⟨o,0,0⟩
 | f+1,r,i,ln,o=>
  let k:=Yv (r.length+1) r
  let e:=ln+Lib.countByte (r.take k) 10
  if k=r.length then⟨o,0,0⟩
  else if (Zu ⟨r.drop k⟩).1=0 then⟨[],(i+k:Nat),6⟩
  else if o.length=4000 then⟨[],(i+k:Nat),3⟩
  else AZ f (r.drop (k+(Zu ⟨r.drop k⟩).2.s.length)) (i+k+(Zu ⟨r.drop k⟩).2.s.length) e (o++[⟨(Zu ⟨r.drop k⟩).1,(Zu ⟨r.drop k⟩).2,e,(i+k:Nat)⟩])
theorem b1m: ∀ (f:Nat) (s:List UInt8) (i:Nat) (ln:Int) (o:List Tok),i<=s.length->KF f s i ln o=AZ f (s.drop i) i ln o
 | 0,s,i,ln,o,h=>rfl
 | f+1,s,i,ln,o,h=>by
  have hk:=Rf ((s.drop i).length+1) (s.drop i)
  rw[KF,AZ,c2r,List.length_drop]at *
  generalize hk':Yv (s.length - i+1) (s.drop i)=k at *
  rw[List.drop_drop,List.drop_drop]
  have e:(i+k=s.length)=(k=s.length - i):=propext ⟨fun _=>by omega,fun _=>by omega⟩
  simp only[e]
  split
  ·rfl
  ·split
   ·rfl
   ·split
    ·rfl
    ·have g:=UJ ⟨s.drop (i+k)⟩
     have g:(Zu ⟨s.drop (i+k)⟩).2.s.length<=(s.drop (i+k)).length:=g
     rw[List.length_drop]at g
     rw[b1m f s _ _ _ (by omega),Nat.add_assoc]
theorem c0k(s:List UInt8)(h:s.length<=20000):Z7 ⟨s⟩=AZ (s.length+1) s 0 1 []:=by
 unfold Z7
 rw[if_neg (by show ¬ 20000<s.length;omega),b1m _ _ _ _ _ (Nat.zero_le _),List.drop_zero]
theorem b8t{p:UInt8->Bool}{w r0:List UInt8}(h:(w++r0).takeWhile p=w){c:UInt8}{r:List UInt8}(hc:p c=false):(w++c::r).takeWhile p=w:=by
 have ha : ∀ x∈w,p x=true:=by
  intro x e
  have h2:=List.all_takeWhile (p:=p) (l:=w++r0)
  rw[h]at h2
  exact List.all_eq_true.1 h2 x e
 rw[List.takeWhile_append_of_pos ha,List.takeWhile_cons,if_neg (by rw[hc];decide),List.append_nil]
theorem a5b{c:UInt8}: ∀ {x w r:List UInt8},c ∉ x->x <+: w++c::r->x <+: w
 | [],w,r,_,_=>List.nil_prefix
 | y::x,[],r,hc,h=>by
  rw[List.nil_append,List.cons_prefix_cons]at h
  exact absurd (by rw[h.1];simp) hc
 | y::x,a::w,r,hc,h=>by
  rw[List.cons_append,List.cons_prefix_cons]at h
  rw[List.cons_prefix_cons]
  exact⟨h.1,a5b (fun k=>hc (by simp[k])) h.2⟩
theorem MX{c:UInt8}{k:Int}{w r0 r:List UInt8}(g:k≠0): ∀ (l:List (List UInt8)),(∀ x∈l,c ∉ x)->Zh l (w++r0)=(k,⟨w⟩)->Zh l (w++c::r)=(k,⟨w⟩)
 | [],_,h=>by
  have:(0:Int)=k:=congrArg Prod.fst h
  exact absurd this.symm g
 | x::l,hl,h=>by
  rw[Zh]at h ⊢
  split at h
  ·have e:x=w:=congrArg (fun q:Int×Str=>q.2.s) h
   rw[if_pos (by rw[List.isPrefixOf_iff_prefix,e];exact List.prefix_append _ _)]
   exact h
  ·rename_i hn
   rw[if_neg (fun q=>hn ?_)]
   ·exact MX g l (fun y i=>hl y (by simp[i])) h
   ·rw[List.isPrefixOf_iff_prefix]at q ⊢
    exact(a5b (hl x (by simp)) q).trans (List.prefix_append _ _)
theorem LW: ∀ (l:List (List UInt8)) {u:List UInt8} {k:Int} {w:List UInt8},k≠0->Zh l u=(k,⟨w⟩)->w∈l∧w <+: u
 | [],u,k,w,hk,h=>by
  have:(0:Int)=k:=congrArg Prod.fst h
  exact absurd this.symm hk
 | x::l,u,k,w,hk,h=>by
  rw[Zh]at h
  split at h
  ·rename_i g
   have e:x=w:=congrArg (fun q:Int×Str=>q.2.s) h
   rw[<- e]
   exact⟨by simp,List.isPrefixOf_iff_prefix.1 g⟩
  ·have:=LW l hk h
   exact⟨by simp[this.1],this.2⟩
def c9r(c:UInt8):Prop:=c=10∨c=32
def d8f(R:Str):Int×Str:=if Wx.contains R.s then(2,R)else if nameI R.s then(1,R)else(0,⟨[]⟩)
def d5x(R:Str):Int×Str:=if (Y6 R).2 then(3,R)else(0,⟨[]⟩)
theorem a2u(a:UInt8)(u:List UInt8):Zu ⟨a::u⟩=if lowB a then d8f (Yk ⟨a::u⟩ true)else if digB a then d5x (Yk ⟨a::u⟩ false)else Zh Ze (a::u):=rfl
theorem a4l{R w:Str}{k:Int}(e:k≠0)(h:d8f R=(k,w)):R=w:=by
 unfold d8f at h
 split at h
 ·exact congrArg Prod.snd h
 ·split at h
  ·exact congrArg Prod.snd h
  ·exact absurd (show(0:Int)=k from congrArg Prod.fst h).symm e
theorem a6i{R w:Str}{k:Int}(e:k≠0)(h:d5x R=(k,w)):R=w:=by
 unfold d5x at h
 split at h
 ·exact congrArg Prod.snd h
 ·exact absurd (show(0:Int)=k from congrArg Prod.fst h).symm e
theorem a7j{w r0:List UInt8}{k:Int}(i:w≠[])(g:k≠0)(h:Zu ⟨w++r0⟩=(k,⟨w⟩)){c:UInt8}(hc:c9r c)(r:List UInt8):Zu ⟨w++c::r⟩=(k,⟨w⟩):=by
 have hd : ∀ b:Bool,(digB c||(b&&lowB c))=false:=fun b=>by rcases hc with rfl|rfl <;> cases b <;> decide
 cases w with
 | nil=>exact absurd rfl i
 | cons a w=>
  have run : ∀ b:Bool,Yk ⟨a::(w++r0)⟩ b=⟨a::w⟩->Yk ⟨a::(w++c::r)⟩ b=⟨a::w⟩:=fun b e=>by
   have e:((a::w)++r0).takeWhile (fun c=>digB c||(b&&lowB c))=a::w:=congrArg Str.s e
   exact congrArg Str.mk (b8t e (hd b))
  rw[List.cons_append,a2u]at h ⊢
  by_cases q:lowB a=true
  ·rw[if_pos q]at h ⊢
   have e:=a4l g h
   rw[run true e]
   rw[e]at h
   exact h
  ·rw[if_neg q]at h ⊢
   by_cases q1:digB a=true
   ·rw[if_pos q1]at h ⊢
    have e:=a6i g h
    rw[run false e]
    rw[e]at h
    exact h
   ·rw[if_neg q1]at h ⊢
    refine MX (w:=a::w) (r0:=r0) g Ze ?_ h
    rcases hc with rfl|rfl <;> decide
theorem b0q{u:List UInt8}{k:Int}{w:List UInt8}(g:k≠0)(h:Zu ⟨u⟩=(k,⟨w⟩)):(∃ r0,u=w++r0)∧ ∃ a v,w=a::v∧(lowB a=true∨digB a=true∨w∈Ze):=by
 cases u with
 | nil=>
  have:(0:Int)=k:=congrArg Prod.fst h
  exact absurd this.symm g
 | cons a u=>
  have j : ∀ b:Bool,(digB a||(b&&lowB a))=true->Yk ⟨a::u⟩ b=⟨w⟩->(∃ r0,a::u=w++r0)∧ ∃ v,w=a::v:=fun b ha e=>by
   have e:(a::u).takeWhile (fun c=>digB c||(b&&lowB c))=w:=congrArg Str.s e
   refine⟨⟨(a::u).dropWhile (fun c=>digB c||(b&&lowB c)),?_⟩,?_⟩
   ·rw[<- e,List.takeWhile_append_dropWhile]
   ·rw[List.takeWhile_cons,if_pos ha]at e
    exact⟨_,e.symm⟩
  rw[a2u]at h
  by_cases q:lowB a=true
  ·rw[if_pos q]at h
   obtain⟨h1,v,h2⟩:=j true (by rw[q];simp) (a4l g h)
   exact⟨h1,a,v,h2,Or.inl q⟩
  ·rw[if_neg q]at h
   by_cases q1:digB a=true
   ·rw[if_pos q1]at h
    obtain⟨h1,v,h2⟩:=j false (by rw[q1];rfl) (a6i g h)
    exact⟨h1,a,v,h2,Or.inr (Or.inl q1)⟩
   ·rw[if_neg q1]at h
    obtain⟨h1,h2⟩:=LW Ze g h
    have i : ∀ x∈Ze,x≠[]:=by decide
    cases w with
    | nil=>exact absurd rfl (i _ h1)
    | cons b v=>
     obtain⟨r0,hr⟩:=h2
     exact⟨⟨r0,hr.symm⟩,b,v,rfl,Or.inr (Or.inr h1)⟩
structure Gd (t:Tok):Prop where
 k:t.k≠0
 ne:t.t.s≠[]
 ft : ∀ c r,c9r c->Zu ⟨t.t.s++c::r⟩=(t.k,t.t)
 st : ∀ c r f,c9r c->Yv f (t.t.s++c::r)=0
theorem KY{a:UInt8}{u:List UInt8}(h1:blB a=false)(h2:List.isPrefixOf [47,47] (a::u)=false): ∀ f,Yv f (a::u)=0
 | 0=>rfl
 | f+1=>by rw[Yv,if_neg (by rw[h1];decide),if_neg (by rw[h2];decide)]
theorem b6u{a:UInt8}(h:lowB a=true∨digB a=true):blB a=false∧a≠47:=by
 have g:blB a=false ↔ a≠32∧a≠9∧a≠10:=by
  rw[<- Bool.not_eq_true,PN]
  constructor
  ·intro h;exact⟨fun e=>h (Or.inl e),fun e=>h (Or.inr (Or.inl e)),fun e=>h (Or.inr (Or.inr e))⟩
  ·rintro⟨h1,h2,h3⟩ (e|e|e)
   ·exact h1 e
   ·exact h2 e
   ·exact h3 e
 rw[g]
 unfold lowB digB at h
 refine⟨⟨?_,?_,?_⟩,?_⟩ <;> (rintro rfl;rcases h with h|h <;> revert h <;> decide)
theorem c3r{u:List UInt8}{ln o:Int}(g:(Zu ⟨u⟩).1≠0):Gd ⟨(Zu ⟨u⟩).1,(Zu ⟨u⟩).2,ln,o⟩:=by
 obtain⟨⟨r0,hr⟩,a,v,hw,hc⟩:=b0q (u:=u) (w:=(Zu ⟨u⟩).2.s) g rfl
 have ne:(Zu ⟨u⟩).2.s≠[]:=by rw[hw];simp
 refine⟨g,ne,fun c r h=> ?_,fun c r f h=> ?_⟩
 ·exact a7j (r0:=r0) ne g (by rw[<- hr]) h r
 ·show Yv f ((Zu ⟨u⟩).2.s++c::r)=0
  rcases hc with hc|hc|hc
  ·obtain⟨h1,h2⟩:=b6u (Or.inl hc)
   rw[hw]
   refine KY h1 ?_ f
   rw[List.isPrefixOf,show((47:UInt8)==a)=false from beq_eq_false_iff_ne.2 (Ne.symm h2)];rfl
  ·obtain⟨h1,h2⟩:=b6u (Or.inr hc)
   rw[hw]
   refine KY h1 ?_ f
   rw[List.isPrefixOf,show((47:UInt8)==a)=false from beq_eq_false_iff_ne.2 (Ne.symm h2)];rfl
  ·generalize (Zu ⟨u⟩).2.s=w at *
   have hs : ∀ x∈Ze,∀ a v,x=a::v->blB a=false∧(a=47->v=[]):=by
    intro x i a v e
    subst e
    have : ∀ y∈Ze,(match y with|[]=>true|a::v=> !(blB a)&&(!(a==47)||v.isEmpty))=true:=by decide
    have:=this _ i
    simp only[Bool.and_eq_true,Bool.not_eq_true',Bool.or_eq_true,List.isEmpty_iff]at this
    exact⟨this.1,fun e=>this.2.resolve_left (by rw[e];decide)⟩
   obtain⟨h1,h2⟩:=hs w hc a v hw
   rw[hw]
   refine KY h1 ?_ f
   by_cases ha:a=47
   ·rw[h2 ha,ha]
    rcases h with rfl|rfl <;> rfl
   ·rw[List.isPrefixOf,show((47:UInt8)==a)=false from beq_eq_false_iff_ne.2 (Ne.symm ha)];rfl
def SL(l:List Tok):Nat:=(l.map fun t=>t.t.s.length).sum
theorem Ol: ∀ (f:Nat) (r:List UInt8) (i:Nat) (ln:Int) (o:List Tok),(∀ t∈o,Gd t)->(∀ t∈(AZ f r i ln o).a,Gd t)∧SL (AZ f r i ln o).a<=SL o+r.length∧(∀ t∈(AZ f r i ln o).a,t∈o∨t.ln<=ln+r.length)
 | 0,r,i,ln,o,h=>⟨h,Nat.le_add_right _ _,fun t ht=>Or.inl ht⟩
 | f+1,r,i,ln,o,h=>by
  have hk:=Rf (r.length+1) r
  rw[AZ]
  generalize Yv (r.length+1) r=k at *
  split
  ·exact⟨h,Nat.le_add_right _ _,fun t ht=>Or.inl ht⟩
  ·split
   ·exact⟨fun t ht=>(by cases ht),Nat.zero_le _,fun t ht=>(by cases ht)⟩
   ·rename_i h1 h2
    split
    ·exact⟨fun t ht=>(by cases ht),Nat.zero_le _,fun t ht=>(by cases ht)⟩
    ·have e:=UJ ⟨r.drop k⟩
     have e:(Zu ⟨r.drop k⟩).2.s.length<=(r.drop k).length:=e
     rw[List.length_drop]at e
     have hc:List.count 10 (r.take k)<=k:=Nat.le_trans List.count_le_length (by rw[List.length_take];omega)
     have hc:((Lib.countByte (r.take k) 10:Nat):Int)<=k:=by show((List.count 10 (r.take k):Nat):Int)<=k;omega
     have g:=Ol f (r.drop (k+(Zu ⟨r.drop k⟩).2.s.length)) (i+k+(Zu ⟨r.drop k⟩).2.s.length) (ln+Lib.countByte (r.take k) 10) (o++[⟨(Zu ⟨r.drop k⟩).1,(Zu ⟨r.drop k⟩).2,ln+Lib.countByte (r.take k) 10,(i+k:Nat)⟩]) (by
      intro t ht
      rcases List.mem_append.1 ht with ht|ht
      ·exact h t ht
      ·rw[List.mem_singleton]at ht
       subst ht
       exact c3r h2)
     obtain⟨j,q,l⟩:=g
     refine⟨j,?_,fun t ht=> ?_⟩
     ·refine Nat.le_trans q ?_
      unfold SL
      rw[List.map_append,List.sum_append,List.length_drop]
      simp only[List.map_cons,List.map_nil,List.sum_cons,List.sum_nil]
      omega
     ·rcases l t ht with h3|h3
      ·rcases List.mem_append.1 h3 with h3|h3
       ·exact Or.inl h3
       ·rw[List.mem_singleton]at h3
        subst h3
        right
        show ln+((Lib.countByte (r.take k) 10:Nat):Int)<=ln+r.length
        omega
      ·right
       rw[List.length_drop]at h3
       omega
theorem Bt(s:List UInt8):(∀ t∈(Z7 ⟨s⟩).a,Gd t)∧SL (Z7 ⟨s⟩).a<=s.length∧ ∀ t∈(Z7 ⟨s⟩).a,t.ln<=1+s.length:=by
 by_cases h:s.length<=20000
 ·rw[c0k s h]
  obtain⟨h1,h2,h3⟩:=Ol (s.length+1) s 0 1 [] (fun t ht=>by cases ht)
  refine⟨h1,by simpa [SL]using h2,fun t ht=> ?_⟩
  rcases h3 t ht with h3|h3
  ·cases h3
  ·exact h3
 ·have e:Z7 ⟨s⟩=⟨[],0,3⟩:=by unfold Z7;rw[if_pos (by show 20000<s.length;omega)]
  rw[e]
  exact⟨fun t ht=>(by cases ht),Nat.zero_le _,fun t ht=>(by cases ht)⟩
def K4(lead trail:List UInt8):List Tok->List UInt8
 | []=>[]
 | t::ts=>lead++(t.t.s++(trail++K4 lead trail ts))
structure SpK (lead trail:List UInt8):Prop where
 tr : ∃ c tl,trail=c::tl∧c9r c
 b1 : ∀ r f,(∀ f,Yv f r=0)->lead.length<=f->Yv f (lead++r)=lead.length
 b2 : ∀ r f,(∀ f,Yv f r=0)->trail.length+lead.length<=f->Yv f (trail++(lead++r))=trail.length+lead.length
 b3 : ∀ f,trail.length<=f->Yv f trail=trail.length
def e6h(x y:Tok):Prop:=y.k=x.k∧y.t=x.t
inductive FT:List Tok->List Tok->Prop where
 | nil:FT [] []
 | cons {x y:Tok} {a b:List Tok}:e6h x y->FT a b->FT (x::a) (y::b)
theorem FT.len{a b:List Tok}(h:FT a b):b.length=a.length:=by
 induction h with
 | nil=>rfl
 | cons _ _ ih=>rw[List.length_cons,List.length_cons,ih]
theorem FT.get{a b:List Tok}(h:FT a b)(d:Tok): ∀ k,k<a.length->e6h (a.getD k d) (b.getD k d):=by
 induction h with
 | nil=>intro k e;cases e
 | cons hs _ ih=>
  intro k e
  cases k with
  | zero=>exact hs
  | succ k=>exact ih k (Nat.lt_of_succ_lt_succ e)
theorem a1y{lead trail:List UInt8}(K:SpK lead trail): ∀ (ts:List Tok),(∀ t∈ts,Gd t)-> ∀ (h:List UInt8) (f i:Nat) (ln:Int) (o:List Tok),(h=[]∨h=trail)->(h++K4 lead trail ts).length<f->o.length+ts.length<=4000-> ∃ o',AZ f (h++K4 lead trail ts) i ln o=⟨o++o',0,0⟩∧FT ts o'
 | [],_,h,0,i,ln,o,hb,hf,ho=>by omega
 | [],_,h,f+1,i,ln,o,hb,hf,ho=>by
  refine⟨[],?_,.nil⟩
  have e:h++K4 lead trail []=h:=List.append_nil _
  have k:Yv (h.length+1) h=h.length:=by
   rcases hb with rfl|rfl
   ·rfl
   ·exact K.b3 _ (by omega)
  rw[e,AZ,k,if_pos rfl,List.append_nil]
 | t::ts,hg,h,0,i,ln,o,hb,hf,ho=>by omega
 | t::ts,hg,h,f+1,i,ln,o,hb,hf,ho=>by
  have g:=hg t (by simp)
  obtain⟨c,tl,j,hc⟩:=K.tr
  have hs : ∀ f,Yv f (t.t.s++(trail++K4 lead trail ts))=0:=fun f=>by rw[j,List.cons_append];exact g.st c _ f hc
  have q:Zu ⟨t.t.s++(trail++K4 lead trail ts)⟩=(t.k,t.t):=by rw[j,List.cons_append];exact g.ft c _ hc
  have hr:h++K4 lead trail (t::ts)=(h++lead)++(t.t.s++(trail++K4 lead trail ts)):=by rw[K4,List.append_assoc]
  have hlen:0<t.t.s.length:=List.length_pos_iff.2 g.ne
  rw[hr]at hf ⊢
  have y:Yv (((h++lead)++(t.t.s++(trail++K4 lead trail ts))).length+1) ((h++lead)++(t.t.s++(trail++K4 lead trail ts)))=(h++lead).length:=by
   rcases hb with rfl|rfl
   ·rw[List.nil_append]
    exact K.b1 _ _ hs (by rw[List.length_append];omega)
   ·rw[List.append_assoc,K.b2 _ _ hs (by rw[List.length_append,List.length_append];omega),List.length_append]
  have hd:((h++lead)++(t.t.s++(trail++K4 lead trail ts))).drop (h++lead).length=t.t.s++(trail++K4 lead trail ts):=List.drop_left
  have u:((h++lead)++(t.t.s++(trail++K4 lead trail ts))).drop ((h++lead).length+t.t.s.length)=trail++K4 lead trail ts:=by
   rw[<- List.drop_drop,hd];exact List.drop_left
  have l : ¬ (h++lead).length=((h++lead)++(t.t.s++(trail++K4 lead trail ts))).length:=by
   rw[List.length_append («as» :=h++lead),List.length_append («as» :=t.t.s)];omega
  have r:(trail++K4 lead trail ts).length<f:=by
   rw[List.length_append («as» :=h++lead),List.length_append («as» :=t.t.s)]at hf;omega
  rw[AZ,y,hd,q,if_neg l,if_neg g.k,if_neg (by rw[List.length_cons]at ho;omega),u]
  obtain⟨o',e,F⟩:=a1y K ts (fun t ht=>hg t (by simp[ht])) trail f (i+(h++lead).length+t.t.s.length) (ln+Lib.countByte (((h++lead)++(t.t.s++(trail++K4 lead trail ts))).take (h++lead).length) 10) (o++[⟨t.k,t.t,ln+Lib.countByte (((h++lead)++(t.t.s++(trail++K4 lead trail ts))).take (h++lead).length) 10,(i+(h++lead).length:Nat)⟩]) (Or.inr rfl) r (by rw[List.length_append,List.length_cons]at *;simp only[List.length_nil]at *;omega)
  refine⟨⟨t.k,t.t,ln+Lib.countByte (((h++lead)++(t.t.s++(trail++K4 lead trail ts))).take (h++lead).length) 10,(i+(h++lead).length:Nat)⟩::o',?_,.cons ⟨rfl,rfl⟩ F⟩
  rw[e,List.append_assoc]
  exact rfl
theorem b9d{lead trail:List UInt8}: ∀ (ts:List Tok),(∀ t∈ts,Gd t)->(K4 lead trail ts).length<=SL ts*(1+lead.length+trail.length)∧ts.length<=SL ts
 | [],_=>⟨Nat.zero_le _,Nat.le_refl _⟩
 | t::ts,h=>by
  obtain⟨h1,h2⟩:=b9d (lead:=lead) (trail:=trail) ts (fun t ht=>h t (by simp[ht]))
  have g:0<t.t.s.length:=List.length_pos_iff.2 (h t (by simp)).ne
  have e:SL (t::ts)=t.t.s.length+SL ts:=rfl
  have i:t.t.s.length*(1+lead.length+trail.length)=t.t.s.length+t.t.s.length*(lead.length+trail.length):=by rw[Nat.add_assoc,Nat.mul_add,Nat.mul_one]
  have k:lead.length+trail.length<=t.t.s.length*(lead.length+trail.length):=Nat.le_mul_of_pos_left _ g
  refine⟨?_,by rw[e,List.length_cons];omega⟩
  rw[e,K4,List.length_append,List.length_append,List.length_append,Nat.add_mul,i]
  omega
theorem d1a{lead trail:List UInt8}(K:SpK lead trail){ts:List Tok}(g : ∀ t∈ts,Gd t)(h:(K4 lead trail ts).length<=20000)(hn:ts.length<=4000):(Z7 ⟨K4 lead trail ts⟩).c=0∧FT ts (Z7 ⟨K4 lead trail ts⟩).a:=by
 obtain⟨o',e,F⟩:=a1y K ts g [] ((K4 lead trail ts).length+1) 0 1 [] (Or.inl rfl) (by rw[List.nil_append];omega) (by rw[List.length_nil];omega)
 rw[List.nil_append,List.nil_append]at e
 rw[c0k _ h,e]
 exact⟨rfl,F⟩
theorem XP{a:UInt8}{u:List UInt8}{f:Nat}(h:blB a=true):Yv (f+1) (a::u)=Yv f u+1:=by rw[Yv,if_pos h]
theorem kd0:SpK [] [10]:=by
 refine⟨⟨10,[],rfl,Or.inl rfl⟩,fun r f h _=>h f,fun r f h e=> ?_,fun f e=> ?_⟩
 ·obtain⟨f,rfl⟩ : ∃ g,f=g+1:=⟨f - 1,by simp at e;omega⟩
  show Yv (f+1) (10::r)=1
  rw[XP rfl,h]
 ·obtain⟨f,rfl⟩ : ∃ g,f=g+1:=⟨f - 1,by simp at e;omega⟩
  rw[XP rfl]
  cases f <;> rfl
theorem kd1:SpK [32,9] [32]:=by
 refine⟨⟨32,[],rfl,Or.inr rfl⟩,fun r f h e=> ?_,fun r f h e=> ?_,fun f e=> ?_⟩
 ·obtain⟨f,rfl⟩ : ∃ g,f=g+2:=⟨f - 2,by simp at e;omega⟩
  show Yv (f+2) (32::9::r)=2
  rw[XP rfl,XP rfl,h]
 ·obtain⟨f,rfl⟩ : ∃ g,f=g+3:=⟨f - 3,by simp at e;omega⟩
  show Yv (f+3) (32::32::9::r)=3
  rw[XP rfl,XP rfl,XP rfl,h]
 ·obtain⟨f,rfl⟩ : ∃ g,f=g+1:=⟨f - 1,by simp at e;omega⟩
  rw[XP rfl]
  cases f <;> rfl
theorem e6q(f:Nat)(r:List UInt8):Yv (f+1) (47::47::32::99::10::r)=4+Yv f (10::r):=by
 rw[Yv,if_neg (by decide),if_pos (show List.isPrefixOf [47,47] (47::47::32::99::10::r)=true from rfl)]
 have e:Lib.indexByte (47::47::32::99::10::r) 10=4:=rfl
 rw[e]
 rfl
theorem kd2:SpK [] [32,47,47,32,99,10]:=by
 have e : ∀ r f,(∀ f,Yv f r=0)->Yv (f+3) (32::47::47::32::99::10::r)=6:=fun r f h=>by
  rw[XP rfl,e6q,XP rfl,h]
 refine⟨⟨32,[47,47,32,99,10],rfl,Or.inr rfl⟩,fun r f h _=>h f,fun r f h i=> ?_,fun f i=> ?_⟩
 ·obtain⟨f,rfl⟩ : ∃ g,f=g+3:=⟨f - 3,by simp at i;omega⟩
  exact e r f h
 ·obtain⟨f,rfl⟩ : ∃ g,f=g+3:=⟨f - 3,by simp at i;omega⟩
  exact e [] f fun f=>by cases f <;> rfl
section
mutual
def zT(z:Int->Int):Tm->Tm
 | .mk n ks=>.mk {n with line:=z n.line} (QM z ks)
def QM(z:Int->Int):List Tm->List Tm
 | []=>[]
 | k::ks=>zT z k::QM z ks
end
theorem a5k(z:Int->Int)(a b:List Tm):QM z (a++b)=QM z a++QM z b:=by
 induction a with
 | nil=>rfl
 | cons x a ih=>show zT z x::QM z (a++b)=zT z x::(QM z a++QM z b);rw[ih]
def a8f(y:Tok)(w:List UInt8):Bool:=(decide (y.k=2)||decide (y.k=4))&&decide (y.t=⟨w⟩)
structure Calm (y:Tok):Prop where
 dot:a8f y [46]=false
 sq:a8f y [91]=false
 br:a8f y [123]=false
 at_:a8f y [64]=false
 par:a8f y [40]=false
 op:y.k=4->(Us y.t false).b=0
structure Cm where
 A:List Tok
 B:List Tok
 d:Nat
 n:Nat
 zA:Int
 zB:Int
 z:Int->Int
 oz:Int->Int
 Wk:Int->Prop
 E:Prop
def Cm.a(c:Cm)(k:Nat):Tok:=c.A.getD k ⟨0,⟨[]⟩,0,c.zA⟩
def Cm.b(c:Cm)(k:Nat):Tok:=c.B.getD k ⟨0,⟨[]⟩,0,c.zB⟩
structure Al (c:Cm) (x y:Tok):Prop where
 k:y.k=x.k
 t:y.t=x.t
 ln:c.z y.ln=c.z x.ln
 o:c.oz y.o=c.oz x.o
structure CmOK (c:Cm):Prop where
 al : ∀ k,k<c.n->Al c (c.a k) (c.b (c.d+k))
 wk : ∀ p,c.n<=p->p<=c.A.length-> ¬ c.Wk (c.a p).o
 en:c.E->c.n=c.A.length∧Calm (c.b (c.d+c.n))
 lx:YE c.A=true
 ly:YE c.B=true
 la:c.A.length<=4000
 lb:c.B.length<=4000
structure Rl (c:Cm) (s t:PS):Prop where
 la:s.l=c.A
 lb:t.l=c.B
 za:s.sz=c.zA
 zb:t.sz=c.zB
 i:t.i=c.d+s.i
 sb:s.bad=false
 tb:t.bad=false
 big:t.big=s.big
 hs:s.i<=s.l.length
 ht:t.i<=t.l.length
def Ku{α β:Type}(c:Cm)(V:α->β->Prop)(a:α×PS)(b:β×PS):Prop:=
 (a.2.bad=false->a.2.i<c.n->Rl c a.2 b.2∧V a.1 b.1)∧(a.2.bad=true->c.Wk a.2.wr->b.2.bad=true∧c.oz b.2.wr=c.oz a.2.wr)
def YY{α β:Type}(c:Cm)(V:α->β->Prop)(a:α×PS)(b:β×PS):Prop:=
 (a.2.bad=false->(a.2.i<c.n∨c.E∧a.2.i=c.n)->Rl c a.2 b.2∧V a.1 b.1)∧(a.2.bad=true->c.Wk a.2.wr->b.2.bad=true∧c.oz b.2.wr=c.oz a.2.wr)
def TT(_ _:Unit):Prop:=True
section
variable {α β γ δ:Type} {c:Cm} {s t:PS} {V:α->β->Prop} {W:γ->δ->Prop} {a:α×PS} {b:β×PS} {a':γ×PS} {b':δ×PS}
theorem YY.out(h:YY c V a b):Ku c V a b:=⟨fun h1 h2=>h.1 h1 (Or.inl h2),h.2⟩
theorem Rl.outE(h:Rl c s t){x:α}{y:β}(v:V x y):YY c V (x,s) (y,t):=⟨fun _ _=>⟨h,v⟩,fun k=>by have k:s.bad=true:=k;rw[h.sb]at k;cases k⟩
theorem Ge.wk(hc:CmOK c){u:PS}(g:Ge s u)(j:s.l=c.A)(e:s.sz=c.zA)(sb:s.bad=false)(hn:c.n<=s.i)(h:u.bad=true): ¬ c.Wk u.wr:=by
 obtain⟨p,h1,h2,h3⟩:=g.at_ sb h
 rw[j]at h2 h3
 rw[e]at h3
 rw[h3]
 exact hc.wk p (by omega) h2
theorem Ku.bind(hc:CmOK c)(h:Ku c V a b)(u:a.2.l=c.A)(y:a.2.sz=c.zA)(g:Ge a.2 a'.2)(j:Ge b.2 b'.2)(k:Rl c a.2 b.2->V a.1 b.1->a.2.i<c.n->Ku c W a' b'):Ku c W a' b':=by
 cases e:a.2.bad with
 | true=>
  refine⟨fun h1=>(by rw[g.bad e]at h1;cases h1),fun h1 h2=> ?_⟩
  rw[g.keep e]at h2 ⊢
  have h3:=h.2 e h2
  exact⟨j.bad h3.1,by rw[j.keep h3.1];exact h3.2⟩
 | false=>
  by_cases q:a.2.i<c.n
  ·have r:=h.1 e q
   exact k r.1 r.2 q
  ·refine⟨fun _ h2=>absurd h2 (by have:=g.le;omega),fun h1 h2=>absurd h2 (g.wk hc u y e (by omega) h1)⟩
theorem YY.bind(hc:CmOK c)(h:Ku c V a b)(u:a.2.l=c.A)(y:a.2.sz=c.zA)(g:Ge a.2 a'.2)(j:Ge b.2 b'.2)(hd:c.E->a.2.bad=false->a.2.i=c.n->a'.2.bad=true)(k:Rl c a.2 b.2->V a.1 b.1->a.2.i<c.n->YY c W a' b'):YY c W a' b':=by
 cases e:a.2.bad with
 | true=>
  refine⟨fun h1=>(by rw[g.bad e]at h1;cases h1),fun h1 h2=> ?_⟩
  rw[g.keep e]at h2 ⊢
  have h3:=h.2 e h2
  exact⟨j.bad h3.1,by rw[j.keep h3.1];exact h3.2⟩
 | false=>
  by_cases q:a.2.i<c.n
  ·have r:=h.1 e q
   exact k r.1 r.2 q
  ·refine⟨fun h1 h2=> ?_,fun h1 h2=>absurd h2 (g.wk hc u y e (by omega) h1)⟩
   have:=g.le
   rcases h2 with h2|⟨h2,h3⟩
   ·omega
   ·rw[hd h2 e (by omega)]at h1;cases h1
theorem YY.bindE(hc:CmOK c)(h:YY c V a b)(u:a.2.l=c.A)(y:a.2.sz=c.zA)(g:Ge a.2 a'.2)(j:Ge b.2 b'.2)(k:Rl c a.2 b.2->V a.1 b.1->(a.2.i<c.n∨c.E∧a.2.i=c.n)->YY c W a' b'):YY c W a' b':=by
 cases e:a.2.bad with
 | true=>
  refine⟨fun h1=>(by rw[g.bad e]at h1;cases h1),fun h1 h2=> ?_⟩
  rw[g.keep e]at h2 ⊢
  have h3:=h.2 e h2
  exact⟨j.bad h3.1,by rw[j.keep h3.1];exact h3.2⟩
 | false=>
  by_cases q:a.2.i<c.n∨c.E∧a.2.i=c.n
  ·have r:=h.1 e q
   exact k r.1 r.2 q
  ·refine⟨fun h1 h2=> ?_,fun h1 h2=>absurd h2 (g.wk hc u y e (by omega) h1)⟩
   have:=g.le
   exfalso
   apply q
   rcases h2 with h2|⟨h2,h3⟩
   ·left;omega
   ·rcases Nat.lt_or_ge a.2.i c.n with h4|h4
    ·exact Or.inl h4
    ·exact Or.inr ⟨h2,by omega⟩
theorem Rl.pk(hc:CmOK c)(h:Rl c s t){j:Nat}(hi:s.i+j<c.n):Al c (s.peek j) (t.peek j):=by
 have g:s.peek j=c.a (s.i+j):=by unfold PS.peek Cm.a;rw[h.la,h.za]
 have e:t.peek j=c.b (c.d+(s.i+j)):=by unfold PS.peek Cm.b;rw[h.lb,h.zb,h.i,Nat.add_assoc]
 rw[g,e]
 exact hc.al _ hi
theorem Rl.nx(hc:CmOK c)(h:Rl c s t)(hi:s.i<c.n)(w:Str):t.next w=s.next w:=by
 have k:=h.pk hc (j:=0) hi
 unfold PS.next
 rw[k.k,k.t]
theorem Rl.stepR(h:Rl c s t)(h1:s.i<s.l.length)(h2:t.i<t.l.length):Rl c s.step t.step:=⟨h.la,h.lb,h.za,h.zb,by show t.i+1=c.d+(s.i+1);have:=h.i;omega,h.sb,h.tb,h.big,h1,h2⟩
theorem Rl.step(hc:CmOK c)(h:Rl c s t)(hi:s.i<c.n)(e:(s.peek 0).k≠0):Rl c s.step t.step:=
 h.stepR (YR e) (YR (by rw[(h.pk hc (j:=0) hi).k];exact e))
theorem Rl.stepN(hc:CmOK c)(h:Rl c s t)(hi:s.i<c.n){w:Str}(hn:s.next w=true):Rl c s.step t.step:=
 h.stepR (Zj hn) (Zj (by rw[h.nx hc hi];exact hn))
theorem Rl.failE(hc:CmOK c)(h:Rl c s t)(hi:s.i<c.n)(x:α)(y:β):YY c V (x,s.fail) (y,t.fail):=by
 refine⟨fun k=>(by cases k),fun _ _=>⟨rfl,?_⟩⟩
 show c.oz (if t.bad then t.wr else(t.peek 0).o)=c.oz (if s.bad then s.wr else(s.peek 0).o)
 rw[h.sb,h.tb]
 exact(h.pk hc (j:=0) hi).o
theorem YY.dead(hc:CmOK c)(h:Rl c s t)(g:Ge s a.2)(hn:c.n<=s.i)(hd:c.E->s.i=c.n->a.2.bad=true):YY c V a b:=by
 refine⟨fun h1 h2=> ?_,fun h1 h2=>absurd h2 (g.wk hc h.la h.za h.sb hn h1)⟩
 have:=g.le
 rcases h2 with h2|⟨h2,h3⟩
 ·omega
 ·rw[hd h2 (by omega)]at h1;cases h1
theorem Ku.dead(hc:CmOK c)(h:Rl c s t)(g:Ge s a.2)(hn:c.n<=s.i):Ku c V a b:=
 ⟨fun _ h2=>absurd h2 (by have:=g.le;omega),fun h1 h2=>absurd h2 (g.wk hc h.la h.za h.sb hn h1)⟩
theorem YY.map{ε ζ:Type}{U:ε->ζ->Prop}(o:YY c V a b){x:ε}{y:ζ}(k:V a.1 b.1->U x y):YY c U (x,a.2) (y,b.2):=⟨fun h1 h2=>⟨(o.1 h1 h2).1,k (o.1 h1 h2).2⟩,o.2⟩
theorem bdO(hc:CmOK c)(h:Rl c s t)(g:Ge s a.2)(o:Ku c V a b)(i:Ge a.2 a'.2)(e:Ge b.2 b'.2)(k:Rl c a.2 b.2->V a.1 b.1->Ku c W a' b'):Ku c W a' b':=Ku.bind hc o (g.l.trans h.la) (g.sz.trans h.za) i e fun r v _=>k r v
theorem bdS(hc:CmOK c)(h:Rl c s t)(g:Ge s a.2)(o:Ku c V a b)(j:Ge a.2 a'.2)(e:Ge b.2 b'.2)(hd:c.E->a.2.bad=false->a.2.i=c.n->a'.2.bad=true)(k:Rl c a.2 b.2->V a.1 b.1->YY c W a' b'):YY c W a' b':=YY.bind hc o (g.l.trans h.la) (g.sz.trans h.za) j e hd fun r v _=>k r v
theorem PL(hc:CmOK c)(h:Rl c s t)(g:Ge s a.2)(o:YY c V a b)(i:Ge a.2 a'.2)(e:Ge b.2 b'.2)(k:Rl c a.2 b.2->V a.1 b.1->YY c W a' b'):YY c W a' b':=YY.bindE hc o (g.l.trans h.la) (g.sz.trans h.za) i e fun r v _=>k r v
theorem Vk{u:PS}(h:u.l.length<=u.i)(w:Str):u.next w=false:=by
 unfold PS.next
 rw[WL (by omega)]
 rfl
theorem V7{u:PS}(h:u.l.length<=u.i)(w:Str):(u.need w).bad=true:=by
 unfold PS.need
 rw[if_neg (by rw[Vk h];decide)]
 rfl
theorem WR(hc:CmOK c)(h:Rl c s t){u:PS}(g:Ge s u)(e:c.E)(hi:u.i=c.n):u.l.length<=u.i:=by
 rw[g.l,h.la,hi,(hc.en e).1]
 exact Nat.le_refl _
theorem YJ(hc:CmOK c)(h:Rl c s t)(w:Str):YY c TT ((),s.need w) ((),t.need w):=by
 by_cases hi:s.i<c.n
 ·unfold PS.need
  rw[h.nx hc hi]
  split
  ·exact(h.stepN hc hi ‹_›).outE trivial
  ·exact h.failE hc hi () ()
 ·exact YY.dead hc h (a:=((),s.need w)) (Ge.need h.hs) (by omega) fun g e=>V7 (WR hc h (Ge.refl h.hs) g e) w
theorem GH(hc:CmOK c)(h:Rl c s t):YY c Eq s.name t.name:=by
 by_cases hi:s.i<c.n
 ·have k:=h.pk hc (j:=0) hi
  unfold PS.name
  rw[k.k]
  split
  ·rename_i q
   exact(h.step hc hi (by rw[q];decide)).outE k.t.symm
  ·exact h.failE hc hi _ _
 ·refine YY.dead hc h (Ge.name h.hs) (by omega) fun g e=> ?_
  have e1:=WR hc h (Ge.refl h.hs) g e
  unfold PS.name
  rw[WL (by omega)]
  rfl
theorem J7(hc:CmOK c)(h:Rl c s t)(m:Int):YY c Eq (s.num m) (t.num m):=by
 by_cases hi:s.i<c.n
 ·have k:=h.pk hc (j:=0) hi
  unfold PS.num
  rw[k.k,k.t]
  split
  ·rename_i q
   exact(h.step hc hi (by rw[q.1];decide)).outE rfl
  ·exact h.failE hc hi _ _
 ·refine YY.dead hc h (Ge.num h.hs) (by omega) fun g e=> ?_
  have e1:=WR hc h (Ge.refl h.hs) g e
  unfold PS.num
  rw[WL (by omega),if_neg (fun q=>by have:=q.1;simp at this)]
  rfl
theorem Rl.nb(h:Rl c s t): ¬ s.bad=true:=by rw[h.sb];decide
theorem Rl.nt(h:Rl c s t): ¬ t.bad=true:=by rw[h.tb];decide
theorem Rl.wide(h:Rl c s t)(b:Bool):Rl c (s.wide b) (t.wide b):=⟨h.la,h.lb,h.za,h.zb,h.i,h.sb,h.tb,by show(t.big||b)=(s.big||b);rw[h.big],h.hs,h.ht⟩
end
end
section
section
variable {c:Cm} {s t:PS}
theorem Pt(hc:CmOK c)(h:Rl c s t):Ku c Eq s.item t.item:=by
 by_cases hi:s.i<c.n
 ·have k:=h.pk hc (j:=0) hi
  have g : ∀ r:PS,r.i<=r.l.length->Ge r (if (r.peek 0).k=1∧r.bad=false then r.name.2.note (WA (Jz r.name.1) (0:Int))else((⟨0,[]⟩:Lin),r)).2:=fun r hr=>by
   split
   ·exact(Ge.name hr).trans (Ge.note (Ge.name hr).hi)
   ·exact Ge.refl hr
  have u : ∀ s:PS,s.i<=s.l.length->Ge (s.num 2147483648).2 (if ((s.num 2147483648).2.peek 0).k=1∧(s.num 2147483648).2.bad=false then(s.num 2147483648).2.name.2.note (WA (Jz (s.num 2147483648).2.name.1) (s.num 2147483648).1)else(⟨(s.num 2147483648).1,[]⟩,(s.num 2147483648).2)).2:=fun s hs=>by
   have q:=Ge.num (m:=2147483648) hs
   split
   ·exact(Ge.name q.hi).trans (Ge.note (Ge.name q.hi).hi)
   ·exact Ge.refl q.hi
  unfold PS.item
  rw[k.k]
  split
  ·exact((GH hc h).map (fun e=>by rw[e])).out
  ·refine bdO hc h (Ge.num h.hs) (J7 hc h 2147483648).out (u s h.hs) (u t h.ht) fun r v=> ?_
   by_cases hj:(s.num 2147483648).2.i<c.n
   ·have z:=r.pk hc (j:=0) hj
    rw[z.k,r.sb,r.tb]
    split
    ·refine bdO hc r (Ge.name r.hs) (GH hc r).out (Ge.note (Ge.name r.hs).hi) (Ge.note (Ge.name r.ht).hi) fun A y=> ?_
     rw[v,y]
     exact(Rl.outE (A.wide _) rfl).out
    ·exact(r.outE (by rw[v])).out
   ·exact Ku.dead hc r (u s h.hs) (by omega)
 ·exact Ku.dead hc h (Ge.item h.hs) (by omega)
theorem Bn(hc:CmOK c): ∀ (n m:Nat) {s t:PS} {l:Lin},Rl c s t->Yr n s->Yr m t->Ku c Eq (linLoop n s l) (linLoop m t l)
 | 0,_,s,t,l,h,f1,f2=>by unfold Yr at f1;omega
 | _+1,0,s,t,l,h,f1,f2=>by unfold Yr at f2;omega
 | n+1,m+1,s,t,l,h,f1,f2=>by
  by_cases hi:s.i<c.n
  ·rw[linLoop,linLoop,if_neg h.nb,if_neg h.nt,h.nx hc hi,h.nx hc hi]
   have go : ∀ {w:Str} (k:Int),s.next w=true->Ku c Eq (linLoop n (s.step.item.2.note (ZE l s.step.item.1 k)).2 (ZE l s.step.item.1 k).1) (linLoop m (t.step.item.2.note (ZE l t.step.item.1 k)).2 (ZE l t.step.item.1 k).1):=fun {w} k q=>by
    have j:=h.stepN hc hi q
    have u:t.next w=true:=by rw[h.nx hc hi];exact q
    have e:=Ge.item j.hs
    have g:=Ge.item j.ht
    refine bdO hc j e (Pt hc j) ((Ge.note e.hi).trans (Ge.linLoop n (Ge.note (x:=ZE l s.step.item.1 k) e.hi).hi)) ((Ge.note g.hi).trans (Ge.linLoop m (Ge.note (x:=ZE l t.step.item.1 k) g.hi).hi)) fun r v=> ?_
    rw[v]
    exact Bn hc n m (r.wide _) (((f1.step (Zj q)).ge e).ge (Ge.note e.hi)) (((f2.step (Zj u)).ge g).ge (Ge.note g.hi))
   split
   ·exact go 1 ‹_›
   ·split
    ·exact go (-1) ‹_›
    ·exact((h.wide _).outE rfl).out
  ·exact Ku.dead hc h (Ge.linLoop _ h.hs) (by omega)
theorem c7x(hc:CmOK c)(h:Rl c s t):Ku c Eq s.lin0 t.lin0:=by
 by_cases hi:s.i<c.n
 ·unfold PS.lin0
  rw[h.nx hc hi]
  split
  ·rename_i q
   have e:=h.stepN hc hi q
   have g:=Ge.item e.hs
   have j:=Ge.item e.ht
   refine bdO hc e g (Pt hc e) (Ge.note g.hi) (Ge.note j.hi) fun r v=> ?_
   rw[v]
   exact((r.wide _).outE rfl).out
  ·exact Pt hc h
 ·exact Ku.dead hc h (Ge.lin0 h.hs) (by omega)
theorem WG{s u:PS}(g:Ge s u):Yr (s.l.length+1) u:=by unfold Yr;rw[g.l];omega
theorem TH(hc:CmOK c)(h:Rl c s t):Ku c Eq s.linear t.linear:=by
 have e:=Ge.lin0 h.hs
 have g:=Ge.lin0 h.ht
 refine bdO hc h e (c7x hc h) (Ge.linLoop _ e.hi) (Ge.linLoop _ g.hi) fun r v=> ?_
 unfold PS.linear
 rw[v]
 exact Bn hc _ _ r (WG e) (WG g)
section
variable {α β:Type} {one:PS->α×PS} {one':PS->β×PS} {V:α->β->Prop} {VL:List α->List β->Prop} {P P':PS->Prop}
theorem LJ(hc:CmOK c)(g : ∀ s u,P s->Ge s u->P u)(e : ∀ s u,P' s->Ge s u->P' u)(B : ∀ s,P s->s.i<=s.l.length->Ge s (one s).2)(D : ∀ s,P' s->s.i<=s.l.length->Ge s (one' s).2)
  (ho : ∀ s t,P s->P' t->Rl c s t->Ku c V (one s) (one' t)) (E : ∀ o o' x y,VL o o'->V x y->VL (o++[x]) (o'++[y])) : ∀ (n m:Nat) {s t:PS} {o:List α} {o':List β},P s->P' t->Rl c s t->Yr n s->Yr m t->VL o o'->Ku c VL (moreL one n s o) (moreL one' m t o')
 | 0,_,s,t,o,o',p,p',h,f1,f2,v=>by unfold Yr at f1;omega
 | _+1,0,s,t,o,o',p,p',h,f1,f2,v=>by unfold Yr at f2;omega
 | n+1,m+1,s,t,o,o',p,p',h,f1,f2,v=>by
  by_cases hi:s.i<c.n
  ·rw[moreL,moreL,if_neg h.nb,if_neg h.nt,h.nx hc hi]
   split
   ·rename_i q
    have F:t.next ⟨[44]⟩=true:=by rw[h.nx hc hi];exact q
    have z:=h.stepN hc hi q
    have k:=Ge.step (Zj q)
    have C:=Ge.step (Zj F)
    have j:=B _ (g _ _ p k) z.hs
    have A:=D _ (e _ _ p' C) z.ht
    refine bdO hc z j (ho _ _ (g _ _ p k) (e _ _ p' C) z) (Ge.moreL g B n (g _ _ (g _ _ p k) j) j.hi) (Ge.moreL e D m (e _ _ (e _ _ p' C) A) A.hi) fun r w=> ?_
    exact LJ hc g e B D ho E n m (g _ _ (g _ _ p k) j) (e _ _ (e _ _ p' C) A) r ((f1.step (Zj q)).ge j) ((f2.step (Zj F)).ge A) (E _ _ _ _ v w)
   ·exact(h.outE v).out
  ·exact Ku.dead hc h (Ge.moreL g B (n+1) p h.hs) (by omega)
theorem Bz(hc:CmOK c)(j : ∀ s u,P s->Ge s u->P u)(e : ∀ s u,P' s->Ge s u->P' u)(z : ∀ s,P s->s.i<=s.l.length->Ge s (one s).2)(A : ∀ s,P' s->s.i<=s.l.length->Ge s (one' s).2)
  (ho : ∀ s t,P s->P' t->Rl c s t->Ku c V (one s) (one' t)) (B : ∀ o o' x y,VL o o'->V x y->VL (o++[x]) (o'++[y])) (C : ∀ x y,V x y->VL [x] [y]) {s t:PS} (p:P s) (q:P' t) (h:Rl c s t):Ku c VL (listL one s) (listL one' t):=by
 have g:=z _ p h.hs
 have k:=A _ q h.ht
 refine bdO hc h g (ho _ _ p q h) (Ge.moreL j z _ (j _ _ p g) g.hi) (Ge.moreL e A _ (e _ _ q k) k.hi) fun r w=> ?_
 exact LJ hc j e z A ho B _ _ (j _ _ p g) (e _ _ q k) r (WG g) (WG k) (C _ _ w)
end
theorem LK{α:Type}{one:PS->α×PS}(hc:CmOK c)(g : ∀ s,s.i<=s.l.length->Ge s (one s).2)(ho : ∀ s t,Rl c s t->Ku c Eq (one s) (one t))(h:Rl c s t):Ku c Eq (listL one s) (listL one t):=
 Bz (P:=fun _=>True) (P':=fun _=>True) (VL:=Eq) hc (fun _ _ _ _=>trivial) (fun _ _ _ _=>trivial) (fun s _ h=>g s h) (fun s _ h=>g s h) (fun s t _ _ r=>ho s t r) (fun o o' x y e j=>by rw[e,j]) (fun x y e=>by rw[e]) trivial trivial h
theorem Ob(hc:CmOK c): ∀ (n m:Nat) {s t:PS} {o:List Int},Rl c s t->Yr n s->Yr m t->Ku c Eq (numsP n s o) (numsP m t o)
 | 0,_,s,t,l,h,f1,f2=>by unfold Yr at f1;omega
 | _+1,0,s,t,l,h,f1,f2=>by unfold Yr at f2;omega
 | n+1,m+1,s,t,o,h,f1,f2=>by
  by_cases hi:s.i<c.n
  ·have k:=h.pk hc (j:=0) hi
   rw[numsP,numsP,k.k]
   split
   ·rename_i q
    have e:=Ge.num (m:=2147483648) h.hs
    have g:=Ge.num (m:=2147483648) h.ht
    refine bdO hc h e (J7 hc h 2147483648).out (Ge.numsP n e.hi) (Ge.numsP m g.hi) fun r v=> ?_
    rw[v]
    have e1:s.i+1<=(s.num 2147483648).2.i:=by
     have:=UE (s:=s) (m:=2147483648) r.sb;omega
    have e2:t.i+1<=(t.num 2147483648).2.i:=by
     have:=UE (s:=t) (m:=2147483648) r.tb;omega
    have i1:=YR (s:=s) (by rw[q];decide)
    have i2:=YR (s:=t) (by rw[k.k,q];decide)
    refine Ob hc n m r ?_ ?_
    ·unfold Yr at f1 ⊢;rw[e.l];omega
    ·unfold Yr at f2 ⊢;rw[g.l];omega
   ·exact(h.outE rfl).out
  ·exact Ku.dead hc h (Ge.numsP _ h.hs) (by omega)
theorem Rl.sgs(hc:CmOK c)(h:Rl c s t)(hi:s.i<c.n):Rl c s.sgs t.sgs∧t.sgn=s.sgn:=by
 unfold PS.sgs PS.sgn
 rw[h.nx hc hi]
 split
 ·exact⟨h.stepN hc hi ‹_›,rfl⟩
 ·exact⟨h,rfl⟩
theorem a6t(hc:CmOK c): ∀ (n m:Nat) {s t:PS} {o:List Int},Rl c s t->Yr n s->Yr m t->Ku c Eq (datP n s o) (datP m t o)
 | 0,_,s,t,l,h,f1,f2=>by unfold Yr at f1;omega
 | _+1,0,s,t,l,h,f1,f2=>by unfold Yr at f2;omega
 | n+1,m+1,s,t,o,h,f1,f2=>by
  by_cases hi:s.i<c.n
  ·rw[datP,datP,if_neg h.nb,if_neg h.nt,h.nx hc hi]
   split
   ·exact(h.outE rfl).out
   ·obtain⟨r0,y⟩:=h.sgs hc hi
    have j:=Ge.sgs h.hs
    have k:=Ge.sgs h.ht
    have e:=Ge.num (m:=2147483648) r0.hs
    have g:=Ge.num (m:=2147483648) r0.ht
    refine bdO hc r0 e (J7 hc r0 2147483648).out (Ge.datP n e.hi) (Ge.datP m g.hi) fun r v=> ?_
    rw[v,y]
    have n1:=UE (s:=s.sgs) (m:=2147483648) r.sb
    have n2:=UE (s:=t.sgs) (m:=2147483648) r.tb
    have l1:=j.le
    have l2:=k.le
    have q:=e.hi
    have u:=g.hi
    refine a6t hc n m r ?_ ?_
    ·unfold Yr at f1 ⊢;rw[(j.trans e).l]at q ⊢;omega
    ·unfold Yr at f2 ⊢;rw[(k.trans g).l]at u ⊢;omega
  ·exact Ku.dead hc h (Ge.datP _ h.hs) (by omega)
theorem d7w(hc:CmOK c)(h:Rl c s t):YY c Eq s.arr t.arr:=by
 have A:=Ge.ar1 h.hs
 have b1:=Ge.ar1 h.ht
 have z:Ge s.ar1 s.ar2.2:=Ge.numsP _ A.hi
 have b2:Ge t.ar1 t.ar2.2:=Ge.numsP _ b1.hi
 have r:Ge s.ar2.2 (s.ar2.2.need ⟨[58]⟩):=Ge.need z.hi
 have b3:Ge t.ar2.2 (t.ar2.2.need ⟨[58]⟩):=Ge.need b2.hi
 have g:Ge (s.ar2.2.need ⟨[58]⟩) s.ar3.2:=Ge.datP _ r.hi
 have B:Ge (t.ar2.2.need ⟨[58]⟩) t.ar3.2:=Ge.datP _ b3.hi
 have D:Ge s.ar3.2 s.arr.2:=Ge.need g.hi
 have C:Ge t.ar3.2 t.arr.2:=Ge.need B.hi
 have dead : ∀ {u:PS},Ge s u->Ge u s.ar3.2->c.E->u.i=c.n->s.arr.2.bad=true:=fun H K y e=>by
  refine V7 ?_ _
  have:=WR hc h H y e
  have k:=(H.trans K).l
  have:=K.le
  rw[H.l]at *
  rw[k]
  omega
 by_cases hi:s.i<c.n
 ·have k:=h.pk hc (j:=0) hi
  have L:t.arB=s.arB:=by unfold PS.arB;rw[k.k,k.t]
  have F:Rl c (if s.arB then s.step else s) (if t.arB then t.step else t):=by
   rw[L]
   split
   ·rename_i q
    refine h.step hc hi ?_
    unfold PS.arB at q
    simp only[Bool.and_eq_true,decide_eq_true_eq]at q
    rw[q.1];decide
   ·exact h
  have g0:=Ge.ar0 h.hs
  refine PL (a:=((),s.ar1)) (b:=((),t.ar1)) hc F (Ge.need F.hs) (YJ hc F ⟨[91]⟩) (z.trans (r.trans (g.trans D))) (b2.trans (b3.trans (B.trans C))) fun J _=> ?_
  refine bdS (a:=s.ar2) (b:=t.ar2) hc J z (Ob hc _ _ J (WG A) (WG b1)) (r.trans (g.trans D)) (b3.trans (B.trans C)) (fun y _ e=>dead (A.trans z) (r.trans g) y e) fun M N=> ?_
  refine PL (a:=((),s.ar2.2.need ⟨[58]⟩)) (b:=((),t.ar2.2.need ⟨[58]⟩)) hc M r (YJ hc M _) (g.trans D) (B.trans C) fun I _=> ?_
  refine bdS (a:=s.ar3) (b:=t.ar3) hc I g (a6t hc _ _ I (WG (A.trans (z.trans r))) (WG (b1.trans (b2.trans b3)))) D C (fun y _ e=>dead (A.trans (z.trans (r.trans g))) (Ge.refl g.hi) y e) fun Q O=> ?_
  unfold PS.arr
  rw[L,N,O]
  exact(YJ hc Q ⟨[93]⟩).map (fun _=>rfl)
 ·exact YY.dead hc h (Ge.arr h.hs) (by omega) fun y e=>dead (Ge.refl h.hs) (Ge.ar3 h.hs) y e
end
end
section
def VT(c:Cm)(a b:Tm):Prop:=zT c.z a=zT c.z b
def VTs(c:Cm)(a b:List Tm):Prop:=QM c.z a=QM c.z b
def VU(c:Cm)(a b:Tm×Int):Prop:=VT c a.1 b.1∧c.z a.2=c.z b.2
def SX(c:Cm)(N M:Nat)(ex ex':PS->Tm×PS):Prop:= ∀ s t,Yr N s->Yr M t->Rl c s t->YY c (VT c) (ex s) (ex' t)
def SU(c:Cm)(N M:Nat)(un e:PS->(Tm×Int)×PS):Prop:= ∀ s t,Yr N s->Yr M t->Rl c s t->YY c (VU c) (un s) (e t)
def In(c:Cm)(s:PS):Prop:=s.i<c.n∨c.E∧s.i=c.n
section
variable {c:Cm} {s t:PS}
theorem UM{n g:Nd}{ks e:List Tm}(h:({n with line:=c.z n.line}:Nd)={g with line:=c.z g.line})(i:VTs c ks e):VT c (.mk n ks) (.mk g e):=by
 have i:QM c.z ks=QM c.z e:=i
 show zT c.z _=zT c.z _
 rw[zT,zT,h,i]
theorem XM{x y:Tm}{a b:List Tm}(h:VT c x y)(k:VTs c a b):VTs c (x::a) (y::b):=by
 have h:zT c.z x=zT c.z y:=h
 have k:QM c.z a=QM c.z b:=k
 show QM c.z (x::a)=QM c.z (y::b)
 rw[QM,QM,h,k]
theorem a4j{x y:Tm}{a b:List Tm}(k:VTs c a b)(h:VT c x y):VTs c (a++[x]) (b++[y]):=by
 have h:zT c.z x=zT c.z y:=h
 have k:QM c.z a=QM c.z b:=k
 show QM c.z _=QM c.z _
 rw[a5k,a5k,k]
 show _++[zT c.z x]=_++[zT c.z y]
 rw[h]
theorem Rl.nxE(hc:CmOK c)(h:Rl c s t)(q:In c s){w:List UInt8}(j:c.E->a8f (c.b (c.d+c.n)) w=false):t.next ⟨w⟩=s.next ⟨w⟩:=by
 rcases q with q|⟨g,q⟩
 ·exact h.nx hc q _
 ·rw[Vk (WR hc h (Ge.refl h.hs) g q)]
  have e:t.peek 0=c.b (c.d+c.n):=by unfold PS.peek Cm.b;rw[h.lb,h.zb,h.i,q];rfl
  have k:=j g
  rw[<- e]at k
  exact k
theorem In.lt(hc:CmOK c)(h:Rl c s t)(q:In c s){w:Str}(hn:s.next w=true):s.i<c.n:=by
 rcases q with q|⟨e,q⟩
 ·exact q
 ·rw[Vk (WR hc h (Ge.refl h.hs) e q)]at hn;cases hn
theorem bdI{α β γ δ:Type}{V:α->β->Prop}{W:γ->δ->Prop}{a:α×PS}{b:β×PS}{a':γ×PS}{e:δ×PS}(hc:CmOK c)(h:Rl c s t)(g:Ge s a.2)(o:YY c V a b)(j:Ge a.2 a'.2)(i:Ge b.2 e.2)(k:Rl c a.2 b.2->V a.1 b.1->In c a.2->YY c W a' e):YY c W a' e:=YY.bindE hc o (g.l.trans h.la) (g.sz.trans h.za) j i k
theorem Ge.func2{s:PS}(h:s.i<=s.l.length):Ge s.name.2 s.func.2:=by
 have h1:=Ge.name h
 unfold PS.func
 split
 ·have h2:=Ge.step (Zj ‹_›)
  exact h2.trans (Ge.name h2.hi)
 ·exact Ge.refl h1.hi
theorem Pk(hc:CmOK c)(h:Rl c s t):YY c Eq s.func t.func:=by
 refine bdI hc h (Ge.name h.hs) (GH hc h) (Ge.func2 h.hs) (Ge.func2 h.ht) fun r v q=> ?_
 unfold PS.func
 rw[r.nxE hc q (w:=[46]) (fun e=>(hc.en e).2.dot)]
 split
 ·rename_i hn
  have g:=r.stepN hc (q.lt hc r hn) hn
  exact(GH hc g).map (fun e=>by rw[v,e])
 ·exact r.outE v
theorem Rl.plain(hc:CmOK c)(h:Rl c s t)(q:In c s)(n:Str):t.plain n=s.plain n:=by
 unfold PS.plain
 rw[h.nxE hc q (w:=[91]) (fun e=>(hc.en e).2.sq),h.nxE hc q (w:=[123]) (fun e=>(hc.en e).2.br),h.nxE hc q (w:=[64]) (fun e=>(hc.en e).2.at_),h.nxE hc q (w:=[40]) (fun e=>(hc.en e).2.par)]
theorem a8y(hc:CmOK c)(h:Rl c s t):Ku c Eq s.sizesN t.sizesN:=by
 by_cases hi:s.i<c.n
 ·unfold PS.sizesN
  rw[h.nx hc hi]
  split
  ·rename_i q
   have e:=h.stepN hc hi q
   have g:=Ge.list (one:=PS.linear) (fun s h=>Ge.linear h) e.hs
   have j:=Ge.list (one:=PS.linear) (fun s h=>Ge.linear h) e.ht
   refine bdO hc e g (LK (one:=PS.linear) hc (fun s h=>Ge.linear h) (fun s t r=>TH hc r) e) (Ge.need g.hi) (Ge.need j.hi) fun r v=> ?_
   exact((YJ hc r ⟨[93]⟩).map (fun _=>v)).out
  ·exact(h.outE rfl).out
 ·exact Ku.dead hc h (Ge.sizesN h.hs) (by omega)
theorem b0k(hc:CmOK c)(h:Rl c s t):Ku c Eq s.frameN t.frameN:=by
 by_cases hi:s.i<c.n
 ·unfold PS.frameN
  rw[h.nx hc hi]
  split
  ·rename_i q
   have e:=h.stepN hc hi q
   have g:=Ge.num (m:=2147483648) e.hs
   have j:=Ge.num (m:=2147483648) e.ht
   refine bdO hc e g (J7 hc e _).out (Ge.need g.hi) (Ge.need j.hi) fun r v=> ?_
   exact((YJ hc r ⟨[125]⟩).map (fun _=>v)).out
  ·exact(h.outE rfl).out
 ·exact Ku.dead hc h (Ge.frameN h.hs) (by omega)
theorem b1e(hc:CmOK c)(h:Rl c s t):Ku c Eq s.ranksN t.ranksN:=by
 by_cases hi:s.i<c.n
 ·unfold PS.ranksN
  rw[h.nx hc hi]
  split
  ·rename_i q
   have g:=h.stepN hc hi q
   have k:=Ge.need (w:=⟨[40]⟩) g.hs
   have u:=Ge.need (w:=⟨[40]⟩) g.ht
   have e:=Ge.list (one:=PS.numM) (fun s h=>Ge.num h) k.hi
   have j:=Ge.list (one:=PS.numM) (fun s h=>Ge.num h) u.hi
   refine bdO (a:=((),s.step.need ⟨[40]⟩)) (b:=((),t.step.need ⟨[40]⟩)) hc g k (YJ hc g _).out (e.trans (Ge.need e.hi)) (j.trans (Ge.need j.hi)) fun l _=> ?_
   refine bdO hc l e (LK (one:=PS.numM) hc (fun s h=>Ge.num h) (fun s t r=>(J7 hc r _).out) l) (Ge.need e.hi) (Ge.need j.hi) fun r v=> ?_
   exact((YJ hc r ⟨[41]⟩).map (fun _=>v)).out
  ·exact(h.outE rfl).out
 ·exact Ku.dead hc h (Ge.ranksN h.hs) (by omega)
theorem b9f{ex:PS->Tm×PS}{u:PS}(h:u.l.length<=u.i):(Xt ex u).2.bad=true:=by
 unfold Xt
 rw[if_pos (V7 h _)]
 refine V7 ?_ _
 unfold PS.need
 rw[if_neg (by rw[Vk h];decide)]
 exact Nat.le_refl _
variable {N M:Nat} {ex ex':PS->Tm×PS}
theorem Ge.kids2(g:K3 N ex){s:PS}(e:Yr N s)(h:s.i<=s.l.length):Ge (s.need ⟨[40]⟩) (Xt ex s).2:=by
 have h1:=Ge.need (w:=⟨[40]⟩) h
 unfold Xt
 split
 ·exact Ge.need h1.hi
 ·split
  ·exact Ge.need h1.hi
  ·have h2:=Ge.listL (B:=Yr N) (fun s t h k=>h.ge k) (fun s h k=>g s h k) (e.ge h1) h1.hi
   exact h2.trans (Ge.need h2.hi)
theorem c5o(hc:CmOK c)(z:K3 N ex)(g:K3 M ex')(J:SX c N M ex ex')(f:Yr N s)(C:Yr M t)(h:Rl c s t):YY c (VTs c) (Xt ex s) (Xt ex' t):=by
 have q:=Ge.need (w:=⟨[40]⟩) h.hs
 have D:=Ge.need (w:=⟨[40]⟩) h.ht
 have E:=Ge.kids2 z f h.hs
 have K:=Ge.kids2 g C h.ht
 refine PL (a:=((),s.need ⟨[40]⟩)) (b:=((),t.need ⟨[40]⟩)) hc h q (YJ hc h _) E K fun r _=> ?_
 have r:Rl c (s.need ⟨[40]⟩) (t.need ⟨[40]⟩):=r
 have j:=Ge.listL (B:=Yr N) (fun s t h k=>h.ge k) (fun s h k=>z s h k) (f.ge q) q.hi
 have I:=Ge.listL (B:=Yr M) (fun s t h k=>h.ge k) (fun s h k=>g s h k) (C.ge D) D.hi
 by_cases hi:(s.need ⟨[40]⟩).i<c.n
 ·unfold Xt
  rw[if_neg r.nb,if_neg r.nt,r.nx hc hi]
  split
  ·exact(YJ hc r ⟨[41]⟩).map (fun _=>rfl)
  ·refine bdS (V:=VTs c) hc r j (Bz (P:=Yr N) (P':=Yr M) (V:=VT c) hc (fun s u a b=>a.ge b) (fun s u a b=>a.ge b) (fun s a b=>z s a b) (fun s a b=>g s a b) (fun s t a b r=>(J s t a b r).out) (fun o o' x y e H=>a4j e H) (fun x y e=>XM e rfl) (f.ge q) (C.ge D) r) (Ge.need j.hi) (Ge.need I.hi) (fun A _ e=>V7 (WR hc r j A e) _) fun L v=> ?_
   exact(YJ hc L ⟨[41]⟩).map (fun _=>v)
 ·refine YY.dead hc r E (by omega) fun A e=> ?_
  have F:=WR hc r (Ge.refl r.hs) A e
  unfold Xt
  rw[if_neg r.nb,if_neg (by rw[Vk F];decide)]
  refine V7 ?_ _
  have:=j.le
  rw[j.l]
  omega
theorem c3n(hc:CmOK c)(C:K3 N ex)(y:K3 M ex')(P:SX c N M ex ex'){ln ln':Int}(J:c.z ln=c.z ln'){n:Str}(f:Yr N s)(F:Yr M t)(h:Rl c s t):YY c (VT c) (WB ex ln n s) (WB ex' ln' n t):=by
 have r:=Ge.sizesN h.hs
 have b1:=Ge.sizesN h.ht
 have j:=Ge.frameN r.hi
 have b2:=Ge.frameN b1.hi
 have g:=Ge.ranksN j.hi
 have b3:=Ge.ranksN b2.hi
 have A:=Ge.kids C (f.ge (r.trans (j.trans g))) g.hi
 have B:=Ge.kids y (F.ge (b1.trans (b2.trans b3))) b3.hi
 have dead : ∀ {u:PS},Ge s u->Ge u s.sizesN.2.frameN.2.ranksN.2->c.E->u.i=c.n->(WB ex ln n s).2.bad=true:=fun {u} g1 g2 q e=>by
  refine b9f ?_
  have:=WR hc h g1 q e
  have k:=g2.l
  have:=g2.le
  rw[k]
  omega
 refine bdS hc h r (a8y hc h) (j.trans (g.trans A)) (b2.trans (b3.trans B)) (fun q _ e=>dead r (j.trans g) q e) fun D O=> ?_
 refine bdS hc D j (b0k hc D) (g.trans A) (b3.trans B) (fun q _ e=>dead (r.trans j) g q e) fun H I=> ?_
 refine bdS hc H g (b1e hc H) A B (fun q _ e=>dead (r.trans (j.trans g)) (Ge.refl g.hi) q e) fun L K=> ?_
 unfold WB
 rw[O,I,K]
 refine(c5o hc C y P (f.ge (r.trans (j.trans g))) (F.ge (b1.trans (b2.trans b3))) L).map (fun e=>UM ?_ e)
 exact congrArg (fun l=>({Ki with kind:=6,line:=l,name:=n,num:=t.sizesN.2.frameN.1,sizes:=t.sizesN.1,ranks:=t.sizesN.2.frameN.2.ranksN.1}:Nd)) J
theorem b8m(hc:CmOK c)(A:K3 N ex)(e:K3 M ex')(E:SX c N M ex ex')(f:Yr (N+1) s)(B:Yr (M+1) t)(h:Rl c s t)(hi:s.i<c.n)(z:(s.peek 0).k=1):YY c (VT c) (YX ex s) (YX ex' t):=by
 have k:=h.pk hc (j:=0) hi
 have g:(t.peek 0).k=1:=by rw[k.k];exact z
 have D:=YR (s:=s) (by rw[z];decide)
 have C:=YR (s:=t) (by rw[g];decide)
 have u:=Ge.func1 z
 have y:=Ge.func1 g
 have F:Ge s.func.2 (YX ex s).2:=by
  unfold YX
  split
  ·exact Ge.refl u.hi
  ·exact Ge.callB A ((f.step D).ge u) u.hi
 have H:Ge t.func.2 (YX ex' t).2:=by
  unfold YX
  split
  ·exact Ge.refl y.hi
  ·exact Ge.callB e ((B.step C).ge y) y.hi
 refine bdI hc h (Ge.func h.hs) (Pk hc h) F H fun r v q=> ?_
 unfold YX
 rw[r.plain hc q,v]
 split
 ·exact r.outE (UM (congrArg (fun l=>Um 1 l t.func.1) k.ln.symm) rfl)
 ·exact c3n hc A e E k.ln.symm ((f.step D).ge u) ((B.step C).ge y) r
theorem c9m(hc:CmOK c)(J:K3 N ex)(u:K3 M ex')(I:SX c N M ex ex'){ln ln':Int}(V:c.z ln=c.z ln')(f:Yr N s)(B:Yr M t)(h:Rl c s t):YY c (VT c) (Ga ex ln s) (Ga ex' ln' t):=by
 have E:=Ge.need (w:=⟨[40]⟩) h.hs
 have b1:=Ge.need (w:=⟨[40]⟩) h.ht
 have C:=Ge.func E.hi
 have b2:=Ge.func b1.hi
 have y:=Ge.need (w:=⟨[44]⟩) C.hi
 have b3:=Ge.need (w:=⟨[44]⟩) b2.hi
 have D:=E.trans (C.trans y)
 have F:=b1.trans (b2.trans b3)
 have q:=J _ (f.ge D) y.hi
 have A:=u _ (B.ge F) b3.hi
 have g:=Ge.need (w:=⟨[44]⟩) q.hi
 have i:=Ge.need (w:=⟨[44]⟩) A.hi
 have Q:=D.trans (q.trans g)
 have H:=F.trans (A.trans i)
 have e:=J _ (f.ge Q) g.hi
 have r:=u _ (B.ge H) i.hi
 have k:=Ge.need (w:=⟨[41]⟩) e.hi
 have j:=Ge.need (w:=⟨[41]⟩) r.hi
 refine PL (a:=((),s.need ⟨[40]⟩)) (b:=((),t.need ⟨[40]⟩)) hc h E (YJ hc h _) (C.trans (y.trans (q.trans (g.trans (e.trans k))))) (b2.trans (b3.trans (A.trans (i.trans (r.trans j))))) fun O _=> ?_
 refine PL hc O C (Pk hc O) (y.trans (q.trans (g.trans (e.trans k)))) (b3.trans (A.trans (i.trans (r.trans j)))) fun S W=> ?_
 refine PL (a:=((),(s.need ⟨[40]⟩).func.2.need ⟨[44]⟩)) (b:=((),(t.need ⟨[40]⟩).func.2.need ⟨[44]⟩)) hc S y (YJ hc S _) (q.trans (g.trans (e.trans k))) (A.trans (i.trans (r.trans j))) fun L _=> ?_
 refine PL hc L q (I _ _ (f.ge D) (B.ge F) L) (g.trans (e.trans k)) (i.trans (r.trans j)) fun P T=> ?_
 refine PL (a:=((),(ex ((s.need ⟨[40]⟩).func.2.need ⟨[44]⟩)).2.need ⟨[44]⟩)) (b:=((),(ex' ((t.need ⟨[40]⟩).func.2.need ⟨[44]⟩)).2.need ⟨[44]⟩)) hc P g (YJ hc P _) (e.trans k) (r.trans j) fun K _=> ?_
 refine PL hc K e (I _ _ (f.ge Q) (B.ge H) K) k j fun U X=> ?_
 refine(YJ hc U ⟨[41]⟩).map (fun _=>UM ?_ (XM T (XM X rfl)))
 rw[W]
 exact congrArg (fun l=>Um 8 l (t.need ⟨[40]⟩).func.1) V
theorem c6j(hc:CmOK c)(I:K3 N ex)(r:K3 M ex')(J:SX c N M ex ex'){ln ln':Int}(K:c.z ln=c.z ln')(f:Yr N s)(A:Yr M t)(h:Rl c s t):YY c (VT c) (H8 ex ln s) (H8 ex' ln' t):=by
 have u:=Ge.need (w:=⟨[40]⟩) h.hs
 have b1:=Ge.need (w:=⟨[40]⟩) h.ht
 have q:=Ge.func u.hi
 have b2:=Ge.func b1.hi
 have e:=Ge.need (w:=⟨[44]⟩) q.hi
 have b3:=Ge.need (w:=⟨[44]⟩) b2.hi
 have D:=u.trans (q.trans e)
 have y:=b1.trans (b2.trans b3)
 have g:=I _ (f.ge D) e.hi
 have i:=r _ (A.ge y) b3.hi
 have k:=Ge.need (w:=⟨[41]⟩) g.hi
 have j:=Ge.need (w:=⟨[41]⟩) i.hi
 refine PL (a:=((),s.need ⟨[40]⟩)) (b:=((),t.need ⟨[40]⟩)) hc h u (YJ hc h _) (q.trans (e.trans (g.trans k))) (b2.trans (b3.trans (i.trans j))) fun C _=> ?_
 refine PL hc C q (Pk hc C) (e.trans (g.trans k)) (b3.trans (i.trans j)) fun E F=> ?_
 refine PL (a:=((),(s.need ⟨[40]⟩).func.2.need ⟨[44]⟩)) (b:=((),(t.need ⟨[40]⟩).func.2.need ⟨[44]⟩)) hc E e (YJ hc E _) (g.trans k) (i.trans j) fun B _=> ?_
 refine PL hc B g (J _ _ (f.ge D) (A.ge y) B) k j fun L H=> ?_
 refine(YJ hc L ⟨[41]⟩).map (fun _=>UM ?_ (XM H rfl))
 rw[F]
 exact congrArg (fun l=>Um 9 l (t.need ⟨[40]⟩).func.1) K
theorem b5c(hc:CmOK c){ln ln':Int}(u:c.z ln=c.z ln')(h:Rl c s t):YY c (VT c) (Km ln s) (Km ln' t):=by
 have j:=Ge.need (w:=⟨[91]⟩) h.hs
 have b1:=Ge.need (w:=⟨[91]⟩) h.ht
 have g:=Ge.linear j.hi
 have b2:=Ge.linear b1.hi
 have k:=Ge.need (w:=⟨[93]⟩) g.hi
 have b3:=Ge.need (w:=⟨[93]⟩) b2.hi
 refine PL (a:=((),s.need ⟨[91]⟩)) (b:=((),t.need ⟨[91]⟩)) hc h j (YJ hc h _) (g.trans k) (b2.trans b3) fun i _=> ?_
 refine bdS hc i g (TH hc i) k b3 (fun r _ e=>V7 (WR hc i g r e) _) fun y q=> ?_
 refine(YJ hc y ⟨[93]⟩).map (fun _=>UM ?_ rfl)
 rw[q]
 exact congrArg (fun l=>({Lr 4 l with sizes:=[(t.need ⟨[91]⟩).linear.1]}:Nd)) u
theorem FR{u:PS}(h:u.l.length<=u.i):(Y4 ex u).2.bad=true:=by
 have e:(u.peek 0).k=0:=by rw[WL (by omega)]
 unfold Y4
 dsimp only
 have nx : ∀ w:Str,¬ u.next w=true:=fun w=>by rw[Vk h];decide
 rw[e,if_neg (by decide),if_neg (by decide),if_neg (nx _),if_neg (nx _),if_neg (nx _),if_neg (nx _),if_neg (nx _),if_neg (nx _),if_neg (nx _),if_neg (nx _)]
 rfl
theorem d2q(hc:CmOK c)(D:K3 N ex)(z:K3 M ex')(F:SX c N M ex ex')(f:Yr (N+1) s)(K:Yr (M+1) t)(h:Rl c s t):YY c (VT c) (Y4 ex s) (Y4 ex' t):=by
 by_cases hi:s.i<c.n
 ·have k:=h.pk hc (j:=0) hi
  have l:=k.ln.symm
  have st : ∀ {w:Str},s.next w=true->Rl c s.step t.step∧Yr N s.step∧Yr M t.step:=fun {w} q=>
   ⟨h.stepN hc hi q,f.step (Zj q),K.step (Zj (s:=t) (w:=w) (by rw[h.nx hc hi];exact q))⟩
  unfold Y4
  dsimp only
  rw[k.k]
  by_cases q:(s.peek 0).k=3
  ·rw[if_pos q,if_pos q]
   exact(J7 hc h 2147483647).map (fun e=>UM (by rw[e];exact congrArg (fun l=>({Um 2 l ⟨WW⟩with num:=(t.num 2147483647).1}:Nd)) l) rfl)
  rw[if_neg q,if_neg q]
  by_cases q:(s.peek 0).k=1
  ·rw[if_pos q,if_pos q]
   exact b8m hc D z F f K h hi q
  rw[if_neg q,if_neg q]
  have nx:=h.nx hc hi
  by_cases q:s.next ⟨[116,114,117,101]⟩=true
  ·rw[if_pos q,if_pos (show t.next ⟨[116,114,117,101]⟩=true from by rw[nx];exact q)]
   exact(st q).1.outE (UM (congrArg (fun l=>({Um 2 l ⟨Xv⟩with num:=1}:Nd)) l) rfl)
  rw[if_neg q,if_neg (show ¬ t.next ⟨[116,114,117,101]⟩=true from by rw[nx];exact q)]
  by_cases q:s.next ⟨[102,97,108,115,101]⟩=true
  ·rw[if_pos q,if_pos (show t.next ⟨[102,97,108,115,101]⟩=true from by rw[nx];exact q)]
   exact(st q).1.outE (UM (congrArg (fun l=>Um 2 l ⟨Xv⟩) l) rfl)
  rw[if_neg q,if_neg (show ¬ t.next ⟨[102,97,108,115,101]⟩=true from by rw[nx];exact q)]
  by_cases q:s.next ⟨[40]⟩=true
  ·rw[if_pos q,if_pos (show t.next ⟨[40]⟩=true from by rw[nx];exact q)]
   obtain⟨g,A,C⟩:=st q
   have E:=D _ A g.hs
   have H:=z _ C g.ht
   refine PL hc g E (F _ _ A C g) (Ge.need E.hi) (Ge.need H.hi) fun J v=> ?_
   exact(YJ hc J ⟨[41]⟩).map (fun _=>v)
  rw[if_neg q,if_neg (show ¬ t.next ⟨[40]⟩=true from by rw[nx];exact q)]
  by_cases q:s.next ⟨[91]⟩=true
  ·rw[if_pos q,if_pos (show t.next ⟨[91]⟩=true from by rw[nx];exact q)]
   obtain⟨g,A,C⟩:=st q
   have E:=Ge.listL (B:=Yr N) (fun s t h k=>h.ge k) (fun s h k=>D s h k) A g.hs
   have H:=Ge.listL (B:=Yr M) (fun s t h k=>h.ge k) (fun s h k=>z s h k) C g.ht
   refine bdS (V:=VTs c) hc g E (Bz (P:=Yr N) (P':=Yr M) (V:=VT c) hc (fun s u a b=>a.ge b) (fun s u a b=>a.ge b) (fun s a b=>D s a b) (fun s a b=>z s a b) (fun s t a b r=>(F s t a b r).out) (fun o o' x y e L=>a4j e L) (fun x y e=>XM e rfl) A C g) (Ge.need E.hi) (Ge.need H.hi) (fun I _ e=>V7 (WR hc g E I e) _) fun J v=> ?_
   exact(YJ hc J ⟨[93]⟩).map (fun _=>UM (congrArg (fun l=>Lr 7 l) l) v)
  rw[if_neg q,if_neg (show ¬ t.next ⟨[91]⟩=true from by rw[nx];exact q)]
  by_cases q:s.next ⟨[102,111,108,100]⟩=true
  ·rw[if_pos q,if_pos (show t.next ⟨[102,111,108,100]⟩=true from by rw[nx];exact q)]
   obtain⟨g,A,C⟩:=st q
   exact c9m hc D z F l A C g
  rw[if_neg q,if_neg (show ¬ t.next ⟨[102,111,108,100]⟩=true from by rw[nx];exact q)]
  by_cases q:s.next ⟨[115,99,97,110]⟩=true
  ·rw[if_pos q,if_pos (show t.next ⟨[115,99,97,110]⟩=true from by rw[nx];exact q)]
   obtain⟨g,A,C⟩:=st q
   exact c6j hc D z F l A C g
  rw[if_neg q,if_neg (show ¬ t.next ⟨[115,99,97,110]⟩=true from by rw[nx];exact q)]
  by_cases q:s.next ⟨[115,105,122,101]⟩=true
  ·rw[if_pos q,if_pos (show t.next ⟨[115,105,122,101]⟩=true from by rw[nx];exact q)]
   exact b5c hc l (st q).1
  rw[if_neg q,if_neg (show ¬ t.next ⟨[115,105,122,101]⟩=true from by rw[nx];exact q)]
  by_cases q:s.next ⟨[35]⟩=true
  ·rw[if_pos q,if_pos (show t.next ⟨[35]⟩=true from by rw[nx];exact q)]
   exact(d7w hc (st q).1).map (fun e=>UM (by rw[e];exact congrArg (fun l=>({Lr 3 l with elem:=t.step.arr.1.e,dims:=t.step.arr.1.d,data:=t.step.arr.1.x}:Nd)) l) rfl)
  rw[if_neg q,if_neg (show ¬ t.next ⟨[35]⟩=true from by rw[nx];exact q)]
  exact h.failE hc hi _ _
 ·exact YY.dead hc h (Ge.prim D f h.hs) (by omega) fun I e=>FR (WR hc h (Ge.refl h.hs) I e)
end
end
section
section
variable {c:Cm} {s t:PS} {N M:Nat} {ex ex':PS->Tm×PS} {un un':PS->(Tm×Int)×PS}
theorem a4k{u:PS}(h:u.l.length<=u.i):(Ue ex un u).2.bad=true:=by
 unfold Ue
 dsimp only
 rw[Vk h,Vk h,Bool.false_and,Bool.or_false,if_neg (by decide),if_neg (by decide)]
 exact FR h
theorem b8z{s:PS}(hu:AQ N un)(g:Yr (N+1) s)(hn:s.next ⟨[45]⟩=true∨s.next ⟨[33]⟩=true):Ge s.step (Ue ex un s).2:=by
 have hi:s.i<s.l.length:=by rcases hn with h|h <;> exact Zj h
 have e:=Ge.step hi
 unfold Ue
 dsimp only
 split
 ·exact Ge.num e.hi
 ·rw[if_pos (by rcases hn with h|h <;> simp[h])]
  exact hu _ (g.step hi) e.hi
theorem e0q(hc:CmOK c)(C:K3 N ex)(u:K3 M ex')(J:SX c N M ex ex')(hu:AQ N un)(hu':AQ M un')(I:SU c N M un un')(P:WU N un)(f:Yr (N+1) s)(F:Yr (M+1) t)(h:Rl c s t):YY c (VU c) (Ue ex un s) (Ue ex' un' t):=by
 have g:=Ge.una C hu f h.hs
 by_cases hi:s.i<c.n
 ·have k:=h.pk hc (j:=0) hi
  have l:=k.ln.symm
  by_cases hn:s.next ⟨[45]⟩=true∨s.next ⟨[33]⟩=true
  ·have A:s.i<s.l.length:=by rcases hn with h|h <;> exact Zj h
   have r:Rl c s.step t.step:=by rcases hn with q|q <;> exact h.stepN hc hi q
   have y:t.next ⟨[45]⟩=true∨t.next ⟨[33]⟩=true:=by rw[h.nx hc hi,h.nx hc hi];exact hn
   have K:t.i<t.l.length:=by rcases y with h|h <;> exact Zj h
   have E:=b8z (ex:=ex) hu f hn
   by_cases hj:s.i+1<c.n
   ·have O:=h.pk hc (j:=1) hj
    unfold Ue
    dsimp only
    rw[h.nx hc hi,h.nx hc hi,O.k]
    split
    ·exact(J7 hc r 2147483648).map (fun e=>⟨UM (by rw[e];exact congrArg (fun l=>({Um 2 l ⟨WW⟩with num:=IntKind.i64.wrap (-(t.step.num 2147483648).1)}:Nd)) l) rfl,l⟩)
    ·rw[if_pos (by rcases hn with h|h <;> simp[h]),if_pos (by rcases hn with h|h <;> simp[h])]
     refine(I _ _ (f.step A) (F.step K) r).map (fun e=>⟨UM ?_ (XM e.1 rfl),l⟩)
     rw[k.t]
     exact congrArg (fun l=>Um 6 l (Us (s.peek 0).t true).a) l
   ·refine⟨fun b1 b2=> ?_,fun b1 b2=>absurd b2 (E.wk hc h.la h.za h.sb (show c.n<=s.i+1 by omega) b1)⟩
    exfalso
    have H:=E.le
    have H:s.i+1<=(Ue ex un s).2.i:=H
    rcases b2 with b2|⟨B,b2⟩
    ·omega
    ·have el:s.l.length=s.i+1:=by rw[h.la,<- (hc.en B).1];omega
     have L:(s.peek 1).k=0:=by rw[WL (by omega)]
     unfold Ue at b1
     dsimp only at b1
     rw[L,decide_eq_false (show ¬ (0:Int)=3 by decide),Bool.and_false,if_neg (by decide),if_pos (by rcases hn with h|h <;> simp[h])]at b1
     have w:=P s.step (by show YE s.l=true;rw[h.la];exact hc.lx) (f.step A) r.hs b1
     have p:=a2f (un s.step).1.1
     have D:=hu _ (f.step A) r.hs
     have z:=D.hi
     rw[D.l]at z
     have z:(un s.step).2.i<=s.l.length:=z
     have e2:s.step.i=s.i+1:=rfl
     omega
  ·have h1:s.next ⟨[45]⟩=false:=by cases e:s.next ⟨[45]⟩ <;> simp_all
   have h2:s.next ⟨[33]⟩=false:=by cases e:s.next ⟨[33]⟩ <;> simp_all
   unfold Ue
   dsimp only
   rw[h.nx hc hi,h.nx hc hi,h1,h2,Bool.false_and,Bool.false_and,Bool.or_false,if_neg (by decide),if_neg (by decide),if_neg (by decide),if_neg (by decide)]
   exact(d2q hc C u J f F h).map (fun e=>⟨e,l⟩)
 ·exact YY.dead hc h g (by omega) fun B e=>a4k (WR hc h (Ge.refl h.hs) B e)
theorem Rl.oper(hc:CmOK c)(h:Rl c s t)(q:s.i<c.n):t.oper.1=s.oper.1:=by
 have k:=h.pk hc (j:=0) q
 unfold PS.oper
 rw[k.k,k.t]
 split <;> rfl
theorem c4n{u:PS}(h:u.l.length<=u.i):u.oper.1.2=0:=by
 unfold PS.oper
 rw[WL (by omega)]
 rfl
theorem b0j(hc:CmOK c)(h:Rl c s t)(g:c.E)(q:s.i=c.n):t.oper.1.2=0:=by
 have e:t.peek 0=c.b (c.d+c.n):=by unfold PS.peek Cm.b;rw[h.lb,h.zb,h.i,q];rfl
 unfold PS.oper
 rw[e]
 split
 ·exact(hc.en g).2.op ‹_›
 ·rfl
theorem TY(hc:CmOK c){E j:PS->(Tm×Int)×PS}{lev:Int}(g:lev≠0)(F:AQ (N+1) E)(i:AQ (M+1) j)(C:SU c (N+1) (M+1) E j): ∀ (n m:Nat) {s t:PS} {l l':Tm} {ln ln':Int},Rl c s t->Yr (N+1) s->Yr (M+1) t->Yr n s->Yr m t->In c s->VT c l l'->c.z ln=c.z ln'->YY c (VU c) (opLoop E lev ln n s l) (opLoop j lev ln' m t l')
 | 0,_,s,t,l,l',ln,ln',h,f,f',f1,f2,q,v,e=>by unfold Yr at f1;omega
 | _+1,0,s,t,l,l',ln,ln',h,f,f',f1,f2,q,v,e=>by unfold Yr at f2;omega
 | n+1,m+1,s,t,l,l',ln,ln',h,f,f',f1,f2,q,v,e=>by
  rw[opLoop,opLoop,if_neg h.nb,if_neg h.nt]
  rcases q with q|⟨J,q⟩
  ·have I:=h.oper hc q
   rw[I]
   split
   ·exact h.outE ⟨v,e⟩
   ·rename_i q2
    have H:=Jt (s:=s) (by omega)
    have D:=Jt (s:=t) (by rw[I];omega)
    have u:=h.stepR H D
    have k:=f.ge (Ge.step H)
    have A:=f'.ge (Ge.step D)
    have y:=F _ k u.hs
    have B:=i _ A u.ht
    split
    ·exact(C _ _ k A u).map (fun w=>⟨UM (congrArg (fun l=>Um 6 l s.oper.1.1) e) (XM v (XM w.1 rfl)),e⟩)
    ·refine bdI hc u y (C _ _ k A u) (Ge.opLoop g F n (k.ge y) y.hi) (Ge.opLoop g i m (A.ge B) B.hi) fun r w K=> ?_
     exact TY hc g F i C n m r (k.ge y) (A.ge B) ((f1.step H).ge y) ((f2.step D).ge B) K (UM (congrArg (fun l=>Um 6 l s.oper.1.1) e) (XM v (XM w.1 rfl))) e
  ·rw[if_pos (by rw[c4n (WR hc h (Ge.refl h.hs) J q)];exact g.symm),if_pos (by rw[b0j hc h J q];exact g.symm)]
   exact h.outE ⟨v,e⟩
theorem a5s(hc:CmOK c)(y:AQ (N+1) un)(g:AQ (M+1) un')(z:SU c (N+1) (M+1) un un'): ∀ d:Nat,d<=5->SU c (N+1) (M+1) (YA un d) (YA un' d)
 | 0,_=>z
 | d+1,hd=>fun s t f l h=>by
  have u:=Ge.from y d (by omega)
  have e:=Ge.from g d (by omega)
  have i:=u s f h.hs
  have k:=e t l h.ht
  have j:=a5s hc y g z d (by omega)
  rw[YA,YA]
  refine bdI hc h i (j s t f l h) (Ge.opLoop (by omega) u _ (f.ge i) i.hi) (Ge.opLoop (by omega) e _ (l.ge k) k.hi) fun r v q=> ?_
  exact TY hc (by omega) u e j _ _ r (f.ge i) (l.ge k) (WG i) (WG k) q v.1 v.2
theorem d0a{e:PS->(Tm×Int)×PS}{lev ln:Int}{n:Nat}{u:PS}{l:Tm}(h:u.bad=true):(opLoop e lev ln n u l).2.bad=true:=by
 cases n with
 | zero=>exact h
 | succ n=>rw[opLoop,if_pos h];exact h
theorem Ff{u:PS}(h:(un u).2.bad=true): ∀ d:Nat,(YA un d u).2.bad=true
 | 0=>h
 | d+1=>by rw[YA];exact d0a (Ff h d)
theorem e6v(hc:CmOK c)(L:K3 N ex)(y:K3 M ex')(Q:SX c N M ex ex')(V:AQ (N+1) un)(I:AQ (M+1) un')(su:SU c (N+1) (M+1) un un')(he : ∀ u:PS,u.l.length<=u.i->(un u).2.bad=true)(f:Yr (N+1) s)(S:Yr (M+1) t)(h:Rl c s t):YY c (VT c) (exB ex un s) (exB ex' un' t):=by
 by_cases hi:s.i<c.n
 ·have k:=h.pk hc (j:=0) hi
  have l:=k.ln.symm
  unfold exB
  dsimp only
  rw[h.nx hc hi]
  split
  ·rename_i q
   have q':t.next ⟨[108,101,116]⟩=true:=by rw[h.nx hc hi];exact q
   have F:=h.stepN hc hi q
   have B:=f.step (Zj q)
   have g:=S.step (Zj q')
   have O:=Ge.name F.hs
   have b2:=Ge.name F.ht
   have C:=Ge.need (w:=⟨[61]⟩) O.hi
   have b3:=Ge.need (w:=⟨[61]⟩) b2.hi
   have J:=O.trans C
   have K:=b2.trans b3
   have A:=L _ (B.ge J) C.hi
   have D:=y _ (g.ge K) b3.hi
   have r:=Ge.need (w:=⟨[105,110]⟩) A.hi
   have z:=Ge.need (w:=⟨[105,110]⟩) D.hi
   have X:=J.trans (A.trans r)
   have P:=K.trans (D.trans z)
   have E:=L _ (B.ge X) r.hi
   have H:=y _ (g.ge P) z.hi
   refine PL hc F O (GH hc F) (C.trans (A.trans (r.trans E))) (b3.trans (D.trans (z.trans H))) fun Y v2=> ?_
   refine PL (a:=((),s.step.name.2.need ⟨[61]⟩)) (b:=((),t.step.name.2.need ⟨[61]⟩)) hc Y C (YJ hc Y _) (A.trans (r.trans E)) (D.trans (z.trans H)) fun U _=> ?_
   refine PL hc U A (Q _ _ (B.ge J) (g.ge K) U) (r.trans E) (z.trans H) fun W Z=> ?_
   refine PL (a:=((),(ex (s.step.name.2.need ⟨[61]⟩)).2.need ⟨[105,110]⟩)) (b:=((),(ex' (t.step.name.2.need ⟨[61]⟩)).2.need ⟨[105,110]⟩)) hc W r (YJ hc W _) E H fun r5 _=> ?_
   refine(Q _ _ (B.ge X) (g.ge P) r5).map (fun v6=>UM ?_ (XM Z (XM v6 rfl)))
   rw[v2]
   exact congrArg (fun l=>Um 5 l t.step.name.1) l
  ·exact(a5s hc V I su 5 (by omega) s t f S h).map (fun v=>v.1)
 ·refine YY.dead hc h (Ge.exp1 L V f h.hs) (by omega) fun hE e=> ?_
  have T:=WR hc h (Ge.refl h.hs) hE e
  unfold exB
  rw[if_neg (by rw[Vk T];decide)]
  exact Ff (he s T) 5
end
theorem b6t{c:Cm}(hc:CmOK c): ∀ N M:Nat,SX c N M (ZR N) (ZR M)∧SU c N M (Uz N) (Uz M)
 | 0,_=>⟨fun s t f _ _=>by unfold Yr at f;omega,fun s t f _ _=>by unfold Yr at f;omega⟩
 | _+1,0=>⟨fun s t _ f _=>by unfold Yr at f;omega,fun s t _ f _=>by unfold Yr at f;omega⟩
 | N+1,M+1=>by
  obtain⟨i,j⟩:=b6t hc N M
  have e:SU c (N+1) (M+1) (Uz (N+1)) (Uz (M+1)):=fun s t f g h=>by
   rw[QF,QF]
   exact e0q hc (XH N).1 (XH M).1 i (XH N).2 (XH M).2 j (a0r N).2 f g h
  exact⟨fun s t f g h=>by
   rw[UG,UG]
   exact e6v hc (XH N).1 (XH M).1 i (XH (N+1)).2 (XH (M+1)).2 e (fun u hu=>by rw[QF];exact a4k hu) f g h,e⟩
end
section
section
variable (z:Int->Int)
mutual
theorem a5z: ∀ t:Tm,Y9 (zT z t)=Y9 t
 | .mk n ks=>by rw[zT,Y9,Y9,Lu ks]
theorem Lu: ∀ ks:List Tm,Z9 (QM z ks)=Z9 ks
 | []=>rfl
 | k::ks=>by rw[QM,Z9,Z9,a5z k,Lu ks]
end
mutual
theorem b8x: ∀ t:Tm,Ql (zT z t)=Ql t
 | .mk n ks=>by rw[zT,Ql,Ql,a3k ks]
theorem a3k: ∀ ks:List Tm,Vl (QM z ks)=Vl ks
 | []=>rfl
 | k::ks=>by rw[QM,Vl,Vl,b8x k,a3k ks]
end
theorem a3m: ∀ ks:List Tm,(QM z ks).length=ks.length
 | []=>rfl
 | k::ks=>by rw[QM,List.length_cons,List.length_cons,a3m ks]
mutual
theorem MH: ∀ (l:Nat) (t:Tm),Yp l (zT z t)=(Yp l t).map fun p=>(zT z p.1,p.2)
 | l,.mk n ks=>by
  have h:zT z (.mk n ks) = .mk {n with line:=z n.line} (QM z ks):=by rw[zT]
  rw[Yp,List.map_cons,<- Tv (l+1) ks,h,Yp]
theorem Tv: ∀ (l:Nat) (ks:List Tm),YB l (QM z ks)=(YB l ks).map fun p=>(zT z p.1,p.2)
 | l,[]=>rfl
 | l,k::ks=>by rw[QM,YB,YB,List.map_append,MH l k,Tv l ks]
end
theorem d7x(t:Tm):a8l (zT z t)=(a8l t).map (zT z):=by
 unfold a8l
 rw[MH,List.map_map,List.map_map]
 rfl
end
def zz(l:Int):Int:=if 0<=l∧l<=10000 then 0 else 1
theorem d3q{l:Int}(h:0<=l)(k:l<=10000):zz l=0:=if_pos ⟨h,k⟩
def d2b(x:Tm):Bool:=decide (x.nd.line=0)&&SY x.nd x.ks.length
theorem d8v(x:Tm):Dc x=d2b (zT zz x):=by
 obtain⟨n,ks⟩:=x
 have e:d2b (zT zz (.mk n ks))=(decide (zz n.line=0)&&SY n ks.length):=by
  rw[zT]
  show(decide (zz n.line=0)&&SY _ (QM zz ks).length)=_
  rw[a3m]
  rfl
 rw[e]
 show KL n ks.length=_
 unfold KL zz
 by_cases h:0<=n.line∧n.line<=10000
 ·rw[if_pos h,decide_eq_true h.1,decide_eq_true h.2];rfl
 ·rw[if_neg h]
  have:(decide (0<=n.line)&&decide (n.line<=10000))=false:=by
   simp only[Bool.and_eq_false_iff,decide_eq_false_iff_not]
   by_cases h1:0<=n.line
   ·exact Or.inr fun h2=>h ⟨h1,h2⟩
   ·exact Or.inl h1
  rw[this];rfl
theorem c0c{a b:Tm}(h:zT zz a=zT zz b):Y8 a=Y8 b:=by
 have e : ∀ t:Tm,Y8 t=(decide (Y9 (zT zz t)<=400)&&decide (Ql (zT zz t)<=40)&&(a8l (zT zz t)).all d2b):=fun t=>by
  rw[a5z,b8x,d7x,List.all_map]
  unfold Y8
  have:Dc=d2b ∘ zT zz:=funext d8v
  rw[this]
 rw[e a,e b,h]
mutual
theorem d4s{z:Int->Int}: ∀ {a b:Tm},zT z a=zT z b->Mc a b=true
 | .mk n ks,.mk m ls,h=>by
  rw[zT,zT]at h
  injection h with h1 h2
  rw[Mc,b9p h2,Bool.and_true]
  injection h1 with a1 a2 a3 a4 a5 a6 a7 a8 a9
  unfold c4b
  rw[a1,a3,a4,a5,a6,a7,a8,a9]
  simp
theorem b9p{z:Int->Int}: ∀ {a b:List Tm},QM z a=QM z b->GY a b=true
 | [],[],_=>rfl
 | k::ks,l::ls,h=>by
  rw[QM,QM]at h
  injection h with h1 h2
  rw[GY,d4s h1,b9p h2]
  rfl
 | [],l::ls,h=>by rw[QM,QM]at h;cases h
 | k::ks,[],h=>by rw[QM,QM]at h;cases h
end
end
def Yn(l:List Tok)(k:UInt8):List UInt8:=if k.toNat % 3=0 then K4 [] [10] l else if k.toNat % 3=1 then K4 [32,9] [32] l else K4 [] [32,47,47,32,99,10] l
def F4(l:List Tok):Bool:=decide (l.length<=4000)&&l.all fun t=>decide (t.t.s.length<=65536)
theorem Fq{s:PS}(h:s.bad=true):s.endp.bad=true:=by
 unfold PS.endp
 split
 ·rfl
 ·exact h
theorem FI{a:List UInt8}(ha:(Z7 ⟨a⟩).c=0):Yy ⟨a⟩=if (X9 a).expr.2.endp.bad then⟨.mk Ki [],(X9 a).expr.2.endp.wr,6⟩else if (X9 a).expr.2.endp.big then⟨.mk Ki [],0,3⟩else if Y8 (X9 a).expr.1 then⟨(X9 a).expr.1,0,0⟩else⟨.mk Ki [],0,3⟩:=by
 unfold Yy
 rw[if_neg (fun k=>k ha)]
theorem P7{l:List Tok}{k:Nat}(h:k<l.length)(d:Tok):l.getD k d=l[k]:=by rw[List.getD_eq_getElem?_getD,List.getElem?_eq_getElem h];rfl
theorem a2p{l:List Tok}{k:Nat}(h:l.length<=k)(d:Tok):l.getD k d=d:=by rw[List.getD_eq_getElem?_getD,List.getElem?_eq_none h];rfl
def cmB(a b:List UInt8):Cm:=⟨(Z7 ⟨a⟩).a,(Z7 ⟨b⟩).a,0,(Z7 ⟨a⟩).a.length+1,a.length,b.length,zz,fun _=>0,fun _=>True,False⟩
theorem d8w{a b:List UInt8}(F:FT (Z7 ⟨a⟩).a (Z7 ⟨b⟩).a)(la:a.length<=9000)(lb:b.length<=9000):CmOK (cmB a b):=by
 refine⟨fun k j=> ?_,fun p h1 h2=> ?_,fun h=>h.elim,(U7 ⟨a⟩).1,(U7 ⟨b⟩).1,(U7 ⟨a⟩).2,(U7 ⟨b⟩).2⟩
 ·have j:k<(Z7 ⟨a⟩).a.length+1:=j
  rw[show(cmB a b).d+k=k from Nat.zero_add k]
  have len:=F.len
  rcases Nat.lt_or_ge k (Z7 ⟨a⟩).a.length with h|h
  ·have e:k<(Z7 ⟨b⟩).a.length:=by omega
   have s:=F.get ⟨0,⟨[]⟩,0,0⟩ k h
   rw[P7 h,P7 e]at s
   have i:(cmB a b).a k=(Z7 ⟨a⟩).a[k]:=P7 h _
   have g:(cmB a b).b k=(Z7 ⟨b⟩).a[k]:=P7 e _
   rw[i,g]
   have u1:=(a5g ⟨a⟩).2 _ (List.getElem_mem h)
   have u2:=(a5g ⟨b⟩).2 _ (List.getElem_mem e)
   have v1:=(Bt a).2.2 _ (List.getElem_mem h)
   have v2:=(Bt b).2.2 _ (List.getElem_mem e)
   refine⟨s.1,s.2,?_,rfl⟩
   show zz _=zz _
   rw[d3q (by omega) (by omega),d3q (by omega) (by omega)]
  ·have i:(cmB a b).a k=⟨0,⟨[]⟩,0,a.length⟩:=a2p h _
   have g:(cmB a b).b k=⟨0,⟨[]⟩,0,b.length⟩:=a2p (show(Z7 ⟨b⟩).a.length<=k by omega) _
   rw[i,g]
   exact⟨rfl,rfl,rfl,rfl⟩
 ·have h1:(Z7 ⟨a⟩).a.length+1<=p:=h1
  have h2:p<=(Z7 ⟨a⟩).a.length:=h2
  omega
theorem FW{a b:List UInt8}(ha:(Z7 ⟨a⟩).c=0)(hb:(Z7 ⟨b⟩).c=0)(F:FT (Z7 ⟨a⟩).a (Z7 ⟨b⟩).a)(la:a.length<=9000)(lb:b.length<=9000):(Yy ⟨b⟩).c=(Yy ⟨a⟩).c∧Mc (Yy ⟨a⟩).a (Yy ⟨b⟩).a=true:=by
 have hc:=d8w F la lb
 have u:Rl (cmB a b) (X9 a) (X9 b):=⟨rfl,rfl,rfl,rfl,rfl,rfl,rfl,rfl,Nat.zero_le _,Nat.zero_le _⟩
 have z:Yr 4001 (X9 a):=by have:=(ZG (He a)).1;unfold Yr;omega
 have y:Yr 4001 (X9 b):=by have:=(ZG (He b)).1;unfold Yr;omega
 have O:=(b6t hc 4001 4001).1 (X9 a) (X9 b) z y u
 have O:YY (cmB a b) (VT (cmB a b)) (X9 a).expr (X9 b).expr:=O
 have s:=Ge.exprS (He a)
 have gb:=Ge.exprS (He b)
 have q:Mc (Tm.mk Ki []) (Tm.mk Ki [])=true:=by decide
 rw[FI ha,FI hb]
 have g:(X9 a).expr.2.endp.bad=true->(X9 b).expr.2.endp.bad=true->((if (X9 b).expr.2.endp.bad then(⟨.mk Ki [],(X9 b).expr.2.endp.wr,6⟩:R3 Tm Int Int)else if (X9 b).expr.2.endp.big then⟨.mk Ki [],0,3⟩else if Y8 (X9 b).expr.1 then⟨(X9 b).expr.1,0,0⟩else⟨.mk Ki [],0,3⟩).c=(if (X9 a).expr.2.endp.bad then(⟨.mk Ki [],(X9 a).expr.2.endp.wr,6⟩:R3 Tm Int Int)else if (X9 a).expr.2.endp.big then⟨.mk Ki [],0,3⟩else if Y8 (X9 a).expr.1 then⟨(X9 a).expr.1,0,0⟩else⟨.mk Ki [],0,3⟩).c∧Mc (if (X9 a).expr.2.endp.bad then(⟨.mk Ki [],(X9 a).expr.2.endp.wr,6⟩:R3 Tm Int Int)else if (X9 a).expr.2.endp.big then⟨.mk Ki [],0,3⟩else if Y8 (X9 a).expr.1 then⟨(X9 a).expr.1,0,0⟩else⟨.mk Ki [],0,3⟩).a (if (X9 b).expr.2.endp.bad then(⟨.mk Ki [],(X9 b).expr.2.endp.wr,6⟩:R3 Tm Int Int)else if (X9 b).expr.2.endp.big then⟨.mk Ki [],0,3⟩else if Y8 (X9 b).expr.1 then⟨(X9 b).expr.1,0,0⟩else⟨.mk Ki [],0,3⟩).a=true):=fun h1 h2=>by
  rw[if_pos h1,if_pos h2]
  exact⟨rfl,q⟩
 cases e:(X9 a).expr.2.bad with
 | true=>exact g (Fq e) (Fq (O.2 e trivial).1)
 | false=>
  have hi:(X9 a).expr.2.i<(cmB a b).n:=by
   have:=s.hi
   rw[s.l]at this
   exact Nat.lt_succ_of_le this
  obtain⟨r,v⟩:=O.1 e (Or.inl hi)
  have len:=F.len
  have li:(X9 b).expr.2.i=(X9 a).expr.2.i:=by have:=r.i;rw[show(cmB a b).d=0 from rfl]at this;omega
  have ll:(X9 b).expr.2.l.length=(X9 a).expr.2.l.length:=by rw[r.la,r.lb];exact len
  by_cases h:(X9 a).expr.2.i<(X9 a).expr.2.l.length
  ·refine g ?_ ?_
   ·unfold PS.endp;rw[if_pos h];rfl
   ·unfold PS.endp;rw[if_pos (by omega)];rfl
  ·have A:(X9 a).expr.2.endp=(X9 a).expr.2:=by unfold PS.endp;rw[if_neg h]
   have B:(X9 b).expr.2.endp=(X9 b).expr.2:=by unfold PS.endp;rw[if_neg (by omega)]
   have v:zT zz (X9 a).expr.1=zT zz (X9 b).expr.1:=v
   have j:(X9 b).expr.2.big=(X9 a).expr.2.big:=r.big
   have k:Y8 (X9 b).expr.1=Y8 (X9 a).expr.1:=(c0c v).symm
   rw[A,B,if_neg r.nb,if_neg r.nt,j,k]
   by_cases h1:(X9 a).expr.2.big=true
   ·rw[if_pos h1,if_pos h1];exact⟨rfl,q⟩
   ·rw[if_neg h1,if_neg h1]
    by_cases h2:Y8 (X9 a).expr.1=true
    ·rw[if_pos h2,if_pos h2];exact⟨rfl,d4s v⟩
    ·rw[if_neg h2,if_neg h2];exact⟨rfl,q⟩
theorem RF{a:List UInt8}(la:a.length<=200)(k:UInt8):(Z7 ⟨Yn (Z7 ⟨a⟩).a k⟩).c=0∧FT (Z7 ⟨a⟩).a (Z7 ⟨Yn (Z7 ⟨a⟩).a k⟩).a∧(Yn (Z7 ⟨a⟩).a k).length<=9000:=by
 obtain⟨h1,h2,_⟩:=Bt a
 have go : ∀ lead trail:List UInt8,SpK lead trail->lead.length+trail.length<=6->(Z7 ⟨K4 lead trail (Z7 ⟨a⟩).a⟩).c=0∧FT (Z7 ⟨a⟩).a (Z7 ⟨K4 lead trail (Z7 ⟨a⟩).a⟩).a∧(K4 lead trail (Z7 ⟨a⟩).a).length<=9000:=fun lead trail K hl=>by
  obtain⟨l1,l2⟩:=b9d (lead:=lead) (trail:=trail) (Z7 ⟨a⟩).a h1
  have l3:SL (Z7 ⟨a⟩).a*(1+lead.length+trail.length)<=200*7:=Nat.mul_le_mul (by omega) (by omega)
  have:=d1a K h1 (by omega) (by omega)
  exact⟨this.1,this.2,by omega⟩
 unfold Yn
 split
 ·exact go _ _ kd0 (by decide)
 ·split
  ·exact go _ _ kd1 (by decide)
  ·exact go _ _ kd2 (by decide)
theorem Ow{a:List UInt8}(la:a.length<=200)(h:(Z7 ⟨a⟩).c=0)(k:UInt8):(Yy ⟨Yn (Z7 ⟨a⟩).a k⟩).c=(Yy ⟨a⟩).c∧Mc (Yy ⟨a⟩).a (Yy ⟨Yn (Z7 ⟨a⟩).a k⟩).a=true:=by
 obtain⟨h1,h2,h3⟩:=RF la k
 exact FW h h1 h2 (by omega) h3
theorem b5z{a:List UInt8}(h:(Z7 ⟨a⟩).c≠0):(Yy ⟨a⟩).c=(Z7 ⟨a⟩).c:=by
 unfold Yy
 rw[if_pos h]
open Enc (enc dec is)
open EncL (encL decL isL)
set_option maxRecDepth 100000
noncomputable def VP:IC:=XU Proofs.Tryz.f17
def VI:List IRes:=[(.tmp 4)]
abbrev c8q:Nat:=45
noncomputable def Qh:ZL:=Y3 []
theorem d6j{G:PV->Prop}(l:List Tok)(k:UInt8)(h:At Qh 0 (Za VI G) VP 0 45 [(0,(.pv (.sl 4 false (List.map enc l)))),(1,(.pv (.int IntKind.u8 (↑(UInt8.toNat k):Int)))),(5,(.pv (.str []))),(6,(.pv (.int .i64 0)))] []):Zb Qh 0 (Za VI G) VP [] (Yz 45 [enc l,enc k]):=Zb.tp (.nil) h
theorem a2s{G:PV->Prop}(l:List Tok)(k:UInt8)(x:List UInt8)(i:Int)(h:if (decide (i<(↑(List.length (List.map enc l)):Int)))=true then if (Int.tmod (↑(UInt8.toNat k):Int) 3==0)=true then(decide (0<=i)&&decide (Int.toNat i<List.length (List.map enc l))&&4==4)=true∧(∃ g:Tok,AV.pv (PV.rptr (PV.cells (List.getD (List.map enc l) (Int.toNat i) default)))=AV.pv (PV.rptr (PV.cells ((enc) g)))∧((decide (List.length (PV.asStr (List.getD (List.drop 1 (PV.cells (enc g))) 0 default))+List.length [(10:UInt8)]<=1099511627776))=true∧((decide (List.length x+List.length (PV.asStr (List.getD (List.drop 1 (PV.cells (enc g))) 0 default)++[(10:UInt8)])<=1099511627776))=true∧(At Qh 0 (Za VI G) VP 0 45 [(0,(.pv (.sl 4 false (List.map enc l)))),(1,(.pv (.int IntKind.u8 (↑(UInt8.toNat k):Int)))),(5,(.pv (.str (x++(PV.asStr (List.getD (List.drop 1 (PV.cells (enc g))) 0 default)++[(10:UInt8)]))))),(6,(.pv (.int .i64 (IntKind.wrap IntKind.i64 (i+1)))))] []))))else(if (Int.tmod (↑(UInt8.toNat k):Int) 3==1)=true then(decide (0<=i)&&decide (Int.toNat i<List.length (List.map enc l))&&4==4)=true∧(∃ e:Tok,AV.pv (PV.rptr (PV.cells (List.getD (List.map enc l) (Int.toNat i) default)))=AV.pv (PV.rptr (PV.cells ((enc) e)))∧((decide (List.length [(32:UInt8),(9:UInt8)]+List.length (PV.asStr (List.getD (List.drop 1 (PV.cells (enc e))) 0 default))<=1099511627776))=true∧((decide (List.length ([(32:UInt8),(9:UInt8)]++PV.asStr (List.getD (List.drop 1 (PV.cells (enc e))) 0 default))+List.length [(32:UInt8)]<=1099511627776))=true∧((decide (List.length x+List.length ([(32:UInt8),(9:UInt8)]++PV.asStr (List.getD (List.drop 1 (PV.cells (enc e))) 0 default)++[(32:UInt8)])<=1099511627776))=true∧(At Qh 0 (Za VI G) VP 0 45 [(0,(.pv (.sl 4 false (List.map enc l)))),(1,(.pv (.int IntKind.u8 (↑(UInt8.toNat k):Int)))),(5,(.pv (.str (x++([(32:UInt8),(9:UInt8)]++PV.asStr (List.getD (List.drop 1 (PV.cells (enc e))) 0 default)++[(32:UInt8)]))))),(6,(.pv (.int .i64 (IntKind.wrap IntKind.i64 (i+1)))))] [])))))else((decide (0<=i)&&decide (Int.toNat i<List.length (List.map enc l))&&4==4)=true∧(∃ j:Tok,AV.pv (PV.rptr (PV.cells (List.getD (List.map enc l) (Int.toNat i) default)))=AV.pv (PV.rptr (PV.cells ((enc) j)))∧((decide (List.length (PV.asStr (List.getD (List.drop 1 (PV.cells (enc j))) 0 default))+List.length [(32:UInt8),(47:UInt8),(47:UInt8),(32:UInt8),(99:UInt8),(10:UInt8)]<=1099511627776))=true∧((decide (List.length x+List.length (PV.asStr (List.getD (List.drop 1 (PV.cells (enc j))) 0 default)++[(32:UInt8),(47:UInt8),(47:UInt8),(32:UInt8),(99:UInt8),(10:UInt8)])<=1099511627776))=true∧(At Qh 0 (Za VI G) VP 0 45 [(0,(.pv (.sl 4 false (List.map enc l)))),(1,(.pv (.int IntKind.u8 (↑(UInt8.toNat k):Int)))),(5,(.pv (.str (x++(PV.asStr (List.getD (List.drop 1 (PV.cells (enc j))) 0 default)++[(32:UInt8),(47:UInt8),(47:UInt8),(32:UInt8),(99:UInt8),(10:UInt8)]))))),(6,(.pv (.int .i64 (IntKind.wrap IntKind.i64 (i+1)))))] []))))))else(G ((.str x)))):At Qh 0 (Za VI G) VP 0 45 [(0,.pv (.sl 4 false (l.map enc))),(1,.pv (.int .u8 k.toNat)),(5,.pv (.str x)),(6,.pv (.int .i64 i))] []:=At.tp (dm [dr Tok] 40 0x2112510211125100842021125100742202142) h
noncomputable def Po:IC:=XU Proofs.Tryz.f5
def P5:List IRes:=[(.tmp 4)]
abbrev c7b:Nat:=52
noncomputable def Em:ZL:=Y3 [(9,.pure (preT (fun _:Unit=>true)) (Zm (fun _:Unit=>true))),(16,.pure (preT (fun x:Str×Unit=>decide (x.1.s.length<=1048576))) (Zm (fun x:Str×Unit=>Z7 x.1))),(11,.pure (preT (fun x:Str×Unit=>decide (x.1.s.length<=1048576))) (Zm (fun x:Str×Unit=>r3S (Yy x.1)))),(17,.pure (preT (fun x:List Tok×UInt8×Unit=>F4 x.1)) (Zm (fun x:List Tok×UInt8×Unit=>(⟨Yn x.1 x.2.1⟩:Str)))),(13,.pure (preT (fun x:Tm×Tm×Unit=>tW x.1&&tW x.2.1)) (Zm (fun x:Tm×Tm×Unit=>Mc x.1 x.2.1)))]
theorem d6g{G:PV->Prop}(s:List UInt8)(k:UInt8)(h : ∃ l:Bool,AV.pv (Zm (fun(x:Unit)=>true) [])=AV.pv (enc l)∧(if (!l)=true then G ((.bool false))else(if (decide ((↑(List.length s):Int)>200))=true then G ((.bool true))else((Go.Pl.preT (fun(x:Str×Unit)=>decide (List.length (Str.s x.1)<=1048576)) [(.str s)])=true∧(∃ e:R3 (List Tok) Int Int,AV.pv (Zm (fun(x:Str×Unit)=>Z7 x.1) [(.str s)])=AV.pv (enc e)∧((Go.Pl.preT (fun(x:Str×Unit)=>decide (List.length (Str.s x.1)<=1048576)) [(.str s)])=true∧(∃ g:R3 TS Int Int,AV.pv (Zm (fun(x:Str×Unit)=>r3S (Yy x.1)) [(.str s)])=AV.pv (enc g)∧(if (R3.c e != 0)=true then G ((.bool (R3.c g==R3.c e)))else((Go.Pl.preT (fun(x:List Tok×UInt8×Unit)=>F4 x.1) [(.sl 4 false (List.map enc (R3.a e))),(.int IntKind.u8 (↑(UInt8.toNat k):Int))])=true∧(∃ j:Str,AV.pv (Zm (fun(x:List Tok×UInt8×Unit)=>Str.mk (Yn x.1 x.2.1)) [(.sl 4 false (List.map enc (R3.a e))),(.int IntKind.u8 (↑(UInt8.toNat k):Int))])=AV.pv (enc j)∧((Go.Pl.preT (fun(x:Str×Unit)=>decide (List.length (Str.s x.1)<=1048576)) [(.str (Str.s j))])=true∧(∃ i:R3 TS Int Int,AV.pv (Zm (fun(x:Str×Unit)=>r3S (Yy x.1)) [(.str (Str.s j))])=AV.pv (enc i)∧(if (R3.c g==R3.c i)=true then(Go.Pl.preT (fun(x:Tm×Tm×Unit)=>tW x.1&&tW x.2.1) [(eS (R3.a g)),(eS (R3.a i))])=true∧(∃ q:Bool,AV.pv (Zm (fun(x:Tm×Tm×Unit)=>Mc x.1 x.2.1) [(eS (R3.a g)),(eS (R3.a i))])=AV.pv (enc q)∧(G ((.bool q))))else(G ((.bool false)))))))))))))))):Zb Em 0 (Za P5 G) Po [] (Yz 52 [.str s,enc k]):=Zb.tp (dm [dv Bool,dv (R3 (List Tok) Int Int),dv (R3 TS Int Int),dv Str] 44 0x222025122006427181020024271610001420001452) h
theorem d6p(a b:Str):(tW (Yy a).a&&tW (Yy b).a)=true:=by rw[DN,DN];rfl
theorem c6l(a b:Str):preT (fun(x:Tm×Tm×Unit)=>tW (Prod.fst x)&&tW (Prod.fst (Prod.snd x))) [eS (UU (Yy a).a),eS (UU (Yy b).a)]=true:=by
 have ha:=QO (Yy a).a
 have hb:=QO (Yy b).a
 refine NK ((Yy a).a,(Yy b).a,()) ?_ ?_ (d6p a b)
 ·show(is Tm (eS (UU (Yy a).a))&&(is Tm (eS (UU (Yy b).a))&&true))=true
  rw[ha.1,hb.1];rfl
 ·show((dec (eS (UU (Yy a).a)):Tm),(dec (eS (UU (Yy b).a)):Tm),())=_
  rw[ha.2,hb.2]
theorem c9j(a b:Str):(decL [eS (UU (Yy a).a),eS (UU (Yy b).a)]:Tm×Tm×Unit)=((Yy a).a,(Yy b).a,()):=by
 have ha:=QO (Yy a).a
 have hb:=QO (Yy b).a
 show((dec (eS (UU (Yy a).a)):Tm),(dec (eS (UU (Yy b).a)):Tm),())=_
 rw[ha.2,hb.2]
theorem e5s{k:UInt8}(h:k.toNat % 3=0)(t:Tok)(ts:List Tok):Yn (t::ts) k=(t.t.s++[10])++Yn ts k:=by
 unfold Yn
 rw[if_pos h,if_pos h,K4,List.append_assoc]
 rfl
theorem e2t{k:UInt8}(e : ¬ k.toNat % 3=0)(h:k.toNat % 3=1)(t:Tok)(ts:List Tok):Yn (t::ts) k=([32,9]++t.t.s++[32])++Yn ts k:=by
 unfold Yn
 rw[if_neg e,if_neg e,if_pos h,if_pos h,K4,List.append_assoc,List.append_assoc]
theorem e6k{k:UInt8}(e : ¬ k.toNat % 3=0)(h : ¬ k.toNat % 3=1)(t:Tok)(ts:List Tok):Yn (t::ts) k=(t.t.s++[32,47,47,32,99,10])++Yn ts k:=by
 unfold Yn
 rw[if_neg e,if_neg e,if_neg h,if_neg h,K4,List.append_assoc]
 rfl
theorem c6s(k:UInt8):Yn [] k=[]:=by
 unfold Yn
 split
 ·rfl
 ·split <;> rfl
theorem d0e(k:UInt8)(n:Int):Int.tmod (↑k.toNat:Int) 3=n ↔ ((k.toNat % 3:Nat):Int)=n:=by
 rw[Int.tmod_eq_emod_of_nonneg (by omega)]
 rfl
theorem b8d{l:List Tok}(z : ∀ t∈l,t.t.s.length<=65536)(hn:l.length<=4000)(k:UInt8){R:List UInt8}: ∀ (n i:Nat) (x:List UInt8),i+n=l.length->x.length<=70000*i->R=x++Yn (l.drop i) k ->
  At Qh 0 (Za VI (Zg (⟨R⟩:Str))) VP 0 45 [(0,.pv (.sl 4 false (l.map enc))),(1,.pv (.int .u8 k.toNat)),(5,.pv (.str x)),(6,.pv (.int .i64 (i:Int)))] []
 | 0,i,x,e,hx,q=>a2s l k x i (Yw (MO (by omega)) (YK (by rw[q,List.drop_eq_nil_of_le (by omega),c6s,List.append_nil])))
 | n+1,i,x,e,hx,q=>by
  have h:i<l.length:=by omega
  have ht:=z _ (List.getElem_mem h)
  have hd:l.drop i=l[i]::l.drop (i+1):=List.drop_eq_getElem_cons h
  rw[hd]at q
  have go : ∀ y:List UInt8,y.length<=l[i].t.s.length+6->R=x++(y++Yn (l.drop (i+1)) k)->At Qh 0 (Za VI (Zg (⟨R⟩:Str))) VP 0 45 [(0,.pv (.sl 4 false (l.map enc))),(1,.pv (.int .u8 k.toNat)),(5,.pv (.str (x++y))),(6,.pv (.int .i64 (IntKind.wrap IntKind.i64 ((i:Int)+1))))] []:=fun y hy q=>by
   have:=b8d (R:=R) z hn k n (i+1) (x++y) (by omega) (by rw[List.length_append];omega) (by rw[q,List.append_assoc])
   rw[<- next (k:=i) (by omega)]at this
   exact this
  have r : ∀ (u v:List UInt8),u.length+v.length<=1000000000->decide (u.length+v.length<=1099511627776)=true:=fun u v h=>decide_eq_true (by omega)
  have g:PV.asStr (List.getD (List.drop 1 (PV.cells (enc l[i]))) 0 default)=l[i].t.s:=rfl
  refine a2s l k x i (Yt (Mh h) (Z5 (fun j=> ?_) fun j=>Z5 (fun h1=> ?_) fun h1=> ?_))
  ·have j:k.toNat % 3=0:=by have:=(d0e k 0).1 j;omega
   refine⟨X0 h rfl,Vy h ⟨?_,?_,?_⟩⟩
   ·rw[g];exact r _ _ (by simp only[List.length_cons,List.length_nil];omega)
   ·rw[g];exact r _ _ (by simp only[List.length_append,List.length_cons,List.length_nil];omega)
   ·exact go (l[i].t.s++[10]) (by simp only[List.length_append,List.length_cons,List.length_nil];omega) (by rw[q,e5s j])
  ·have h1:k.toNat % 3=1:=by have:=(d0e k 1).1 h1;omega
   have j : ¬ k.toNat % 3=0:=by omega
   refine⟨X0 h rfl,Vy h ⟨?_,?_,?_,?_⟩⟩
   ·rw[g];exact r _ _ (by simp only[List.length_cons,List.length_nil];omega)
   ·rw[g];exact r _ _ (by simp only[List.length_append,List.length_cons,List.length_nil];omega)
   ·rw[g];exact r _ _ (by simp only[List.length_append,List.length_cons,List.length_nil];omega)
   ·exact go ([32,9]++l[i].t.s++[32]) (by simp only[List.length_append,List.length_cons,List.length_nil];omega) (by rw[q,e2t j h1])
  ·have j : ¬ k.toNat % 3=0:=fun e=>j ((d0e k 0).2 (by omega))
   have h1 : ¬ k.toNat % 3=1:=fun e=>h1 ((d0e k 1).2 (by omega))
   refine⟨X0 h rfl,Vy h ⟨?_,?_,?_⟩⟩
   ·rw[g];exact r _ _ (by simp only[List.length_cons,List.length_nil];omega)
   ·rw[g];exact r _ _ (by simp only[List.length_append,List.length_cons,List.length_nil];omega)
   ·exact go (l[i].t.s++[32,47,47,32,99,10]) (by simp only[List.length_append,List.length_cons,List.length_nil];omega) (by rw[q,e6k j h1])
theorem c2f: ∀ x:List Tok×UInt8×Unit,F4 x.1=true->Zb Qh 0 (Za VI (Zg (⟨Yn x.1 x.2.1⟩:Str))) VP [] (Yz c8q (encL x)):=by
 rintro⟨l,k,⟨⟩⟩ h
 have h:F4 l=true:=h
 unfold F4 at h
 simp only[Bool.and_eq_true,decide_eq_true_eq,List.all_eq_true]at h
 exact d6j l k (b8d h.2 h.1 k l.length 0 [] (Nat.zero_add _) (Nat.zero_le _) rfl)
theorem b1u(s:List UInt8):F4 (Z7 ⟨s⟩).a=true:=by
 unfold F4
 simp only[Bool.and_eq_true,decide_eq_true_eq,List.all_eq_true]
 exact⟨(U7 ⟨s⟩).2,a6r (He s)⟩
theorem b1y: ∀ x:Str×UInt8×Unit,true=true->Zb Em 0 (Za P5 (Zg true)) Po [] (Yz c7b (encL x)):=by
 rintro⟨⟨s⟩,k,⟨⟩⟩ _
 refine d6g s k (Zd () rfl (Yw (by decide) (X8 (fun h=>ZP rfl) fun h=> ?_)))
 have hs:s.length<=200:=by omega
 have e:decide (s.length<=1048576)=true:=decide_eq_true (by omega)
 refine⟨Zl ((⟨s⟩:Str),()) rfl e,Zd ((⟨s⟩:Str),()) rfl ⟨Zl ((⟨s⟩:Str),()) rfl e,Zd ((⟨s⟩:Str),()) rfl (Pn (fun h1=>ZP ?_) fun h1=> ?_)⟩⟩
 ·exact beq_iff_eq.2 (b5z h1)
 ·obtain⟨_,_,l3⟩:=RF hs k
  obtain⟨b1,b2⟩:=Ow hs h1 k
  refine⟨Zl ((Z7 ⟨s⟩).a,k,()) rfl (b1u s),Zd ((Z7 ⟨s⟩).a,k,()) rfl ⟨Zl ((⟨Yn (Z7 ⟨s⟩).a k⟩:Str),()) rfl (decide_eq_true (by show(Yn (Z7 ⟨s⟩).a k).length<=_;omega)),Zd ((⟨Yn (Z7 ⟨s⟩).a k⟩:Str),()) rfl (Z5 (fun h2=>⟨c6l _ _,Ac _ (c9j ⟨s⟩ ⟨Yn (Z7 ⟨s⟩).a k⟩) (ZP b2)⟩) fun h2=>absurd b1.symm h2)⟩⟩
end Go.Pl
