/-
  Texts of mine that belong together (packed by pack.py), for every input: TyTa, TyTb, PlOt, GUe, QUe, GUf, QUf, TyTc, GUg, GUc, GUb, TyPq, GQc, GQa, QQa, GQb, QQb, QQc, QUb, QUc, QUg, GUh, QUh, TyTs, GUk, QUk, GUj, QUj, TyTz, VwX, TyAk, GUn, VwN, QUn, GUo, QUo, GUd, QUd, GUi, GUl, QUl, GUm.
-/
import Derived.Test.YtgdebdgkofkeeaaGreatDoorChecked
import Derived.Test.YtgdebdgkofkeeaaGreatDoorKT2
import Derived.Test.YtgdebdgkofkeeaaGreatDoorKT3
import Derived.KernelRfl
set_option linter.unusedVariables false
set_option linter.unusedSimpArgs false
namespace Go.Pl
open Go.RowKit
open Enc (enc dec is)
open EncL (encL decL isL)
def We(n:Nd)(k:Nat):Bool:=decide (n.kind=5)&&decide (k=2)
mutual
def XF(bd:List Str):Tm->List Str
 | .mk n ks=>(if n.kind=1∧n.name ∉ bd then [n.name]else [])++Wi bd (We n ks.length) n.name 0 ks
def Wi(bd:List Str)(l:Bool)(s:Str)(i:Nat):List Tm->List Str
 | []=>[]
 | k::ks=>XF (if l&&decide (i=1)then s::bd else bd) k++Wi bd l s (i+1) ks
end
def Qz(l:List Str):List Str:=(YU ((Wn l).map (·.s))).map Str.mk
def XX(t:Tm):List Str:=Qz (XF [] t)
def WT(t:Tm):List Str:=if t.nd.kind=6∨t.nd.kind=8∨t.nd.kind=9 then [t.nd.name]else []
def KO(t:Tm):List Str:=Qz ((ZZ t).flatMap WT)
def Vv(t:Tm)(i:Int):Option Tm:=if 0<=i then(ZZ t)[i.toNat]? else none
def tm0:Tm:=.mk nd0 []
def a8e(o:Option Tm):Tm×Bool:=match o with|some t=>(t,true)|none=>(tm0,false)
def c2c(a b:Nd):Bool:=decide (a.kind=b.kind)&&decide (a.name=b.name)&&decide (a.num=b.num)&&decide (a.elem=b.elem)&&decide (a.dims=b.dims)&&decide (a.data=b.data)&&decide (a.sizes=b.sizes)&&decide (a.ranks=b.ranks)
mutual
def KC:Tm->Tm->Bool
 | .mk n ks,.mk m ls=>c2c n m&&VM ks ls
def VM:List Tm->List Tm->Bool
 | [],[]=>true
 | k::ks,l::ls=>KC k l&&VM ks ls
 | _,_=>false
end
mutual
def Ri:Tm->Tm->Bool
 | .mk n ks,.mk m ls=>decide (n=m)&&De ks ls
def De:List Tm->List Tm->Bool
 | [],[]=>true
 | k::ks,l::ls=>Ri k l&&De ks ls
 | _,_=>false
end
def vN(n:Nat):Str:=⟨118::DL n⟩
def Qe(tk:List Str):Nat->Nat->Nat
 | 0,c=>c+1
 | f+1,c=>if vN (c+1)∈tk then Qe tk f (c+1)else c+1
def Z4(tk:List Str)(c:Nat):Nat:=Qe tk tk.length c
def FM(σ:List (Str×Str))(s:Str):Str:=match σ.find? fun p=>p.1==s with|some p=>p.2|none=>s
def reN(n:Nd)(s:Str):Nd:={n with name:=s}
mutual
def UG(tk:List Str)(σ:List (Str×Str))(c:Nat):Tm->Tm×Nat
 | .mk n ks=>
  if We n ks.length then
   let c':=Z4 tk c
   let r:=Xt tk σ ((n.name,vN c')::σ) 0 c' ks
   (.mk (reN n (vN c')) r.1,r.2)
  else
   let r:=Xt tk σ σ 0 c ks
   (.mk (if n.kind=1 then reN n (FM σ n.name)else n) r.1,r.2)
def Xt(tk:List Str)(σ τ:List (Str×Str))(i:Nat)(c:Nat):List Tm->List Tm×Nat
 | []=>([],c)
 | k::ks=>
  let r:=UG tk (if i=0 then σ else τ) c k
  let q:=Xt tk σ τ (i+1) r.2 ks
  (r.1::q.1,q.2)
end
def Y0(t:Tm):Tm:=(UG (XX t) [] 0 t).1
def Rf(a b:Tm):Bool:=KC (Y0 a) (Y0 b)
def BO(y0:Tm):PV:=(.agg [(.int .i64 (PV.asInt (List.getD (PV.cells (enc y0)) 0 default))),(.int .i64 (PV.asInt (List.getD (PV.cells (enc y0)) (0+1) default))),(.str (PV.asStr (List.getD (PV.cells (enc y0)) (0+1+1) default))),(.int .i64 (PV.asInt (List.getD (PV.cells (enc y0)) (0+1+1+1) default))),(.str (PV.asStr (List.getD (PV.cells (enc y0)) (0+1+1+1+1) default))),(.sl 1 (PV.asT (List.getD (PV.cells (enc y0)) (0+1+1+1+1+1) default)) (PV.asXs (List.getD (PV.cells (enc y0)) (0+1+1+1+1+1) default))),(.sl 1 (PV.asT (List.getD (PV.cells (enc y0)) (0+1+1+1+1+1+1) default)) (PV.asXs (List.getD (PV.cells (enc y0)) (0+1+1+1+1+1+1) default))),(.sl 2 (PV.asT (List.getD (PV.cells (enc y0)) (0+1+1+1+1+1+1+1) default)) (PV.asXs (List.getD (PV.cells (enc y0)) (0+1+1+1+1+1+1+1) default))),(.sl 1 (PV.asT (List.getD (PV.cells (enc y0)) (0+1+1+1+1+1+1+1+1) default)) (PV.asXs (List.getD (PV.cells (enc y0)) (0+1+1+1+1+1+1+1+1) default))),(.sl 10 (PV.asT (List.getD (PV.cells (enc y0)) (0+1+1+1+1+1+1+1+1+1) default)) (PV.asXs (List.getD (PV.cells (enc y0)) (0+1+1+1+1+1+1+1+1+1) default)))])
theorem Tp(t:Tm):BO t=enc t:=by
 obtain⟨n,ks⟩:=t
 unfold BO
 rw[Zy]
 rfl
def ndC(n:Nd)(ks:List Tm):PV:=.agg [.int .i64 n.kind,.int .i64 n.line,.str n.name.s,.int .i64 n.num,.str n.elem.s,.sl 1 false (n.dims.map enc),.sl 1 false (n.data.map enc),.sl 2 false (n.sizes.map enc),.sl 1 false (n.ranks.map enc),.sl 10 false (ks.map enc)]
theorem Vz(n:Nd)(ks:List Tm):ndC n ks=enc (Tm.mk n ks):=by rw[Zy];rfl
end Go.Pl
namespace Go.Pl
open Go.RowKit
open Enc (enc dec is)
open EncL (encL decL isL)
def Nl(l:List Str)(s:Str)(i:Nat):Int:=match l with
 | []=> -1
 | x::r=>if s=x then(i:Int)else Nl r s (i+1)
def b6c(l:List Str)(s:Str):Int:=Nl l s 0
theorem b1y(l:List Str)(s:Str): ∀ i,(decide (Nl l s i ≥ 0))=decide (s∈l):=by
 induction l with
 | nil=>intro i;simp[Nl]
 | cons x r ih=>
  intro i
  rw[Nl]
  by_cases h:s=x
  ·rw[if_pos h];simp[h]
  ·rw[if_neg h,ih];simp[h]
theorem a9a{a b:Nat}(h:Vs (a:Int)=Vs (b:Int)):a=b:=by
 have h:=congrArg Str.s h
 rw[UC (by omega),UC (by omega)]at h
 have h:=congrArg a8v h
 rw[OL,OL]at h
 have h:(a:Int)=(b:Int):=by simpa using h
 omega
theorem c4l{a b:Nat}(h:vN a=vN b):a=b:=by
 unfold vN at h
 have h1:DL (a:Int)=DL (b:Int):=by simpa using h
 exact a9a (by unfold DL at h1;cases h2:Vs (a:Int);cases h3:Vs (b:Int);rw[h2,h3]at h1;simp at h1;rw[h1])
open Classical in
theorem a2e(tk:List Str): ∀ (f c:Nat),(tk.filter fun s=>decide (∃ k,c<k∧s=vN k)).length<=f->vN (Qe tk f c) ∉ tk:=by
 intro f
 induction f with
 | zero=>
  intro c h hm
  rw[Qe]at hm
  have:vN (c+1)∈tk.filter fun s=>decide (∃ k,c<k∧s=vN k):=List.mem_filter.2 ⟨hm,decide_eq_true ⟨c+1,by omega,rfl⟩⟩
  have:=List.length_pos_of_mem this
  omega
 | succ f ih=>
  intro c h
  rw[Qe]
  split
  ·rename_i hm
   refine ih (c+1) ?_
   have e:(tk.filter fun s=>decide (∃ k,c+1<k∧s=vN k))=(tk.filter fun s=>decide (∃ k,c<k∧s=vN k)).filter fun s=>decide (∃ k,c+1<k∧s=vN k):=by
    rw[List.filter_filter]
    congr 1
    funext s
    rw[Bool.eq_iff_iff]
    simp only[decide_eq_true_eq,Bool.and_eq_true]
    exact⟨fun⟨k,h1,h2⟩=>⟨⟨k,h1,h2⟩,k,by omega,h2⟩,fun h=>h.1⟩
   rw[e]
   have:=List.length_filter_lt_length_iff_exists (p:=fun s=>decide (∃ k,c+1<k∧s=vN k)) (l:=tk.filter fun s=>decide (∃ k,c<k∧s=vN k)) |>.2
    ⟨vN (c+1),List.mem_filter.2 ⟨hm,decide_eq_true ⟨c+1,by omega,rfl⟩⟩,fun hk=>by
     obtain⟨k,h1,h2⟩:=of_decide_eq_true hk
     have:=c4l h2
     omega⟩
   omega
  ·assumption
theorem H6(tk:List Str)(c:Nat):vN (Z4 tk c) ∉ tk:=by
 classical exact a2e tk _ c (List.length_filter_le _ _)
theorem b3z(tk:List Str): ∀ f c,c<Qe tk f c∧Qe tk f c<=c+f+1:=by
 intro f
 induction f with
 | zero=>intro c;rw[Qe];omega
 | succ f ih=>
  intro c
  rw[Qe]
  split
  ·have:=ih (c+1);omega
  ·omega
theorem Qm(tk:List Str)(c:Nat):c<Z4 tk c∧Z4 tk c<=c+tk.length+1:=b3z tk _ c
theorem Nu(tk:List Str): ∀ f c k,c<k->k<Qe tk f c->vN k∈tk:=by
 intro f
 induction f with
 | zero=>intro c k h1 h2;rw[Qe]at h2;omega
 | succ f ih=>
  intro c k h1 h2
  rw[Qe]at h2
  split at h2
  ·rename_i hm
   by_cases e:k=c+1
   ·rw[e];exact hm
   ·exact ih (c+1) k (by omega) h2
  ·omega
theorem Pd(tk:List Str){c d:Nat}(h1:c<d)(h2:vN d ∉ tk)(h3 : ∀ k,c<k->k<d->vN k∈tk):Z4 tk c=d:=by
 have a:=Qm tk c
 rcases Nat.lt_trichotomy (Z4 tk c) d with h|h|h
 ·exact absurd (h3 _ a.1 h) (H6 tk c)
 ·exact h
 ·exact absurd (Nu tk _ c d h1 h) h2
end Go.Pl
namespace Go.Pl
open Go.RowKit
open Enc (enc dec is)
open EncL (encL decL isL)
def OQ(n:Nd):List PV:=[enc n.kind,enc n.line,enc n.name,enc n.num,enc n.elem,enc n.dims,enc n.data,enc n.sizes,enc n.ranks]
def Xk(Φ:Zn)(cs:Array Value)(o:Nat)(n:Nd):Prop:= ∀ (i:Nat) p,(OQ n)[i]? = some p-> ∃ v,cs[o+i]? = some v∧v.oneCell'=true∧RP Φ v p
structure RowH (Φ:Zn) (w:World) (X:Nat->Prop) (B c:Nat) (cs:Array Value) (ks:List Tm) (Xs:Nat->Nat->Prop) (us:Nat->Value):Prop where
 ne:ks≠[]
 heap:w.heap[B]? = some (.cells cs 28 (0,0))
 size:cs.size=c*10
 len:ks.length<=c
 phi:Φ B=none
 X : ∀ b,X b ↔ b=B ∨ ∃ j,j<ks.length∧Xs j b
 node : ∀ (j:Nat) k,ks[j]? = some k->Xk Φ cs (j*10) k.n
 kid : ∀ j,j<ks.length->cs[j*10+9]? = some (us j)∧(us j).oneCell'=true
 apart : ∀ i j,i<ks.length->j<ks.length->i≠j-> ∀ b,Xs i b-> ¬ Xs j b
 top : ∀ j,j<ks.length-> ¬ Xs j B
inductive OwnK (Φ:Zn) (w:World):(Nat->Prop)->Value->List Tm->Prop
 | nil (X:Nat->Prop) (a:Option Addr) (c:Nat) (hX : ∀ b,¬ X b):OwnK Φ w X (.slice a 0 c) []
 | row (X:Nat->Prop) (B c:Nat) (cs:Array Value) (ks:List Tm) (Xs:Nat->Nat->Prop) (us:Nat->Value) (h:RowH Φ w X B c cs ks Xs us) (ho : ∀ (j:Nat) k,ks[j]? = some k->OwnK Φ w (Xs j) (us j) k.kids) :
   OwnK Φ w X (.slice (some ⟨B,0,none⟩) ks.length c) ks
theorem Xk.mono{Φ Φ':Zn}(h:Φ.le Φ'){cs:Array Value}{o:Nat}{n:Nd}(k:Xk Φ cs o n):Xk Φ' cs o n:=fun i p hp=>by
 obtain⟨v,h1,h2,h3⟩:=k i p hp
 exact⟨v,h1,h2,h3.mono h⟩
theorem OwnK.out{Φ:Zn}{w:World}{X:Nat->Prop}{u:Value}{ks:List Tm}(h:OwnK Φ w X u ks): ∀ b,X b->b<w.heap.size∧Φ b=none∧ ∃ cs,w.heap[b]? = some (.cells cs 28 (0,0)):=by
 induction h with
 | nil X a c hX=>exact fun b hb=>absurd hb (hX b)
 | row X B c cs ks Xs us h ho ih=>
  intro b hb
  rcases (h.X b).1 hb with rfl|⟨j,hj,hb⟩
  ·exact⟨(Array.getElem?_eq_some_iff.1 h.heap).1,h.phi,cs,h.heap⟩
  ·exact ih j ks[j] (List.getElem?_eq_getElem hj) b hb
theorem OwnK.mono{Φ Φ':Zn}{w w':World}{X:Nat->Prop}{u:Value}{ks:List Tm}(h:OwnK Φ w X u ks)(hΦ:Φ.le Φ')(hn : ∀ b,X b->Φ' b=none)(hw : ∀ b,X b->w'.heap[b]? = w.heap[b]?):OwnK Φ' w' X u ks:=by
 induction h with
 | nil X a c hX=>exact .nil X a c hX
 | row X B c cs ks Xs us h ho ih=>
  have hB:X B:=(h.X B).2 (.inl rfl)
  refine .row X B c cs ks Xs us ⟨h.ne,(hw B hB).trans h.heap,h.size,h.len,hn B hB,h.X,fun j k hk=>(h.node j k hk).mono hΦ,h.kid,h.apart,h.top⟩ fun j k hk=> ?_
  have hj:j<ks.length:=(List.getElem?_eq_some_iff.1 hk).1
  exact ih j k hk (fun b hb=>hn b ((h.X b).2 (.inr ⟨j,hj,hb⟩))) fun b hb=>hw b ((h.X b).2 (.inr ⟨j,hj,hb⟩))
theorem OwnK.one{Φ:Zn}{w:World}{X:Nat->Prop}{u:Value}{ks:List Tm}(h:OwnK Φ w X u ks):u.oneCell'=true:=by cases h <;> rfl
theorem OwnK.congr{Φ:Zn}{w:World}{X X':Nat->Prop}{u:Value}{ks:List Tm}(h:OwnK Φ w X u ks)(e : ∀ b,X' b ↔ X b):OwnK Φ w X' u ks:=by
 obtain rfl:X'=X:=funext fun b=>propext (e b)
 exact h
theorem RowH.set{Φ Φ':Zn}{w w':World}{X Y:Nat->Prop}{B c:Nat}{cs cs':Array Value}{ks:List Tm}{Xs:Nat->Nat->Prop}{us:Nat->Value}(h:RowH Φ w X B c cs ks Xs us){i:Nat}(hi:i<ks.length){k:Tm}{u:Value}
  (hΦ:Φ.le Φ') (hB:Φ' B=none) (hw:w'.heap[B]? = some (.cells cs' 28 (0,0))) (hsz:cs'.size=cs.size) (hout : ∀ j,(j<i*10∨i*10+10<=j)->cs'[j]? = cs[j]?) (hn:Xk Φ' cs' (i*10) k.n)
  (hu:cs'[i*10+9]? = some u) (hu1:u.oneCell'=true) (hY : ∀ b,Y b->Xs i b ∨ ¬ X b) :
  RowH Φ' w' (fun b=>(X b∧ ¬ Xs i b)∨Y b) B c cs' (ks.set i k) (fun j=>if j=i then Y else Xs j) (fun j=>if j=i then u else us j):=by
 have hl:(ks.set i k).length=ks.length:=List.length_set
 have hYo : ∀ j,j<ks.length->j≠i-> ∀ b,Y b-> ¬ Xs j b:=fun j hj hji b hb hx=>by
  rcases hY b hb with h1|h1
  ·exact h.apart i j hi hj (Ne.symm hji) b h1 hx
  ·exact h1 ((h.X b).2 (.inr ⟨j,hj,hx⟩))
 refine⟨fun e=>h.ne (List.length_eq_zero_iff.1 (by rw[<- hl,e];rfl)),hw,hsz.trans h.size,by rw[hl];exact h.len,hB,fun b=> ?_,fun j x hx=> ?_,fun j hj=> ?_,fun a b ha hb hab x hx=> ?_,fun j hj hx=> ?_⟩
 ·rw[hl]
  constructor
  ·rintro(⟨hb,hn⟩|hb)
   ·rcases (h.X b).1 hb with rfl|⟨j,hj,hx⟩
    ·exact .inl rfl
    ·refine .inr ⟨j,hj,?_⟩
     by_cases e:j=i
     ·subst e;exact absurd hx hn
     ·rw[if_neg e];exact hx
   ·exact .inr ⟨i,hi,by rw[if_pos rfl];exact hb⟩
  ·rintro(rfl|⟨j,hj,hx⟩)
   ·exact .inl ⟨(h.X b).2 (.inl rfl),h.top i hi⟩
   ·by_cases e:j=i
    ·rw[if_pos e]at hx;exact .inr hx
    ·rw[if_neg e]at hx
     exact .inl ⟨(h.X b).2 (.inr ⟨j,hj,hx⟩),h.apart j i hj hi e b hx⟩
 ·rw[List.getElem?_set]at hx
  by_cases e:i=j
  ·subst e
   rw[if_pos rfl,if_pos hi]at hx
   cases hx
   exact hn
  ·rw[if_neg e]at hx
   intro a p hp
   obtain⟨v,h1,h2,h3⟩:=(h.node j x hx).mono hΦ a p hp
   have ha:a<9:=(List.getElem?_eq_some_iff.1 hp).1
   exact⟨v,by rw[hout _ (by omega)];exact h1,h2,h3⟩
 ·rw[hl]at hj
  by_cases e:j=i
  ·subst e;rw[if_pos rfl];exact⟨hu,hu1⟩
  ·rw[if_neg e,hout _ (by omega)];exact h.kid j hj
 ·rw[hl]at ha hb
  by_cases e1:a=i
  ·have e2:b≠i:=fun e=>hab (e1.trans e.symm)
   rw[if_pos e1]at hx
   rw[if_neg e2]
   exact hYo b hb e2 x hx
  ·rw[if_neg e1]at hx
   by_cases e2:b=i
   ·rw[if_pos e2]
    exact fun hy=>hYo a ha e1 x hy hx
   ·rw[if_neg e2];exact h.apart a b ha hb hab x hx
 ·rw[hl]at hj
  by_cases e:j=i
  ·rw[if_pos e]at hx
   rcases hY B hx with h1|h1
   ·exact h.top i hi h1
   ·exact h1 ((h.X B).2 (.inl rfl))
  ·rw[if_neg e]at hx;exact h.top j hj hx
theorem OwnK.set{Φ Φ':Zn}{w w':World}{X Y:Nat->Prop}{B c:Nat}{cs cs':Array Value}{ks:List Tm}{Xs:Nat->Nat->Prop}{us:Nat->Value}(h:RowH Φ w X B c cs ks Xs us)(ho : ∀ (j:Nat) k,ks[j]? = some k->OwnK Φ w (Xs j) (us j) k.kids)
  {i:Nat} (hi:i<ks.length) {k:Tm} {u:Value} (hΦ:Φ.le Φ') (hX : ∀ b,X b-> ¬ Xs i b->Φ' b=none∧(b≠B->w'.heap[b]? = w.heap[b]?)) (hw:w'.heap[B]? = some (.cells cs' 28 (0,0))) (hsz:cs'.size=cs.size)
  (hout : ∀ j,(j<i*10∨i*10+10<=j)->cs'[j]? = cs[j]?) (hn:Xk Φ' cs' (i*10) k.n) (hu:cs'[i*10+9]? = some u) (hu1:u.oneCell'=true) (hk:OwnK Φ' w' Y u k.kids) (hY : ∀ b,Y b->Xs i b ∨ ¬ X b) :
  OwnK Φ' w' (fun b=>(X b∧ ¬ Xs i b)∨Y b) (.slice (some ⟨B,0,none⟩) ks.length c) (ks.set i k):=by
 have hBX:X B:=(h.X B).2 (.inl rfl)
 have hr:=h.set hi hΦ (hX B hBX (h.top i hi)).1 hw hsz hout hn hu hu1 hY
 have e:(ks.set i k).length=ks.length:=List.length_set
 rw[<- e]
 refine .row _ B c cs' _ _ _ hr fun j x hx=> ?_
 rw[List.getElem?_set]at hx
 by_cases ej:i=j
 ·subst ej
  rw[if_pos rfl,if_pos hi]at hx
  cases hx
  rw[if_pos rfl,if_pos rfl]
  exact hk
 ·rw[if_neg ej]at hx
  have hj:j<ks.length:=(List.getElem?_eq_some_iff.1 hx).1
  rw[if_neg (Ne.symm ej),if_neg (Ne.symm ej)]
  have key : ∀ b,Xs j b->X b∧ ¬ Xs i b∧b≠B:=fun b hb=>⟨(h.X b).2 (.inr ⟨j,hj,hb⟩),h.apart j i hj hi (Ne.symm ej) b hb,fun e=>h.top j hj (e▸hb)⟩
  exact(ho j x hx).mono hΦ (fun b hb=>(hX b (key b hb).1 (key b hb).2.1).1) fun b hb=>(hX b (key b hb).1 (key b hb).2.1).2 (key b hb).2.2
theorem Ps(k:Tm):(enc k:PV).cells=OQ k.n++[enc k.kids]:=by
 obtain⟨n,ks⟩:=k
 rw[Zy]
 rfl
theorem JM(k:Tm):(enc k:PV).cells.length=10:=by rw[Ps];rfl
theorem OwnK.rp{Φ:Zn}{w:World}{X:Nat->Prop}{u:Value}{ks:List Tm}(h:OwnK Φ w X u ks){Φ2:Zn}(hΦ:Φ.le Φ2)(hX : ∀ b,X b-> ∀ cs T z,w.heap[b]? = some (.cells cs T z)->Φ2 b=some cs):RP Φ2 u (enc ks:PV):=by
 induction h with
 | nil X a c h=>exact .sl0 a c 10 false (fun h=>by cases h)
 | row X B c cs ks Xs us h ho ih=>
  have hr : ∀ (j:Nat) k,ks[j]? = some k->RP Φ2 (us j) (enc k.kids:PV):=fun j k hk=>by
   have hj:j<ks.length:=(List.getElem?_eq_some_iff.1 hk).1
   exact ih j k hk fun b hb=>hX b ((h.X b).2 (.inr ⟨j,hj,hb⟩))
  have hs : ∀ x∈ks.map (enc:Tm->PV),x.cells.length=10:=fun x hx=>by
   obtain⟨k,_,rfl⟩:=List.mem_map.1 hx
   exact JM k
  have hlen:(ks.map (enc:Tm->PV)).length=ks.length:=List.length_map _
  have hf:=YR hs
  rw[hlen]at hf
  have key : ∀ (j:Nat) p,(flat (ks.map (enc:Tm->PV)))[j]? = some p-> ∃ v,cs[0+j]? = some v∧v.oneCell'=true∧RP Φ2 v p:=fun j p hp=>by
   have hj:j<ks.length*10:=by rw[<- hf];exact(List.getElem?_eq_some_iff.1 hp).1
   have hq:j / 10<ks.length:=by omega
   have hy:(ks.map (enc:Tm->PV))[j / 10]? = some (enc ks[j / 10]):=by rw[List.getElem?_map,List.getElem?_eq_getElem hq];rfl
   have e:=Cc hs hy (show j % 10<10 by omega)
   rw[show j / 10*10+j % 10=j by omega,hp,Ps]at e
   have hk:=List.getElem?_eq_getElem hq
   rw[Nat.zero_add]
   by_cases h9:j % 10<9
   ·rw[List.getElem?_append_left (show j % 10<(OQ _).length from h9)]at e
    obtain⟨v,h1,h2,h3⟩:=(h.node _ _ hk).mono hΦ _ _ e.symm
    exact⟨v,by rw[<- h1];congr 1;omega,h2,h3⟩
   ·have h9:j % 10=9:=by omega
    rw[h9]at e
    have e:p=enc ks[j / 10].kids:=Option.some.inj e
    subst e
    obtain⟨h1,h2⟩:=h.kid _ hq
    exact⟨_,by rw[<- h1];congr 1;omega,h2,hr _ _ hk⟩
  have hΦB:Φ2 B=some cs:=hX B ((h.X B).2 (.inl rfl)) cs _ _ h.heap
  refine Eq.mpr (by rw[hlen];rfl) (RP.sl B 0 cs c 10 false (ks.map enc) (fun j=>(cs[0+j]?).getD default) hΦB (by rw[hlen];exact h.len) (fun e=>by cases e) hs (fun j p hp=> ?_) fun j p hp=> ?_:RP Φ2 (.slice (some ⟨B,0,none⟩) (ks.map (enc:Tm->PV)).length c) (.sl 10 false (ks.map enc)))
  ·obtain⟨v,h1,h2,h3⟩:=key j p hp
   simp only[h1,Option.getD_some,and_self,h2]
  ·obtain⟨v,h1,h2,h3⟩:=key j p hp
   simp only[h1,Option.getD_some]
   exact h3
open Classical in
theorem OwnK.freeze{Φ:Zn}{w:World}{X:Nat->Prop}{u:Value}{ks:List Tm}(h:OwnK Φ w X u ks)(hp:Z9 Φ w): ∃ Φ',Φ.le Φ'∧Z9 Φ' w∧(∀ b cs,Φ' b=some cs->Φ b=some cs∨X b)∧RP Φ' u (enc ks:PV):=by
 let Φ':Zn:=fun b=>if X b then(match w.heap[b]? with|some (.cells cs _ _)=>some cs|_=>none)else Φ b
 have hle:Φ.le Φ':=fun b cs hb=>by
  have : ¬ X b:=fun hx=>by rw[(h.out b hx).2.1]at hb;cases hb
  show(if X b then _ else Φ b)=_
  rw[if_neg this];exact hb
 refine⟨Φ',hle,fun b cs hb=> ?_,fun b cs hb=> ?_,h.rp hle fun b hb cs T z hc=> ?_⟩
 ·by_cases hx:X b
  ·obtain⟨_,_,cs',hc⟩:=h.out b hx
   have hb:(if X b then(match w.heap[b]? with|some (.cells cs _ _)=>some cs|_=>none)else Φ b)=some cs:=hb
   rw[if_pos hx,hc]at hb
   cases hb
   exact⟨_,_,hc⟩
  ·have hb:(if X b then _ else Φ b)=some cs:=hb
   rw[if_neg hx]at hb
   exact hp b cs hb
 ·by_cases hx:X b
  ·exact .inr hx
  ·have hb:(if X b then _ else Φ b)=some cs:=hb
   rw[if_neg hx]at hb
   exact .inl hb
 ·show(if X b then _ else Φ b)=_
  rw[if_pos hb,hc]
end Go.Pl
namespace Go.Pl
open Go.RowKit
open Enc (enc dec is)
open EncL (encL decL isL)
set_option maxRecDepth 100000
noncomputable def HV:IC:=Wo Proofs.Tryz.f91
def Hf:List IRes:=[(.tmp 4)]
abbrev c3l:Nat:=19
def Ar:Zz:=YG []
theorem d1o{G:PV->Prop}(l:List Str)(s:List UInt8)(h:At Ar 0 (Zb Hf G) HV 0 19 [(0,(.pv (.sl 1 false (List.map enc l)))),(1,(.pv (.str s))),(7,(.pv (.int .i64 (↑(List.length (List.map enc l)):Int)))),(8,(.pv (.int .i64 0)))] []):Zd Ar 0 (Zb Hf G) HV [] (Ya 19 [enc l,.str s]):=Zd.tp (.nil) h
theorem a7f{G:PV->Prop}(l:List Str)(s:List UInt8)(i:Int)(h:if (decide (i<(↑(List.length (List.map enc l)):Int)))=true then(decide (0<=i)&&decide (Int.toNat i<List.length (List.map enc l))&&Enc.sz Str==1)=true∧(∃ y0:Str,AV.pv (PV.rptr (PV.cells (List.getD (List.map enc l) (Int.toNat i) default)))=AV.pv (PV.rptr (PV.cells ((enc) y0)))∧(if (s==PV.asStr (List.getD (PV.cells (enc y0)) 0 default))=true then G ((.int .i64 i))else(At Ar 0 (Zb Hf G) HV 0 19 [(0,(.pv (.sl 1 false (List.map enc l)))),(1,(.pv (.str s))),(7,(.pv (.int .i64 (↑(List.length (List.map enc l)):Int)))),(8,(.pv (.int .i64 (IntKind.wrap IntKind.i64 (i+1)))))] [])))else(G ((.int .i64 (-1))))):At Ar 0 (Zb Hf G) HV 0 19 [(0,.pv (enc l)),(1,.pv (.str s)),(7,.pv (.int .i64 (l.map (enc:Str->PV)).length)),(8,.pv (.int .i64 i))] []:=At.tp (dm [dr Str] 18 0x200014225100b42) h
noncomputable def b3p:IC:=Wo Proofs.Tryz.f69
def b3b:List IRes:=[(.tmp 4)]
abbrev c7p:Nat:=9
def c1z:Zz:=YG [(91,.pure (preT (fun x:List Str×Str×Unit=>Z0 x.1)) (Zj (fun x:List Str×Str×Unit=>b6c x.1 x.2.1)))]
theorem c8j{G:PV->Prop}(l:List Str)(s:List UInt8)(h:(Go.Pl.preT (fun(x:List Str×Str×Unit)=>Z0 x.1) [(.sl 1 false (List.map enc l)),(.str s)])=true∧(∃ y0:Int,AV.pv (Zj (fun(x:List Str×Str×Unit)=>b6c x.1 x.2.1) [(.sl 1 false (List.map enc l)),(.str s)])=AV.pv (enc y0)∧(G ((.bool (decide (y0 ≥ 0))))))):Zd c1z 0 (Zb b3b G) b3p [] (Ya 9 [enc l,.str s]):=Zd.tp (.req (.abs (Int) (fun YY=>AV.pv (enc YY)) (.lit (.nil)))) h
noncomputable def KU:IC:=Wo Proofs.Tryz.f67
def KX:List IRes:=[(.tmp 2)]
abbrev c7h:Nat:=14
def Ca:Zz:=YG [(68,.pure (preT (fun x:Int×Unit=>decide (-9223372036854775808<=x.1)&&decide (x.1<=9223372036854775807))) (Zj (fun x:Int×Unit=>Vs x.1))),(69,.pure (preT (fun x:List Str×Str×Unit=>Z0 x.1)) (Zj (fun x:List Str×Str×Unit=>decide (x.2.1∈x.1))))]
theorem d2c{G:AV×List AObj×List AObj->Prop}(tk:List Str)(c:Int)(h:At Ca 2 (Yc 2 KX G) KU 0 14 [(0,(.ptr 0 0)),(1,(.ptr 1 0))] [(.obj (.box [(.pv (.int .i64 c))])),(.obj (.box [(.pv (.sl 1 false (List.map enc tk)))]))]):Zd Ca 2 (Yc 2 KX G) KU [] (XQ 14 [.ptr 0 0,.ptr 1 0] [.box [.pv (.int .i64 c)],.box [.pv (enc tk)]]):=Zd.to (.nil) h
theorem c4x{G:AV×List AObj×List AObj->Prop}(tk:List Str)(c:Int)(h:(Go.Pl.preT (fun(x:Int×Unit)=>decide ((-9223372036854775808:Int)<=x.1)&&decide (x.1<=9223372036854775807)) [(.int .i64 (IntKind.wrap IntKind.i64 (c+1)))])=true∧(∃ y0:Str,AV.pv (Zj (fun(x:Int×Unit)=>Vs x.1) [(.int .i64 (IntKind.wrap IntKind.i64 (c+1)))])=AV.pv (enc y0)∧((decide (List.length [(118:UInt8)]+List.length (Str.s y0)<=1099511627776))=true∧((Go.Pl.preT (fun(x:List Str×Str×Unit)=>Z0 x.1) [(.sl 1 false (List.map enc tk)),(.str ([(118:UInt8)]++Str.s y0))])=true∧(∃ y1:Bool,AV.pv (Zj (fun(x:List Str×Str×Unit)=>decide (x.2.1∈x.1)) [(.sl 1 false (List.map enc tk)),(.str ([(118:UInt8)]++Str.s y0))])=AV.pv (enc y1)∧(if (!y1)=true then G (((.pv (.str ([(118:UInt8)]++Str.s y0))),([(.box [(.pv (.int .i64 (IntKind.wrap IntKind.i64 (c+1))))]),(.box [(.pv (.sl 1 false (List.map enc tk)))])],[])))else(At Ca 2 (Yc 2 KX G) KU 0 14 [(0,(.ptr 0 0)),(1,(.ptr 1 0))] [(.obj (.box [(.pv (.int .i64 (IntKind.wrap IntKind.i64 (c+1))))])),(.obj (.box [(.pv (.sl 1 false (List.map enc tk)))]))]))))))):At Ca 2 (Yc 2 KX G) KU 0 14 [(0,.ptr 0 0),(1,.ptr 1 0)] [.obj (.box [.pv (.int .i64 c)]),.obj (.box [.pv (enc tk)])]:=At.to (dm [dv Str,dv Bool] 13 0x14611512) h
end Go.Pl
namespace Go.Pl
open Go.RowKit
open Enc (enc dec is)
open EncL (encL decL isL)
theorem b2d(l:List Str)(s:Str)(hl:l.length<=9223372036854775807): ∀ d i:Nat,d+i=l.length->At Ar 0 (Zb Hf (Zo (Nl (l.drop i) s i))) HV 0 19 [(0,.pv (enc l)),(1,.pv (.str s.s)),(7,.pv (.int .i64 (l.map (enc:Str->PV)).length)),(8,.pv (.int .i64 i))] []:=by
 intro d
 induction d with
 | zero=>
  intro i hi
  rw[List.drop_eq_nil_of_le (by omega)]
  exact a7f l s.s i (XW (Vu (by omega)) (Un rfl))
 | succ d ih=>
  intro i hi
  have h1:i<l.length:=by omega
  rw[List.drop_eq_getElem_cons h1]
  refine a7f l s.s i (XH (WR h1) ⟨ZQ h1 rfl,Yf h1 (VK (fun e=> ?_) fun e=> ?_)⟩)
  ·rw[Nl,if_pos (by cases s;cases hh:l[i];rw[hh]at e;exact congrArg Str.mk e)]
   exact Un rfl
  ·rw[Nl,if_neg (fun h=>e (by rw[h];rfl)),next (by omega)]
   exact ih (i+1) (by omega)
theorem b8b: ∀ x:List Str×Str×Unit,Z0 x.1=true->Zd Ar 0 (Zb Hf (Zo (b6c x.1 x.2.1))) HV [] (Ya c3l (encL x)):=by
 rintro⟨l,s,⟨⟩⟩ h
 refine d1o l s.s (b2d l s (of_decide_eq_true h) l.length 0 (by omega))
theorem b7s: ∀ x:List Str×Str×Unit,Z0 x.1=true->Zd c1z 0 (Zb b3b (Zo (decide (x.2.1∈x.1)))) b3p [] (Ya c7p (encL x)):=by
 rintro⟨l,s,⟨⟩⟩ h
 exact c8j l s.s ⟨Ze (l,s,()) rfl h,Zg (l,s,()) rfl (ZC (b1y l s 0))⟩
noncomputable def XA:List AV->List AObj->Bool
 | [.ptr 0 0,.ptr 1 0],[.box [.pv (.int .i64 c)],.box [.pv p]]=>OI (List Str) p&&(decide (0<=c)&&(decide ((dec p:List Str).length<=1048576)&&decide (c+(dec p:List Str).length<=4611686018427387904)))
 | _,_=>false
def V3:List AV->List AObj->AV×List AObj×List AObj
 | _,[.box [.pv (.int .i64 c)],.box [.pv p]]=>(.pv (enc (vN (Z4 (dec p) c.toNat))),[.box [.pv (.int .i64 (Z4 (dec p) c.toNat))],.box [.pv p]],[])
 | _,_=>(.pv .nilp,[],[])
theorem b3u(tk:List Str)(ht:tk.length<=1048576)(N:Nat)(hN:N<=4611686018428436481): ∀ (d c:Nat),d+c=N->Z4 tk c=N ->
  At Ca 2 (Yc 2 KX fun r=>r=(.pv (enc (vN N)),[.box [.pv (.int .i64 (N:Int))],.box [.pv (enc tk)]],[])) KU 0 14 [(0,.ptr 0 0),(1,.ptr 1 0)] [.obj (.box [.pv (.int .i64 c)]),.obj (.box [.pv (enc tk)])]:=by
 intro d
 induction d with
 | zero=>intro c hc hn;have:=(Qm tk c).1;omega
 | succ d ih=>
  intro c hc hn
  have e:(IntKind.i64.wrap ((c:Int)+1))=((c+1:Nat):Int):=by rw[next (by omega)]
  refine c4x tk c ?_
  rw[e]
  have hl:(Vs ((c+1:Nat):Int)).s.length<=21:=Kq (n:=((c+1:Nat):Int)) (by omega)
  refine⟨Ze (((c+1:Nat):Int),()) rfl (by simp;omega),Zg (((c+1:Nat):Int),()) rfl ⟨decide_eq_true (by simp only[List.length_singleton];omega),Ze (tk,vN (c+1),()) rfl (decide_eq_true (by show tk.length<=_;omega)),Zg (tk,vN (c+1),()) rfl (Ve (fun k=> ?_) fun k=> ?_)⟩⟩
  ·have k:vN (c+1) ∉ tk:=of_decide_eq_false k
   have:N=c+1:=hn.symm.trans (Pd tk (by omega) k (fun k h1 h2=>by omega))
   subst this
   rfl
  ·have k:vN (c+1)∈tk:=of_decide_eq_true k
   have hlt:c+1<N:=by
    rcases Nat.lt_or_ge (c+1) N with h|h
    ·exact h
    ·have:=Qm tk c
     have:N=c+1:=by omega
     exact absurd k (by rw[<- this,<- hn];exact H6 tk c)
   exact ih (c+1) (by omega) (Pd tk hlt (by rw[<- hn];exact H6 tk c) fun q h1 h2=>Nu tk _ c q (by omega) (by rw[<- hn]at h2;exact h2))
theorem c0d: ∀ args os,XA args os=true->Zd Ca os.length (Yc os.length KX fun r=>r=V3 args os) KU [] (XQ c7h args os):=by
 intro args os hp
 unfold XA at hp
 split at hp
 ·rename_i c p
  simp only[Bool.and_eq_true,decide_eq_true_eq]at hp
  obtain⟨h1,h2,h3,h4⟩:=hp
  obtain⟨tk,rfl⟩:=RU h1
  rw[Enc.dec_enc]at h3 h4
  obtain⟨n,rfl⟩ : ∃ n:Nat,c=n:=⟨c.toNat,by omega⟩
  have hb:=Qm tk n
  have e:V3 [.ptr 0 0,.ptr 1 0] [.box [.pv (.int .i64 (n:Int))],.box [.pv (enc tk)]]=(.pv (enc (vN (Z4 tk n))),[.box [.pv (.int .i64 ((Z4 tk n:Nat):Int))],.box [.pv (enc tk)]],[]):=by
   simp only[V3,Enc.dec_enc,Int.toNat_natCast]
  rw[e]
  exact d2c tk n (b3u tk h3 (Z4 tk n) (by omega) (Z4 tk n - n) n (by omega) rfl)
 ·cases hp
def Z7(m:List (Str×Str)):List (PV×PV):=m.map fun q=>(enc q.1,enc q.2)
end Go.Pl
namespace Go.Pl
open Go.RowKit
open Enc (enc dec is)
open EncL (encL decL isL)
set_option maxRecDepth 100000
def WI:IC:=(WN [ZB 3 (.box 10 (.t 0)) 0,ZB 6 (.alloc (.agg [(.int .i64 0),(.int .i64 0),(.str []),(.int .i64 0),(.str []),(.sl 0 true []),(.sl 0 true []),(.sl 0 true []),(.sl 0 true []),(.sl 0 true [])])) 1] (.seq (WN [ZB 12 (Wj 1) 0,ZB 13 (.faddr 2 (.t 3)) 0,ZB 14 (.load false [.str] (.t 13)) 0,ZB 15 (.lookup true .str (.str []) true (.t 12) (.t 14)) 0,ZB 11 (Wj 15) 0,ZB 16 (.extract (.t 11) 0) 0,ZB 17 (.extract (.t 11) 1) 0,ZB 7 (Wj 16) 0,ZB 8 (Wj 17) 0] (WN [ZB 18 (Wj 8) 0,ZB 19 (Wj 18) 0,p'' 20 (.faddr 0 (.t 3)) 0 19,p'' 21 (Dz [(.int .i64)] (.t 20)) 0 19,p'' 22 (Hl .eql (.t 21) (U3 1)) 0 19,ZB 23 (.pick (.t 19) (.t 22) (.c (.bool false))) 0] (.cond (.t 23) (.reg [ZB 24 (Wj 7) 0,ZB 25 (.faddr 2 (.t 3)) 0,CL (.store 1 (.t 25) (.t 24)) 0] none) .skip))) (WN [ZB 26 (Wj 1) 0,ZB 9 (Wj 26) 0] (.seq (WN [ZB 27 (.faddr 0 (.t 3)) 0,ZB 28 (Dz [(.int .i64)] (.t 27)) 0,ZB 29 (Hl .eql (.t 28) (U3 5)) 0,ZB 30 (Wj 29) 0,p'' 31 (.faddr 9 (.t 3)) 0 30,p'' 32 (Dz [(.sl 10)] (.t 31)) 0 30,p'' 33 (.len 1 (.t 32)) 0 30,p'' 34 (Hl .eql (.t 33) (U3 2)) 0 30,ZB 35 (.pick (.t 30) (.t 34) (.c (.bool false))) 0] (.cond (.t 35) (WN [ZB 36 (Wj 1) 0,ZB 37 (c'' 92 [(.t 36)]) 0,ZB 9 (Wj 37) 2] (.seq (.reg [ZB 38 (Wj 9) 0,ZB 39 (.faddr 2 (.t 3)) 0,ZB 40 (.load false [.str] (.t 39)) 0,ZB 41 (Wj 2) 0,ZB 42 (.call (.t 41) []) 0,CL (.mapupd true (.t 38) (.t 40) (.t 42)) 2] (some [[],[],[1],[],[3],[0,2,4,1,3]])) (.reg [ZB 43 (Wj 9) 0,ZB 44 (.faddr 2 (.t 3)) 0,ZB 45 (.load false [.str] (.t 44)) 0,ZB 46 (.lookup true .str (.str []) false (.t 43) (.t 45)) 0,ZB 47 (.faddr 2 (.t 3)) 0,CL (.store 1 (.t 47) (.t 46)) 0] none))) .skip)) (.ext 0 [3,48,49,51,50,52,53,10,54,55,56,59,60,61,62,1,2,63,64,65,57,58,67,66,68,71,72,73,74,9,75,76,77,69,70,79,78,80,6,81])))))
noncomputable def Qb:Zz:=YG [(67,.own XA V3),(92,.own Vd VT)]
theorem c9s{G:Zm->Prop}(RR:Nat->St->Prop)(n:Nd)(v5 v6 v7 v8:Value)(p:Option Addr)(k b:Nat)(m:List (Str×Str))(c:Int)(tk:List Str)(h:(Vq (enc (Nd.name n)) (Z7 m)&&Sh.fit Sh.str (YC (enc (Nd.name n)) (PV.str []) (Z7 m)))=true∧(if (VR (enc (Nd.name n)) (Z7 m))=true then if (Nd.kind n==1)=true then if (Nd.kind n==5)=true then if ((↑k:Int)==2)=true then(XA [(.ptr 0 0),(.ptr 1 0)] [(.box [(.pv (.int .i64 c))]),(.box [(.pv (.sl 1 false (List.map enc tk)))])])=true∧((V5 (Sh.co Sh.str (YC (enc (Nd.name n)) (PV.str []) (Z7 m))) (enc (vN (Z4 (dec (enc tk)) (Int.toNat c)))) (Z7 m))=true∧((Vq (Sh.co Sh.str (YC (enc (Nd.name n)) (PV.str []) (Z7 m))) (XZ (Sh.co Sh.str (YC (enc (Nd.name n)) (PV.str []) (Z7 m))) (enc (vN (Z4 (dec (enc tk)) (Int.toNat c)))) (Z7 m))&&Sh.fit Sh.str (YC (Sh.co Sh.str (YC (enc (Nd.name n)) (PV.str []) (Z7 m))) (PV.str []) (XZ (Sh.co Sh.str (YC (enc (Nd.name n)) (PV.str []) (Z7 m))) (enc (vN (Z4 (dec (enc tk)) (Int.toNat c)))) (Z7 m))))=true∧((Wz RR) 0 ⟨ZI 82 0 [(1,(.map 0)),(2,(.fn 67 [] [(.ptr 1 0),(.ptr 2 0)])),(3,(.ptr 3 0)),(6,(.ptr 4 0)),(9,(.map 5)),(10,.undef),(48,.undef),(49,.undef),(50,.undef),(51,.undef),(52,.undef),(53,.undef),(54,.undef),(55,.undef),(56,.undef),(57,.undef),(58,.undef),(59,.undef),(60,.undef),(61,.undef),(62,.undef),(63,.undef),(64,.undef),(65,.undef),(66,.undef),(67,.undef),(68,.undef),(69,.undef),(70,.undef),(71,.undef),(72,.undef),(73,.undef),(74,.undef),(75,.undef),(76,.undef),(77,.undef),(78,.undef),(79,.undef),(80,.undef),(81,.undef)],[(.obj (.map (Z7 m))),(.obj (.box [(.pv (.int .i64 (↑(Z4 (dec (enc tk)) (Int.toNat c)):Int)))])),(.obj (.box [(.pv (.sl 1 false (List.map enc tk)))])),(.obj (.box [(.pv (.int .i64 (Nd.kind n))),(.pv (.int .i64 (Nd.line n))),(.pv (.str (PV.asStr (YC (Sh.co Sh.str (YC (enc (Nd.name n)) (PV.str []) (Z7 m))) (PV.str []) (XZ (Sh.co Sh.str (YC (enc (Nd.name n)) (PV.str []) (Z7 m))) (enc (vN (Z4 (dec (enc tk)) (Int.toNat c)))) (Z7 m)))))),(.pv (.int .i64 (Nd.num n))),(.pv (.str (Str.s (Nd.elem n)))),(.pv (.raw v5)),(.pv (.raw v6)),(.pv (.raw v7)),(.pv (.raw v8)),(.pv (.raw (Value.slice p k b)))])),(.obj (.box [(.pv (.int .i64 0)),(.pv (.int .i64 0)),(.pv (.str [])),(.pv (.int .i64 0)),(.pv (.str [])),(.pv (.sl 0 true [])),(.pv (.sl 0 true [])),(.pv (.sl 0 true [])),(.pv (.sl 0 true [])),(.pv (.sl 0 true []))])),(.obj (.map (XZ (Sh.co Sh.str (YC (enc (Nd.name n)) (PV.str []) (Z7 m))) (enc (vN (Z4 (dec (enc tk)) (Int.toNat c)))) (Z7 m))))]⟩ (fun x S'=>Qo Qb (Wz RR) 3 (fun st=>G st.heap) WI 0 x S'))))else((Wz RR) 0 ⟨ZI 82 0 [(1,(.map 0)),(2,(.fn 67 [] [(.ptr 1 0),(.ptr 2 0)])),(3,(.ptr 3 0)),(6,(.ptr 4 0)),(9,(.map 0)),(10,.undef),(48,.undef),(49,.undef),(50,.undef),(51,.undef),(52,.undef),(53,.undef),(54,.undef),(55,.undef),(56,.undef),(57,.undef),(58,.undef),(59,.undef),(60,.undef),(61,.undef),(62,.undef),(63,.undef),(64,.undef),(65,.undef),(66,.undef),(67,.undef),(68,.undef),(69,.undef),(70,.undef),(71,.undef),(72,.undef),(73,.undef),(74,.undef),(75,.undef),(76,.undef),(77,.undef),(78,.undef),(79,.undef),(80,.undef),(81,.undef)],[(.obj (.map (Z7 m))),(.obj (.box [(.pv (.int .i64 c))])),(.obj (.box [(.pv (.sl 1 false (List.map enc tk)))])),(.obj (.box [(.pv (.int .i64 (Nd.kind n))),(.pv (.int .i64 (Nd.line n))),(.pv (.str (PV.asStr (YC (enc (Nd.name n)) (PV.str []) (Z7 m))))),(.pv (.int .i64 (Nd.num n))),(.pv (.str (Str.s (Nd.elem n)))),(.pv (.raw v5)),(.pv (.raw v6)),(.pv (.raw v7)),(.pv (.raw v8)),(.pv (.raw (Value.slice p k b)))])),(.obj (.box [(.pv (.int .i64 0)),(.pv (.int .i64 0)),(.pv (.str [])),(.pv (.int .i64 0)),(.pv (.str [])),(.pv (.sl 0 true [])),(.pv (.sl 0 true [])),(.pv (.sl 0 true [])),(.pv (.sl 0 true [])),(.pv (.sl 0 true []))]))]⟩ (fun x S'=>Qo Qb (Wz RR) 3 (fun st=>G st.heap) WI 0 x S'))else((Wz RR) 0 ⟨ZI 82 0 [(1,(.map 0)),(2,(.fn 67 [] [(.ptr 1 0),(.ptr 2 0)])),(3,(.ptr 3 0)),(6,(.ptr 4 0)),(9,(.map 0)),(10,.undef),(48,.undef),(49,.undef),(50,.undef),(51,.undef),(52,.undef),(53,.undef),(54,.undef),(55,.undef),(56,.undef),(57,.undef),(58,.undef),(59,.undef),(60,.undef),(61,.undef),(62,.undef),(63,.undef),(64,.undef),(65,.undef),(66,.undef),(67,.undef),(68,.undef),(69,.undef),(70,.undef),(71,.undef),(72,.undef),(73,.undef),(74,.undef),(75,.undef),(76,.undef),(77,.undef),(78,.undef),(79,.undef),(80,.undef),(81,.undef)],[(.obj (.map (Z7 m))),(.obj (.box [(.pv (.int .i64 c))])),(.obj (.box [(.pv (.sl 1 false (List.map enc tk)))])),(.obj (.box [(.pv (.int .i64 (Nd.kind n))),(.pv (.int .i64 (Nd.line n))),(.pv (.str (PV.asStr (YC (enc (Nd.name n)) (PV.str []) (Z7 m))))),(.pv (.int .i64 (Nd.num n))),(.pv (.str (Str.s (Nd.elem n)))),(.pv (.raw v5)),(.pv (.raw v6)),(.pv (.raw v7)),(.pv (.raw v8)),(.pv (.raw (Value.slice p k b)))])),(.obj (.box [(.pv (.int .i64 0)),(.pv (.int .i64 0)),(.pv (.str [])),(.pv (.int .i64 0)),(.pv (.str [])),(.pv (.sl 0 true [])),(.pv (.sl 0 true [])),(.pv (.sl 0 true [])),(.pv (.sl 0 true [])),(.pv (.sl 0 true []))]))]⟩ (fun x S'=>Qo Qb (Wz RR) 3 (fun st=>G st.heap) WI 0 x S'))else(if (Nd.kind n==5)=true then if ((↑k:Int)==2)=true then(XA [(.ptr 0 0),(.ptr 1 0)] [(.box [(.pv (.int .i64 c))]),(.box [(.pv (.sl 1 false (List.map enc tk)))])])=true∧((V5 (enc (Nd.name n)) (enc (vN (Z4 (dec (enc tk)) (Int.toNat c)))) (Z7 m))=true∧((Vq (enc (Nd.name n)) (XZ (enc (Nd.name n)) (enc (vN (Z4 (dec (enc tk)) (Int.toNat c)))) (Z7 m))&&Sh.fit Sh.str (YC (enc (Nd.name n)) (PV.str []) (XZ (enc (Nd.name n)) (enc (vN (Z4 (dec (enc tk)) (Int.toNat c)))) (Z7 m))))=true∧((Wz RR) 0 ⟨ZI 82 0 [(1,(.map 0)),(2,(.fn 67 [] [(.ptr 1 0),(.ptr 2 0)])),(3,(.ptr 3 0)),(6,(.ptr 4 0)),(9,(.map 5)),(10,.undef),(48,.undef),(49,.undef),(50,.undef),(51,.undef),(52,.undef),(53,.undef),(54,.undef),(55,.undef),(56,.undef),(57,.undef),(58,.undef),(59,.undef),(60,.undef),(61,.undef),(62,.undef),(63,.undef),(64,.undef),(65,.undef),(66,.undef),(67,.undef),(68,.undef),(69,.undef),(70,.undef),(71,.undef),(72,.undef),(73,.undef),(74,.undef),(75,.undef),(76,.undef),(77,.undef),(78,.undef),(79,.undef),(80,.undef),(81,.undef)],[(.obj (.map (Z7 m))),(.obj (.box [(.pv (.int .i64 (↑(Z4 (dec (enc tk)) (Int.toNat c)):Int)))])),(.obj (.box [(.pv (.sl 1 false (List.map enc tk)))])),(.obj (.box [(.pv (.int .i64 (Nd.kind n))),(.pv (.int .i64 (Nd.line n))),(.pv (.str (PV.asStr (YC (enc (Nd.name n)) (PV.str []) (XZ (enc (Nd.name n)) (enc (vN (Z4 (dec (enc tk)) (Int.toNat c)))) (Z7 m)))))),(.pv (.int .i64 (Nd.num n))),(.pv (.str (Str.s (Nd.elem n)))),(.pv (.raw v5)),(.pv (.raw v6)),(.pv (.raw v7)),(.pv (.raw v8)),(.pv (.raw (Value.slice p k b)))])),(.obj (.box [(.pv (.int .i64 0)),(.pv (.int .i64 0)),(.pv (.str [])),(.pv (.int .i64 0)),(.pv (.str [])),(.pv (.sl 0 true [])),(.pv (.sl 0 true [])),(.pv (.sl 0 true [])),(.pv (.sl 0 true [])),(.pv (.sl 0 true []))])),(.obj (.map (XZ (enc (Nd.name n)) (enc (vN (Z4 (dec (enc tk)) (Int.toNat c)))) (Z7 m))))]⟩ (fun x S'=>Qo Qb (Wz RR) 3 (fun st=>G st.heap) WI 0 x S'))))else((Wz RR) 0 ⟨ZI 82 0 [(1,(.map 0)),(2,(.fn 67 [] [(.ptr 1 0),(.ptr 2 0)])),(3,(.ptr 3 0)),(6,(.ptr 4 0)),(9,(.map 0)),(10,.undef),(48,.undef),(49,.undef),(50,.undef),(51,.undef),(52,.undef),(53,.undef),(54,.undef),(55,.undef),(56,.undef),(57,.undef),(58,.undef),(59,.undef),(60,.undef),(61,.undef),(62,.undef),(63,.undef),(64,.undef),(65,.undef),(66,.undef),(67,.undef),(68,.undef),(69,.undef),(70,.undef),(71,.undef),(72,.undef),(73,.undef),(74,.undef),(75,.undef),(76,.undef),(77,.undef),(78,.undef),(79,.undef),(80,.undef),(81,.undef)],[(.obj (.map (Z7 m))),(.obj (.box [(.pv (.int .i64 c))])),(.obj (.box [(.pv (.sl 1 false (List.map enc tk)))])),(.obj (.box [(.pv (.int .i64 (Nd.kind n))),(.pv (.int .i64 (Nd.line n))),(.pv (.str (Str.s (Nd.name n)))),(.pv (.int .i64 (Nd.num n))),(.pv (.str (Str.s (Nd.elem n)))),(.pv (.raw v5)),(.pv (.raw v6)),(.pv (.raw v7)),(.pv (.raw v8)),(.pv (.raw (Value.slice p k b)))])),(.obj (.box [(.pv (.int .i64 0)),(.pv (.int .i64 0)),(.pv (.str [])),(.pv (.int .i64 0)),(.pv (.str [])),(.pv (.sl 0 true [])),(.pv (.sl 0 true [])),(.pv (.sl 0 true [])),(.pv (.sl 0 true [])),(.pv (.sl 0 true []))]))]⟩ (fun x S'=>Qo Qb (Wz RR) 3 (fun st=>G st.heap) WI 0 x S'))else((Wz RR) 0 ⟨ZI 82 0 [(1,(.map 0)),(2,(.fn 67 [] [(.ptr 1 0),(.ptr 2 0)])),(3,(.ptr 3 0)),(6,(.ptr 4 0)),(9,(.map 0)),(10,.undef),(48,.undef),(49,.undef),(50,.undef),(51,.undef),(52,.undef),(53,.undef),(54,.undef),(55,.undef),(56,.undef),(57,.undef),(58,.undef),(59,.undef),(60,.undef),(61,.undef),(62,.undef),(63,.undef),(64,.undef),(65,.undef),(66,.undef),(67,.undef),(68,.undef),(69,.undef),(70,.undef),(71,.undef),(72,.undef),(73,.undef),(74,.undef),(75,.undef),(76,.undef),(77,.undef),(78,.undef),(79,.undef),(80,.undef),(81,.undef)],[(.obj (.map (Z7 m))),(.obj (.box [(.pv (.int .i64 c))])),(.obj (.box [(.pv (.sl 1 false (List.map enc tk)))])),(.obj (.box [(.pv (.int .i64 (Nd.kind n))),(.pv (.int .i64 (Nd.line n))),(.pv (.str (Str.s (Nd.name n)))),(.pv (.int .i64 (Nd.num n))),(.pv (.str (Str.s (Nd.elem n)))),(.pv (.raw v5)),(.pv (.raw v6)),(.pv (.raw v7)),(.pv (.raw v8)),(.pv (.raw (Value.slice p k b)))])),(.obj (.box [(.pv (.int .i64 0)),(.pv (.int .i64 0)),(.pv (.str [])),(.pv (.int .i64 0)),(.pv (.str [])),(.pv (.sl 0 true [])),(.pv (.sl 0 true [])),(.pv (.sl 0 true [])),(.pv (.sl 0 true [])),(.pv (.sl 0 true []))]))]⟩ (fun x S'=>Qo Qb (Wz RR) 3 (fun st=>G st.heap) WI 0 x S')))else(if (Nd.kind n==5)=true then if ((↑k:Int)==2)=true then(XA [(.ptr 0 0),(.ptr 1 0)] [(.box [(.pv (.int .i64 c))]),(.box [(.pv (.sl 1 false (List.map enc tk)))])])=true∧((V5 (enc (Nd.name n)) (enc (vN (Z4 (dec (enc tk)) (Int.toNat c)))) (Z7 m))=true∧((Vq (enc (Nd.name n)) (XZ (enc (Nd.name n)) (enc (vN (Z4 (dec (enc tk)) (Int.toNat c)))) (Z7 m))&&Sh.fit Sh.str (YC (enc (Nd.name n)) (PV.str []) (XZ (enc (Nd.name n)) (enc (vN (Z4 (dec (enc tk)) (Int.toNat c)))) (Z7 m))))=true∧((Wz RR) 0 ⟨ZI 82 0 [(1,(.map 0)),(2,(.fn 67 [] [(.ptr 1 0),(.ptr 2 0)])),(3,(.ptr 3 0)),(6,(.ptr 4 0)),(9,(.map 5)),(10,.undef),(48,.undef),(49,.undef),(50,.undef),(51,.undef),(52,.undef),(53,.undef),(54,.undef),(55,.undef),(56,.undef),(57,.undef),(58,.undef),(59,.undef),(60,.undef),(61,.undef),(62,.undef),(63,.undef),(64,.undef),(65,.undef),(66,.undef),(67,.undef),(68,.undef),(69,.undef),(70,.undef),(71,.undef),(72,.undef),(73,.undef),(74,.undef),(75,.undef),(76,.undef),(77,.undef),(78,.undef),(79,.undef),(80,.undef),(81,.undef)],[(.obj (.map (Z7 m))),(.obj (.box [(.pv (.int .i64 (↑(Z4 (dec (enc tk)) (Int.toNat c)):Int)))])),(.obj (.box [(.pv (.sl 1 false (List.map enc tk)))])),(.obj (.box [(.pv (.int .i64 (Nd.kind n))),(.pv (.int .i64 (Nd.line n))),(.pv (.str (PV.asStr (YC (enc (Nd.name n)) (PV.str []) (XZ (enc (Nd.name n)) (enc (vN (Z4 (dec (enc tk)) (Int.toNat c)))) (Z7 m)))))),(.pv (.int .i64 (Nd.num n))),(.pv (.str (Str.s (Nd.elem n)))),(.pv (.raw v5)),(.pv (.raw v6)),(.pv (.raw v7)),(.pv (.raw v8)),(.pv (.raw (Value.slice p k b)))])),(.obj (.box [(.pv (.int .i64 0)),(.pv (.int .i64 0)),(.pv (.str [])),(.pv (.int .i64 0)),(.pv (.str [])),(.pv (.sl 0 true [])),(.pv (.sl 0 true [])),(.pv (.sl 0 true [])),(.pv (.sl 0 true [])),(.pv (.sl 0 true []))])),(.obj (.map (XZ (enc (Nd.name n)) (enc (vN (Z4 (dec (enc tk)) (Int.toNat c)))) (Z7 m))))]⟩ (fun x S'=>Qo Qb (Wz RR) 3 (fun st=>G st.heap) WI 0 x S'))))else((Wz RR) 0 ⟨ZI 82 0 [(1,(.map 0)),(2,(.fn 67 [] [(.ptr 1 0),(.ptr 2 0)])),(3,(.ptr 3 0)),(6,(.ptr 4 0)),(9,(.map 0)),(10,.undef),(48,.undef),(49,.undef),(50,.undef),(51,.undef),(52,.undef),(53,.undef),(54,.undef),(55,.undef),(56,.undef),(57,.undef),(58,.undef),(59,.undef),(60,.undef),(61,.undef),(62,.undef),(63,.undef),(64,.undef),(65,.undef),(66,.undef),(67,.undef),(68,.undef),(69,.undef),(70,.undef),(71,.undef),(72,.undef),(73,.undef),(74,.undef),(75,.undef),(76,.undef),(77,.undef),(78,.undef),(79,.undef),(80,.undef),(81,.undef)],[(.obj (.map (Z7 m))),(.obj (.box [(.pv (.int .i64 c))])),(.obj (.box [(.pv (.sl 1 false (List.map enc tk)))])),(.obj (.box [(.pv (.int .i64 (Nd.kind n))),(.pv (.int .i64 (Nd.line n))),(.pv (.str (Str.s (Nd.name n)))),(.pv (.int .i64 (Nd.num n))),(.pv (.str (Str.s (Nd.elem n)))),(.pv (.raw v5)),(.pv (.raw v6)),(.pv (.raw v7)),(.pv (.raw v8)),(.pv (.raw (Value.slice p k b)))])),(.obj (.box [(.pv (.int .i64 0)),(.pv (.int .i64 0)),(.pv (.str [])),(.pv (.int .i64 0)),(.pv (.str [])),(.pv (.sl 0 true [])),(.pv (.sl 0 true [])),(.pv (.sl 0 true [])),(.pv (.sl 0 true [])),(.pv (.sl 0 true []))]))]⟩ (fun x S'=>Qo Qb (Wz RR) 3 (fun st=>G st.heap) WI 0 x S'))else((Wz RR) 0 ⟨ZI 82 0 [(1,(.map 0)),(2,(.fn 67 [] [(.ptr 1 0),(.ptr 2 0)])),(3,(.ptr 3 0)),(6,(.ptr 4 0)),(9,(.map 0)),(10,.undef),(48,.undef),(49,.undef),(50,.undef),(51,.undef),(52,.undef),(53,.undef),(54,.undef),(55,.undef),(56,.undef),(57,.undef),(58,.undef),(59,.undef),(60,.undef),(61,.undef),(62,.undef),(63,.undef),(64,.undef),(65,.undef),(66,.undef),(67,.undef),(68,.undef),(69,.undef),(70,.undef),(71,.undef),(72,.undef),(73,.undef),(74,.undef),(75,.undef),(76,.undef),(77,.undef),(78,.undef),(79,.undef),(80,.undef),(81,.undef)],[(.obj (.map (Z7 m))),(.obj (.box [(.pv (.int .i64 c))])),(.obj (.box [(.pv (.sl 1 false (List.map enc tk)))])),(.obj (.box [(.pv (.int .i64 (Nd.kind n))),(.pv (.int .i64 (Nd.line n))),(.pv (.str (Str.s (Nd.name n)))),(.pv (.int .i64 (Nd.num n))),(.pv (.str (Str.s (Nd.elem n)))),(.pv (.raw v5)),(.pv (.raw v6)),(.pv (.raw v7)),(.pv (.raw v8)),(.pv (.raw (Value.slice p k b)))])),(.obj (.box [(.pv (.int .i64 0)),(.pv (.int .i64 0)),(.pv (.str [])),(.pv (.int .i64 0)),(.pv (.str [])),(.pv (.sl 0 true [])),(.pv (.sl 0 true [])),(.pv (.sl 0 true [])),(.pv (.sl 0 true [])),(.pv (.sl 0 true []))]))]⟩ (fun x S'=>Qo Qb (Wz RR) 3 (fun st=>G st.heap) WI 0 x S'))))):Zw Qb (Wz RR) 3 (fun st=>G st.heap) (.inl WI) [] (XQ 82 [.pv (.agg [enc n.kind,enc n.line,enc n.name,enc n.num,enc n.elem,.raw v5,.raw v6,.raw v7,.raw v8,.raw (.slice p k b)]),.map 0,.fn 67 [] [.ptr 1 0,.ptr 2 0]] [.map (Z7 m),.box [.pv (.int .i64 c)],.box [.pv (enc tk)]]):=Zw.mh (dm [] 106 0x22222003113132008422222012422222022222003113132008422222012420222220031131320084222220124201d42222042431) h
end Go.Pl
namespace Go.Pl
open Go.RowKit
open Enc (enc dec is)
open EncL (encL decL isL)
def Xb(m:List (Str×Str))(s:Str):Option Str:=(m.find? fun q=>q.1==s).map (·.2)
theorem XG(k v s:Str)(m:List (Str×Str)):Xb ((k,v)::m) s=if k=s then some v else Xb m s:=by
 unfold Xb
 rw[List.find?_cons]
 by_cases h:k=s
 ·simp[h]
 ·have e:(k==s)=false:=beq_eq_false_iff_ne.2 h
  simp only[e,if_neg h]
theorem NJ(σ:List (Str×Str))(s:Str):FM σ s=(Xb σ s).getD s:=by
 unfold FM Xb
 cases σ.find? fun p=>p.1==s <;> rfl
theorem Ha(m:List (Str×Str))(s:Str):J8 (enc s) (Z7 m)=some ((Xb m s).map enc):=by
 induction m with
 | nil=>rfl
 | cons q m ih=>
  obtain⟨k,v⟩:=q
  rw[XG]
  show(match Qr (enc s) (enc k)with|some true=>some (some (enc v))|some false=>J8 (enc s) (Z7 m)|none=>none)=_
  have e:Qr (enc s:PV) (enc k)=some (s.s==k.s):=rfl
  rw[e]
  by_cases h:k=s
  ·subst h;simp
  ·have:(s.s==k.s)=false:=by
    rw[beq_eq_false_iff_ne]
    intro e;apply h;cases k;cases s;simp at e;rw[e]
   rw[this,if_neg h]
   exact ih
theorem QB(m:List (Str×Str))(s:Str):Vq (enc s) (Z7 m)=true:=by unfold Vq;rw[Ha];rfl
theorem Te(m:List (Str×Str))(s:Str):VR (enc s) (Z7 m)=(Xb m s).isSome:=by unfold VR;rw[Ha];cases Xb m s <;> rfl
theorem UH(m:List (Str×Str))(s:Str):YC (enc s) (PV.str []) (Z7 m)=enc ((Xb m s).getD ⟨[]⟩):=by unfold YC;rw[Ha];cases Xb m s <;> rfl
def Bc(k v:Str):List (Str×Str)->List (Str×Str)
 | []=>[(k,v)]
 | (a,u)::r=>if k=a then(k,v)::r else(a,u)::Bc k v r
theorem MN(k v:Str)(m:List (Str×Str)):upd (enc k) (enc v) (Z7 m)=some (Z7 (Bc k v m)):=by
 induction m with
 | nil=>rfl
 | cons q m ih=>
  obtain⟨a,u⟩:=q
  show(match Qr (enc k) (enc a)with|some true=>some ((enc k,enc v)::Z7 m)|some false=>(upd (enc k) (enc v) (Z7 m)).map ((enc a,enc u):: ·)|none=>none)=_
  have e:Qr (enc k:PV) (enc a)=some (k.s==a.s):=rfl
  rw[e,Bc]
  by_cases h:k=a
  ·subst h;simp[Z7]
  ·have:(k.s==a.s)=false:=by
    rw[beq_eq_false_iff_ne]
    intro e;apply h;cases k;cases a;simp at e;rw[e]
   rw[this,if_neg h,ih]
   rfl
theorem Bn(k v:Str)(m:List (Str×Str)):V5 (enc k) (enc v) (Z7 m)=true:=by unfold V5;rw[MN];rfl
theorem Sc(k v:Str)(m:List (Str×Str)):XZ (enc k) (enc v) (Z7 m)=Z7 (Bc k v m):=by unfold XZ;rw[MN];rfl
theorem Ht(k v s:Str)(m:List (Str×Str)):Xb (Bc k v m) s=if k=s then some v else Xb m s:=by
 induction m with
 | nil=>rw[Bc,XG]
 | cons q m ih=>
  obtain⟨a,u⟩:=q
  rw[Bc]
  by_cases h:k=a
  ·subst h
   rw[if_pos rfl,XG,XG]
   split <;> rfl
  ·rw[if_neg h,XG,XG,ih]
   by_cases h1:a=s
   ·subst h1;rw[if_pos rfl,if_pos rfl,if_neg h]
   ·rw[if_neg h1,if_neg h1]
def Ke(m σ:List (Str×Str)):Prop:= ∀ s,Xb m s=Xb σ s
theorem Ke.upd{m σ:List (Str×Str)}(h:Ke m σ)(k v:Str):Ke (Bc k v m) ((k,v)::σ):=fun s=>by rw[Ht,XG,h]
def c2f(inner:Nat):List (Nat×AV):=[(1,.map 0),(2,.fn 67 [] [.ptr 1 0,.ptr 2 0]),(3,.ptr 3 0),(6,.ptr 4 0),(9,.map inner),(10,.undef),(48,.undef),(49,.undef),(50,.undef),(51,.undef),(52,.undef),(53,.undef),(54,.undef),(55,.undef),(56,.undef),(57,.undef),(58,.undef),(59,.undef),(60,.undef),(61,.undef),(62,.undef),(63,.undef),(64,.undef),(65,.undef),(66,.undef),(67,.undef),(68,.undef),(69,.undef),(70,.undef),(71,.undef),(72,.undef),(73,.undef),(74,.undef),(75,.undef),(76,.undef),(77,.undef),(78,.undef),(79,.undef),(80,.undef),(81,.undef)]
def Gw(n:Nd)(v5 v6 v7 v8 u:Value):List AV:=[.pv (enc n.kind),.pv (enc n.line),.pv (enc n.name),.pv (enc n.num),.pv (enc n.elem),.pv (.raw v5),.pv (.raw v6),.pv (.raw v7),.pv (.raw v8),.pv (.raw u)]
def a6g(n:Nd)(v5 v6 v7 v8 u:Value)(m:List (Str×Str))(tk:List Str)(s:Str)(m':List (Str×Str))(c':Nat)(b:Bool):St:=⟨ZI 82 0 (c2f (if b=true then 5 else 0)),
 [.obj (.map (Z7 m)),.obj (.box [.pv (.int .i64 (c':Int))]),.obj (.box [.pv (enc tk)]),.obj (.box (Gw (reN n s) v5 v6 v7 v8 u)),.obj (.box [.pv (.int .i64 0),.pv (.int .i64 0),.pv (.str []),.pv (.int .i64 0),.pv (.str []),.pv (.sl 0 true []),.pv (.sl 0 true []),.pv (.sl 0 true []),.pv (.sl 0 true []),.pv (.sl 0 true [])])]++(if b=true then [.obj (.map (Z7 m'))]else [])⟩
def urR(n:Nd)(v5 v6 v7 v8 u:Value)(m:List (Str×Str))(tk:List Str)(s:Str)(m':List (Str×Str))(c':Nat)(z:Nat)(S:St):Prop:=z=0∧ ∃ b:Bool,S=a6g n v5 v6 v7 v8 u m tk s m' c' b∧(b=false->m'=m)
def RZ(n:Nd)(k:Nat)(m:List (Str×Str))(tk:List Str)(c:Nat):Str×List (Str×Str)×Nat:=
 if We n k then(vN (Z4 tk c),Bc n.name (vN (Z4 tk c)) m,Z4 tk c)
 else((if n.kind=1 then(Xb m n.name).getD n.name else n.name),m,c)
theorem b8q{RR:Nat->St->Prop}(n:Nd)(v5 v6 v7 v8:Value)(p:Option Addr)(k b:Nat)(m:List (Str×Str))(c:Nat)(tk:List Str)(ht:tk.length<=1048576)(hc:c+tk.length<=4611686018427387904)
  (hR : ∀ S,urR n v5 v6 v7 v8 (.slice p k b) m tk (RZ n k m tk c).1 (RZ n k m tk c).2.1 (RZ n k m tk c).2.2 0 S->RR 0 S) :
  Zw Qb (Wz RR) 3 (fun _=>False) (.inl WI) [] (XQ 82 [.pv (.agg [enc n.kind,enc n.line,enc n.name,enc n.num,enc n.elem,.raw v5,.raw v6,.raw v7,.raw v8,.raw (.slice p k b)]),.map 0,.fn 67 [] [.ptr 1 0,.ptr 2 0]] [.map (Z7 m),.box [.pv (.int .i64 (c:Int))],.box [.pv (enc tk)]]):=by
 have hpre:XA [(.ptr 0 0),(.ptr 1 0)] [(.box [(.pv (.int .i64 (c:Int)))]),(.box [(.pv (enc tk))])]=true:=by
  simp only[XA,VQ,Enc.dec_enc,Bool.true_and,Bool.and_eq_true,decide_eq_true_eq]
  omega
 have hfit : ∀ s:Str,Sh.fit Sh.str (enc s:PV)=true:=fun s=>rfl
 refine c9s (G:=fun _=>False) RR n v5 v6 v7 v8 p k b m c tk ⟨by rw[QB,UH];rfl,?_⟩
 rw[Te,UH]
 have hlet:n.kind=5->(k:Int)=2->RZ n k m tk c=(vN (Z4 tk c),Bc n.name (vN (Z4 tk c)) m,Z4 tk c):=fun h1 h2=>by
  have:k=2:=by omega
  unfold RZ We
  rw[if_pos (by simp[h1,this])]
 have hno : ¬ (n.kind=5∧(k:Int)=2)->RZ n k m tk c=((if n.kind=1 then(Xb m n.name).getD n.name else n.name),m,c):=fun h=>by
  unfold RZ We
  rw[if_neg (by simp;intro h1 h2;exact h ⟨h1,by omega⟩)]
 have A:n.kind=5->(k:Int)=2->RR 0 (a6g n v5 v6 v7 v8 (.slice p k b) m tk (vN (Z4 tk c)) (Bc n.name (vN (Z4 tk c)) m) (Z4 tk c) true):=fun h1 h2=>hR _ (by rw[hlet h1 h2];exact⟨rfl,true,rfl,fun h=>absurd h (by decide)⟩)
 have C : ¬ (n.kind=5∧(k:Int)=2)-> ¬ (n.kind=1∧(Xb m n.name).isSome=true)->RR 0 (a6g n v5 v6 v7 v8 (.slice p k b) m tk n.name m c false):=fun h1 h2=>hR _ (by
  rw[hno h1]
  have:(if n.kind=1 then(Xb m n.name).getD n.name else n.name)=n.name:=by
   split
   ·rename_i h;cases hq:Xb m n.name with
    | none=>rfl
    | some v=>exact absurd ⟨h,by rw[hq];rfl⟩ h2
   ·rfl
  rw[this]
  exact⟨rfl,false,rfl,fun _=>rfl⟩)
 refine Vf (fun hh=>VK (fun k1=>VK (fun k5=>absurd (k1.symm.trans k5) (by decide)) fun k5=> ?_) fun k1=> ?_) fun hh=> ?_
 ·refine hR (a6g n v5 v6 v7 v8 (.slice p k b) m tk ((Xb m n.name).getD ⟨[]⟩) m c false) ?_
  rw[hno (fun h=>k5 h.1),if_pos k1]
  refine⟨rfl,false,?_,fun _=>rfl⟩
  cases hq:Xb m n.name with
  | none=>rw[hq]at hh;cases hh
  | some v=>rfl
 ·have h : ¬ (n.kind=1∧(Xb m n.name).isSome=true):=fun h=>k1 h.1
  exact VK (fun k5=>VK (fun k2=>⟨hpre,by
  rw[Enc.dec_enc,Int.toNat_natCast]
  refine⟨Bn _ _ _,?_⟩
  rw[Sc,QB,UH,Ht,if_pos rfl]
  exact⟨rfl,A k5 k2⟩⟩) fun k2=>C (fun h=>k2 h.2) h) fun k5=>C (fun h=>k5 h.1) h
 ·have h : ¬ (n.kind=1∧(Xb m n.name).isSome=true):=fun h=>by rw[hh]at h;exact absurd h.2 (by decide)
  exact VK (fun k5=>VK (fun k2=>⟨hpre,by
  rw[Enc.dec_enc,Int.toNat_natCast]
  refine⟨Bn _ _ _,?_⟩
  rw[Sc,QB,UH,Ht,if_pos rfl]
  exact⟨rfl,A k5 k2⟩⟩) fun k2=>C (fun h=>k2 h.2) h) fun k5=>C (fun h=>k5 h.1) h
end Go.Pl
namespace Go.Pl
open Go.RowKit
open Enc (enc dec is)
open EncL (encL decL isL)
def urT(n:Nd)(k:Nat)(σ:List (Str×Str))(tk:List Str)(c:Nat):List (Str×Str):=if We n k then(n.name,vN (Z4 tk c))::σ else σ
theorem b4f{n:Nd}{k:Nat}{m σ:List (Str×Str)}{tk:List Str}{c:Nat}(h:Ke m σ):Ke (RZ n k m tk c).2.1 (urT n k σ tk c):=by
 unfold RZ urT
 split
 ·exact h.upd _ _
 ·exact h
theorem a5b(n:Nd):reN n n.name=n:=by cases n;rfl
theorem a0h{n:Nd}{ks:List Tm}{m σ:List (Str×Str)}{tk:List Str}{c:Nat}(h:Ke m σ):
  UG tk σ c (.mk n ks)=(.mk (reN n (RZ n ks.length m tk c).1) (Xt tk σ (urT n ks.length σ tk c) 0 (RZ n ks.length m tk c).2.2 ks).1,(Xt tk σ (urT n ks.length σ tk c) 0 (RZ n ks.length m tk c).2.2 ks).2):=by
 rw[UG]
 unfold RZ urT
 split
 ·rfl
 ·simp only[h n.name,<- NJ]
  split
  ·rfl
  ·rw[a5b]
theorem b3j{n:Nd}{k:Nat}{m:List (Str×Str)}{tk:List Str}{c:Nat}:(RZ n k m tk c).2.2<=c+(tk.length+1):=by
 unfold RZ
 split
 ·have:=(Qm tk c).2;show Z4 tk c<=_;omega
 ·show c<=_;omega
mutual
theorem b0z(tk:List Str): ∀ (σ:List (Str×Str)) (c:Nat) (t:Tm),(UG tk σ c t).2<=c+Zr t*(tk.length+1)
 | σ,c,.mk n ks=>by
  rw[a0h (m:=σ) (fun _=>rfl),Zr,Nat.add_mul,Nat.one_mul]
  have h1:=a0r tk σ (urT n ks.length σ tk c) 0 (RZ n ks.length σ tk c).2.2 ks
  have h2:= @b3j n ks.length σ tk c
  simp only
  omega
theorem a0r(tk:List Str): ∀ (σ τ:List (Str×Str)) (i c:Nat) (ks:List Tm),(Xt tk σ τ i c ks).2<=c+Zk ks*(tk.length+1)
 | σ,τ,i,c,[]=>by rw[Xt];simp
 | σ,τ,i,c,k::ks=>by
  rw[Xt,Zk,Nat.add_mul]
  have h1:=b0z tk (if i=0 then σ else τ) c k
  have h2:=a0r tk σ τ (i+1) (UG tk (if i=0 then σ else τ) c k).2 ks
  simp only
  omega
end
def agS(y0:Tm):PV:=PV.agg [Sh.co (Sh.int .i64) (List.getD (PV.cells (enc y0)) 0 default),Sh.co (Sh.int .i64) (List.getD (PV.cells (enc y0)) (0+1) default),Sh.co Sh.str (List.getD (PV.cells (enc y0)) (0+1+1) default),Sh.co (Sh.int .i64) (List.getD (PV.cells (enc y0)) (0+1+1+1) default),Sh.co Sh.str (List.getD (PV.cells (enc y0)) (0+1+1+1+1) default),Sh.co (Sh.sl 1) (List.getD (PV.cells (enc y0)) (0+1+1+1+1+1) default),Sh.co (Sh.sl 1) (List.getD (PV.cells (enc y0)) (0+1+1+1+1+1+1) default),Sh.co (Sh.sl 2) (List.getD (PV.cells (enc y0)) (0+1+1+1+1+1+1+1) default),Sh.co (Sh.sl 1) (List.getD (PV.cells (enc y0)) (0+1+1+1+1+1+1+1+1) default),Sh.co (Sh.sl 10) (List.getD (PV.cells (enc y0)) (0+1+1+1+1+1+1+1+1+1) default)]
theorem b2u(t:Tm):agS t=enc t:=by
 obtain⟨n,ks⟩:=t
 unfold agS
 rw[Zy]
 rfl
def YH(es:List (PV×PV)):List Str:=es.map fun q=>⟨q.1.asStr⟩
theorem VH(l:List Str):YH (Z6 l)=l:=by
 unfold YH Z6
 rw[List.map_map]
 conv=>rhs;rw[<- List.map_id l]
 rfl
end Go.Pl
namespace Go.Pl
open Go.RowKit
open Enc (enc dec is)
open EncL (encL decL isL)
set_option maxRecDepth 100000
noncomputable def X8(N:Nat):List AV->List AObj->Bool
 | [.pv p,.map 0,.map 1],[.map es,.map fs]=>OI Tm p&&(tW (dec p)&&(decide (ZM (dec p:Tm)<N)&&(@decide (es=Z6 (YH es)) (Classical.propDecidable _)&&(@decide (fs=Z6 (YH fs)) (Classical.propDecidable _)&&(decide ((YH es).length+ZM (dec p:Tm)<=1048576)&&decide ((YH fs).length+Zr (dec p:Tm)<=1048576))))))
 | _,_=>false
def Gd:List AV->List AObj->AV×List AObj×List AObj
 | [.pv p,_,_],[.map es,.map fs]=>(.tup [],[.map es,.map (Z6 ((XF (YH es) (dec p)).foldl Y1 (YH fs)))],[])
 | _,_=>(.pv .nilp,[],[])
noncomputable def XB:IC:=Wo Proofs.Tryz.f55
def XJ:List IRes:=[]
abbrev c7a:Nat:=54
noncomputable def VD(N:Nat):Zz:=YG [(76,.own Vd VT),(55,.own (X8 N) Gd)]
theorem d0g{G:AV×List AObj×List AObj->Prop}(N:Nat)(n:Nd)(ks:List Tm)(b g:List Str)(h:if (Nd.kind n==1)=true then(Vq (enc (Nd.name n)) (Z6 b)&&Sh.fit Sh.bool (YC (enc (Nd.name n)) (PV.bool false) (Z6 b)))=true∧(if (!PV.asBool (YC (enc (Nd.name n)) (PV.bool false) (Z6 b)))=true then(V5 (enc (Nd.name n)) (PV.bool true) (Z6 g))=true∧(At (VD N) 2 (Yc 2 XJ G) XB 0 54 [(1,(.map 0)),(2,(.map 1)),(3,(.ptr 2 0)),(23,(.pv (.sl 10 false (List.map enc ks)))),(24,(.pv (.int .i64 (↑(List.length (List.map enc ks)):Int)))),(25,(.pv (.int .i64 0)))] [(.obj (.map (Z6 b))),(.obj (.map (XZ (enc (Nd.name n)) (PV.bool true) (Z6 g)))),(.obj (.box (Yb n ks)))])else(At (VD N) 2 (Yc 2 XJ G) XB 0 54 [(1,(.map 0)),(2,(.map 1)),(3,(.ptr 2 0)),(23,(.pv (.sl 10 false (List.map enc ks)))),(24,(.pv (.int .i64 (↑(List.length (List.map enc ks)):Int)))),(25,(.pv (.int .i64 0)))] [(.obj (.map (Z6 b))),(.obj (.map (Z6 g))),(.obj (.box (Yb n ks)))]))else(At (VD N) 2 (Yc 2 XJ G) XB 0 54 [(1,(.map 0)),(2,(.map 1)),(3,(.ptr 2 0)),(23,(.pv (.sl 10 false (List.map enc ks)))),(24,(.pv (.int .i64 (↑(List.length (List.map enc ks)):Int)))),(25,(.pv (.int .i64 0)))] [(.obj (.map (Z6 b))),(.obj (.map (Z6 g))),(.obj (.box (Yb n ks)))])):Zd (VD N) 2 (Yc 2 XJ G) XB [] (XQ 54 [.pv (.agg [enc n.kind,enc n.line,enc n.name,enc n.num,enc n.elem,enc n.dims,enc n.data,enc n.sizes,enc n.ranks,enc ks]),.map 0,.map 1] [.map (Z6 b),.map (Z6 g)]):=Zd.to (dm [] 27 0x2222220010024223122200e42) h
theorem b3i{G:AV×List AObj×List AObj->Prop}(N:Nat)(n:Nd)(ks:List Tm)(b g:List Str)(i:Int)(h:if (decide (i<(↑(List.length (List.map enc ks)):Int)))=true then(decide (0<=i)&&decide (Int.toNat i<List.length (List.map enc ks))&&Enc.sz Tm==10)=true∧(∃ y0:Tm,AV.pv (PV.rptr (PV.cells (List.getD (List.map enc ks) (Int.toNat i) default)))=AV.pv (PV.rptr (PV.cells ((enc) y0)))∧(shT y0=true∧(if (Nd.kind n==5)=true then if ((↑(List.length (List.map enc ks)):Int)==2)=true then if (i==1)=true then(V5 (enc (Nd.name n)) (PV.bool true) (Z6 b))=true∧((X8 N [(.pv (BO y0)),(.map 0),(.map 1)] [(.map (XZ (enc (Nd.name n)) (PV.bool true) (Z6 b))),(.map (Z6 g))])=true∧(At (VD N) 2 (Yc 2 XJ G) XB 0 54 [(1,(.map 0)),(2,(.map 1)),(3,(.ptr 2 0)),(23,(.pv (.sl 10 false (List.map enc ks)))),(24,(.pv (.int .i64 (↑(List.length (List.map enc ks)):Int)))),(25,(.pv (.int .i64 (IntKind.wrap IntKind.i64 (i+1)))))] [(.obj (.map (Z6 b))),(.obj (.map (Z6 (List.foldl Y1 (YH (Z6 g)) (XF (YH (XZ (enc (Nd.name n)) (PV.bool true) (Z6 b))) (dec (agS y0))))))),(.obj (.box (Yb n ks)))]))else((X8 N [(.pv (BO y0)),(.map 0),(.map 1)] [(.map (Z6 b)),(.map (Z6 g))])=true∧(At (VD N) 2 (Yc 2 XJ G) XB 0 54 [(1,(.map 0)),(2,(.map 1)),(3,(.ptr 2 0)),(23,(.pv (.sl 10 false (List.map enc ks)))),(24,(.pv (.int .i64 (↑(List.length (List.map enc ks)):Int)))),(25,(.pv (.int .i64 (IntKind.wrap IntKind.i64 (i+1)))))] [(.obj (.map (Z6 b))),(.obj (.map (Z6 (List.foldl Y1 (YH (Z6 g)) (XF (YH (Z6 b)) (dec (agS y0))))))),(.obj (.box (Yb n ks)))]))else((X8 N [(.pv (BO y0)),(.map 0),(.map 1)] [(.map (Z6 b)),(.map (Z6 g))])=true∧(At (VD N) 2 (Yc 2 XJ G) XB 0 54 [(1,(.map 0)),(2,(.map 1)),(3,(.ptr 2 0)),(23,(.pv (.sl 10 false (List.map enc ks)))),(24,(.pv (.int .i64 (↑(List.length (List.map enc ks)):Int)))),(25,(.pv (.int .i64 (IntKind.wrap IntKind.i64 (i+1)))))] [(.obj (.map (Z6 b))),(.obj (.map (Z6 (List.foldl Y1 (YH (Z6 g)) (XF (YH (Z6 b)) (dec (agS y0))))))),(.obj (.box (Yb n ks)))]))else((X8 N [(.pv (BO y0)),(.map 0),(.map 1)] [(.map (Z6 b)),(.map (Z6 g))])=true∧(At (VD N) 2 (Yc 2 XJ G) XB 0 54 [(1,(.map 0)),(2,(.map 1)),(3,(.ptr 2 0)),(23,(.pv (.sl 10 false (List.map enc ks)))),(24,(.pv (.int .i64 (↑(List.length (List.map enc ks)):Int)))),(25,(.pv (.int .i64 (IntKind.wrap IntKind.i64 (i+1)))))] [(.obj (.map (Z6 b))),(.obj (.map (Z6 (List.foldl Y1 (YH (Z6 g)) (XF (YH (Z6 b)) (dec (agS y0))))))),(.obj (.box (Yb n ks)))])))))else(G (((.tup []),([(.map (Z6 b)),(.map (Z6 g))],[]))))):At (VD N) 2 (Yc 2 XJ G) XB 0 54 [(1,.map 0),(2,.map 1),(3,.ptr 2 0),(23,.pv (enc ks)),(24,.pv (.int .i64 (ks.map (enc:Tm->PV)).length)),(25,.pv (.int .i64 i))] [.obj (.map (Z6 b)),.obj (.map (Z6 g)),.obj (.box [.pv (enc n.kind),.pv (enc n.line),.pv (enc n.name),.pv (enc n.num),.pv (enc n.elem),.pv (enc n.dims),.pv (enc n.data),.pv (enc n.sizes),.pv (enc n.ranks),.pv (enc ks)])]:=At.to (dm [dr Tm] 61 0x2312222222202312220231023113200742220124222220224215103642) h
end Go.Pl
namespace Go.Pl
open Go.RowKit
open Enc (enc dec is)
open EncL (encL decL isL)
set_option maxRecDepth 100000
end Go.Pl
namespace Go.Pl
open Go.RowKit
open Enc (enc dec is)
open EncL (encL decL isL)
set_option maxRecDepth 100000
abbrev ES(ps:List PV)(k:Bool->Prop):Prop:=Qi (fun(x:List Int×List Int×Unit)=>decide (List.length (Prod.fst x)<=1048576)) (fun(x:List Int×List Int×Unit)=>decide (Prod.fst x=Prod.fst (Prod.snd x))) ps k
abbrev c9d(ps:List PV)(k:Bool->Prop):Prop:=Qi (fun(x:Lin×Lin×Unit)=>decide (List.length (Lin.t (Prod.fst x))<=1048576)) (fun(x:Lin×Lin×Unit)=>decide (Prod.fst x=Prod.fst (Prod.snd x))) ps k
abbrev c8h(N:Nat)(ps:List PV)(k:Bool->Prop):Prop:=Qi (fun(x:Tm×Tm×Unit)=>tW (Prod.fst x)&&tW (Prod.fst (Prod.snd x))&&decide (ZM (Prod.fst x)<N)) (fun(x:Tm×Tm×Unit)=>KC (Prod.fst x) (Prod.fst (Prod.snd x))) ps k
abbrev d1w(ps:List PV)(k:Bool->Prop):Prop:=Qi (fun(x:Tm×Tm×Unit)=>tW (Prod.fst x)&&tW (Prod.fst (Prod.snd x))) (fun(x:Tm×Tm×Unit)=>KC (Prod.fst x) (Prod.fst (Prod.snd x))) ps k
abbrev d2a(N:Nat)(ps:List PV)(k:Bool->Prop):Prop:=Qi (fun(x:Tm×Tm×Unit)=>tW (Prod.fst x)&&tW (Prod.fst (Prod.snd x))&&decide (ZM (Prod.fst x)<N)) (fun(x:Tm×Tm×Unit)=>Ri (Prod.fst x) (Prod.fst (Prod.snd x))) ps k
noncomputable def Hm:IC:=Wo Proofs.Tryz.f65
def Hq:List IRes:=[(.tmp 4)]
abbrev c4d:Nat:=26
def SK:Zz:=YG []
theorem d1l{G:PV->Prop}(a b:List Int)(h:if ((↑(List.length (List.map enc a)):Int) != (↑(List.length (List.map enc b)):Int))=true then G ((.bool false))else(At SK 0 (Zb Hq G) Hm 0 26 [(0,(.pv (.sl 1 false (List.map enc a)))),(1,(.pv (.sl 1 false (List.map enc b)))),(5,(.pv (.int .i64 0)))] [])):Zd SK 0 (Zb Hq G) Hm [] (Ya 26 [enc a,enc b]):=Zd.tp (dm [] 8 0x142) h
theorem a9q{G:PV->Prop}(a b:List Int)(i:Int)(h:if (decide (i<(↑(List.length (List.map enc a)):Int)))=true then(G8 a i 1 fun y0=>((G8 b i 1 fun y1=>(if (PV.asInt (List.getD (PV.cells (enc y0)) 0 default) != PV.asInt (List.getD (PV.cells (enc y1)) 0 default))=true then G ((.bool false))else(At SK 0 (Zb Hq G) Hm 0 26 [(0,(.pv (.sl 1 false (List.map enc a)))),(1,(.pv (.sl 1 false (List.map enc b)))),(5,(.pv (.int .i64 (IntKind.wrap IntKind.i64 (i+1)))))] [])))))else(G ((.bool true)))):At SK 0 (Zb Hq G) Hm 0 26 [(0,.pv (enc a)),(1,.pv (enc b)),(5,.pv (.int .i64 i))] []:=At.tp (dm [dr Int] 21 0x200014225125100e42) h
noncomputable def JW:IC:=Wo Proofs.Tryz.f66
def Gr:List IRes:=[(.tmp 4)]
abbrev c7u:Nat:=38
def Aw:Zz:=YG []
theorem c9c{G:PV->Prop}(a b:Lin)(h:if (a.k != b.k)=true then G ((.bool false))else(if ((↑(List.length (List.map enc a.t)):Int) != (↑(List.length (List.map enc b.t)):Int))=true then G ((.bool false))else(At Aw 0 (Zb Gr G) JW 0 38 [(2,(.ptr 0 0)),(3,(.ptr 1 0)),(5,(.pv (.int .i64 0)))] [(.obj (.box [(.pv (.int .i64 a.k)),(.pv (.sl 2 false (List.map enc a.t)))])),(.obj (.box [(.pv (.int .i64 b.k)),(.pv (.sl 2 false (List.map enc b.t)))]))]))):Zd Aw 0 (Zb Gr G) JW [] (Ya 38 [.agg [enc a.k,enc a.t],.agg [enc b.k,enc b.t]]):=Zd.tp (dm [] 29 0x142222222202222222200942) h
theorem b1x{G:PV->Prop}(a b:Lin)(i:Int)(h:if (decide (i<(↑(List.length (List.map enc a.t)):Int)))=true then(G8 a.t i 2 fun y0=>((G8 b.t i 2 fun y1=>(if (!(PV.asStr (List.getD (PV.cells (enc y0)) 0 default)==PV.asStr (List.getD (PV.cells (enc y1)) 0 default)&&(PV.asInt (List.getD (PV.cells (enc y0)) (0+1) default)==PV.asInt (List.getD (PV.cells (enc y1)) (0+1) default)&&true)))=true then G ((.bool false))else(At Aw 0 (Zb Gr G) JW 0 38 [(2,(.ptr 0 0)),(3,(.ptr 1 0)),(5,(.pv (.int .i64 (IntKind.wrap IntKind.i64 (i+1)))))] [(.obj (.box [(.pv (.int .i64 a.k)),(.pv (.sl 2 false (List.map enc a.t)))])),(.obj (.box [(.pv (.int .i64 b.k)),(.pv (.sl 2 false (List.map enc b.t)))]))])))))else(G ((.bool true)))):At Aw 0 (Zb Gr G) JW 0 38 [(2,.ptr 0 0),(3,.ptr 1 0),(5,.pv (.int .i64 i))] [.obj (.box [.pv (enc a.k),.pv (enc a.t)]),.obj (.box [.pv (enc b.k),.pv (enc b.t)])]:=At.tp (dm [dr Coef] 21 0x200014225125100e42) h
noncomputable def Uf:IC:=Wo Proofs.Tryz.f25
def Ug:List IRes:=[(.tmp 4)]
abbrev c5y:Nat:=117
def Kj(N:Nat):Zz:=YG [(65,.pure (preT (fun x:List Int×List Int×Unit=>decide (x.1.length<=1048576))) (Zj (fun x:List Int×List Int×Unit=>decide (x.1=x.2.1)))),(66,.pure (preT (fun x:Lin×Lin×Unit=>decide (x.1.t.length<=1048576))) (Zj (fun x:Lin×Lin×Unit=>decide (x.1=x.2.1)))),(25,.pure (preT (fun x:Tm×Tm×Unit=>(tW x.1&&tW x.2.1)&&decide (ZM x.1<N))) (Zj (fun x:Tm×Tm×Unit=>KC x.1 x.2.1)))]
theorem d1d{G:PV->Prop}(N:Nat)(n:Nd)(ks:List Tm)(m:Nd)(ls:List Tm)(h:if (Nd.kind n != Nd.kind m)=true then G ((.bool false))else(if (!Str.s (Nd.name n)==Str.s (Nd.name m))=true then G ((.bool false))else(if (Nd.num n != Nd.num m)=true then G ((.bool false))else(if ((↑(List.length (List.map enc (Nd.sizes n))):Int) != (↑(List.length (List.map enc (Nd.sizes m))):Int))=true then G ((.bool false))else(if ((↑(List.length (List.map enc ks)):Int) != (↑(List.length (List.map enc ls)):Int))=true then G ((.bool false))else(if (!Str.s (Nd.elem n)==Str.s (Nd.elem m))=true then G ((.bool false))else((ES [(.sl 1 false (List.map enc (Nd.dims n))),(.sl 1 false (List.map enc (Nd.dims m)))] fun y0=>(if (!y0)=true then G ((.bool false))else((ES [(.sl 1 false (List.map enc (Nd.data n))),(.sl 1 false (List.map enc (Nd.data m)))] fun y1=>(if (!y1)=true then G ((.bool false))else((ES [(.sl 1 false (List.map enc (Nd.ranks n))),(.sl 1 false (List.map enc (Nd.ranks m)))] fun y2=>(if (!y2)=true then G ((.bool false))else(At (Kj N) 0 (Zb Ug G) Uf 0 117 [(2,(.ptr 0 0)),(3,(.ptr 1 0)),(5,(.pv (.int .i64 0)))] [(.obj (.box (Yb n ks))),(.obj (.box (Yb m ls)))])))))))))))))))):Zd (Kj N) 0 (Zb Ug G) Uf [] (Ya 117 [.agg [enc n.kind,enc n.line,enc n.name,enc n.num,enc n.elem,enc n.dims,enc n.data,enc n.sizes,enc n.ranks,enc ks],.agg [enc m.kind,enc m.line,enc m.name,enc m.num,enc m.elem,enc m.dims,enc m.data,enc m.sizes,enc m.ranks,enc ls]]):=Zd.tp (dm [dv Bool] 227 0x1422512222022222220084225122222202222222222222222011422512222220222222222222222222222222201a4200014222222220222222220094222222220222222222222222201142222220222222222222222222222201742222220222222222222222222222222222201d42) h
theorem b1p{G:PV->Prop}(N:Nat)(n:Nd)(ks:List Tm)(m:Nd)(ls:List Tm)(i:Int)(h:if (decide (i<(↑(List.length (List.map enc (Nd.sizes n))):Int)))=true then(G8 (Nd.sizes n) i 2 fun y0=>((G8 (Nd.sizes m) i 2 fun y1=>((c9d [(.agg [(.int .i64 (PV.asInt (List.getD (PV.cells (enc y0)) 0 default))),(.sl 2 false (PV.asXs (List.getD (PV.cells (enc y0)) (0+1) default)))]),(.agg [(.int .i64 (PV.asInt (List.getD (PV.cells (enc y1)) 0 default))),(.sl 2 false (PV.asXs (List.getD (PV.cells (enc y1)) (0+1) default)))])] fun y2=>(if (!y2)=true then G ((.bool false))else(At (Kj N) 0 (Zb Ug G) Uf 0 117 [(2,(.ptr 0 0)),(3,(.ptr 1 0)),(5,(.pv (.int .i64 (IntKind.wrap IntKind.i64 (i+1)))))] [(.obj (.box (Yb n ks))),(.obj (.box (Yb m ls)))])))))))else(At (Kj N) 0 (Zb Ug G) Uf 1 117 [(2,(.ptr 0 0)),(3,(.ptr 1 0)),(6,(.pv (.int .i64 0)))] [(.obj (.box (Yb n ks))),(.obj (.box (Yb m ls)))])):At (Kj N) 0 (Zb Ug G) Uf 0 117 [(2,.ptr 0 0),(3,.ptr 1 0),(5,.pv (.int .i64 i))] [.obj (.box [.pv (enc n.kind),.pv (enc n.line),.pv (enc n.name),.pv (enc n.num),.pv (enc n.elem),.pv (enc n.dims),.pv (enc n.data),.pv (enc n.sizes),.pv (enc n.ranks),.pv (enc ks)]),.obj (.box [.pv (enc m.kind),.pv (enc m.line),.pv (enc m.name),.pv (enc m.num),.pv (enc m.elem),.pv (enc m.dims),.pv (enc m.data),.pv (enc m.sizes),.pv (enc m.ranks),.pv (enc ls)])]:=At.tp (dm [dr Lin,dv Bool] 22 0x2000146125125100f42) h
theorem a9w{G:PV->Prop}(N:Nat)(n:Nd)(ks:List Tm)(m:Nd)(ls:List Tm)(i:Int)(h:if (decide (i<(↑(List.length (List.map enc ks)):Int)))=true then(G8 ks i 10 fun y0=>(shT y0=true∧((G8 ls i 10 fun y1=>(shT y1=true∧((c8h N [BO y0,BO y1] fun y2=>(if (!y2)=true then G ((.bool false))else(At (Kj N) 0 (Zb Ug G) Uf 1 117 [(2,(.ptr 0 0)),(3,(.ptr 1 0)),(6,(.pv (.int .i64 (IntKind.wrap IntKind.i64 (i+1)))))] [(.obj (.box (Yb n ks))),(.obj (.box (Yb m ls)))])))))))))else(G ((.bool true)))):At (Kj N) 0 (Zb Ug G) Uf 1 117 [(2,.ptr 0 0),(3,.ptr 1 0),(6,.pv (.int .i64 i))] [.obj (.box [.pv (enc n.kind),.pv (enc n.line),.pv (enc n.name),.pv (enc n.num),.pv (enc n.elem),.pv (enc n.dims),.pv (enc n.data),.pv (enc n.sizes),.pv (enc n.ranks),.pv (enc ks)]),.obj (.box [.pv (enc m.kind),.pv (enc m.line),.pv (enc m.name),.pv (enc m.num),.pv (enc m.elem),.pv (enc m.dims),.pv (enc m.data),.pv (enc m.sizes),.pv (enc m.ranks),.pv (enc ls)])]:=At.tp (dm [dr Tm,dv Bool] 22 0x2000146115115100f42) h
noncomputable def J7:IC:=Wo Proofs.Tryz.f31
def Gm:List IRes:=[(.tmp 4)]
abbrev c5u:Nat:=36
def Sk(N:Nat):Zz:=YG [(25,.pure (preT (fun x:Tm×Tm×Unit=>tW x.1&&tW x.2.1)) (Zj (fun x:Tm×Tm×Unit=>KC x.1 x.2.1))),(31,.pure (preT (fun x:Tm×Tm×Unit=>(tW x.1&&tW x.2.1)&&decide (ZM x.1<N))) (Zj (fun x:Tm×Tm×Unit=>Ri x.1 x.2.1)))]
theorem c9k{G:PV->Prop}(N:Nat)(n:Nd)(ks:List Tm)(m:Nd)(ls:List Tm)(h:if (Nd.line n != Nd.line m)=true then G ((.bool false))else((d1w [ndC n ks,ndC m ls] fun y0=>(if (!y0)=true then G ((.bool false))else(At (Sk N) 0 (Zb Gm G) J7 0 36 [(2,(.ptr 0 0)),(3,(.ptr 1 0)),(5,(.pv (.int .i64 0)))] [(.obj (.box (Yb n ks))),(.obj (.box (Yb m ls)))]))))):Zd (Sk N) 0 (Zb Gm G) J7 [] (Ya 36 [.agg [enc n.kind,enc n.line,enc n.name,enc n.num,enc n.elem,enc n.dims,enc n.data,enc n.sizes,enc n.ranks,enc ks],.agg [enc m.kind,enc m.line,enc m.name,enc m.num,enc m.elem,enc m.dims,enc m.data,enc m.sizes,enc m.ranks,enc ls]]):=Zd.tp (dm [dv Bool] 24 0x1422512202222200642) h
theorem a7v{G:PV->Prop}(N:Nat)(n:Nd)(ks:List Tm)(m:Nd)(ls:List Tm)(i:Int)(h:if (decide (i<(↑(List.length (List.map enc ks)):Int)))=true then(G8 ks i 10 fun y0=>(shT y0=true∧((G8 ls i 10 fun y1=>(shT y1=true∧((d2a N [BO y0,BO y1] fun y2=>(if (!y2)=true then G ((.bool false))else(At (Sk N) 0 (Zb Gm G) J7 0 36 [(2,(.ptr 0 0)),(3,(.ptr 1 0)),(5,(.pv (.int .i64 (IntKind.wrap IntKind.i64 (i+1)))))] [(.obj (.box (Yb n ks))),(.obj (.box (Yb m ls)))])))))))))else(G ((.bool true)))):At (Sk N) 0 (Zb Gm G) J7 0 36 [(2,.ptr 0 0),(3,.ptr 1 0),(5,.pv (.int .i64 i))] [.obj (.box [.pv (enc n.kind),.pv (enc n.line),.pv (enc n.name),.pv (enc n.num),.pv (enc n.elem),.pv (enc n.dims),.pv (enc n.data),.pv (enc n.sizes),.pv (enc n.ranks),.pv (enc ks)]),.obj (.box [.pv (enc m.kind),.pv (enc m.line),.pv (enc m.name),.pv (enc m.num),.pv (enc m.elem),.pv (enc m.dims),.pv (enc m.data),.pv (enc m.sizes),.pv (enc m.ranks),.pv (enc ls)])]:=At.tp (dm [dr Tm,dv Bool] 22 0x2000146115115100f42) h
-- IMPOSSIBLE
-- IMPOSSIBLE
noncomputable def c3b:IC:=Wo Proofs.Tryz.f51
def c1y:List IRes:=[(.cell true 10 2)]
abbrev c9z:Nat:=5
def d0d:Zz:=YG []
theorem d3g{G:PV->Prop}(s:List UInt8)(h:G ((.agg [(.int .i64 1),(.int .i64 0),(.str s),(.int .i64 0),(.str []),(.sl 0 true []),(.sl 0 true []),(.sl 0 true []),(.sl 0 true []),(.sl 0 true [])]))):Zd d0d 0 (Zb c1y G) c3b [] (Ya 5 [.str s]):=Zd.tp (.nil) h
noncomputable def E5:IC:=Wo Proofs.Tryz.f16
def O0:List IRes:=[(.cell true 10 6)]
abbrev b6w:Nat:=12
def b2j:Zz:=YG []
theorem c5d{G:PV->Prop}(s:List UInt8)(n:Nd)(ks:List Tm)(m:Nd)(ls:List Tm)(h:G ((.agg [(.int .i64 5),(.int .i64 0),(.str s),(.int .i64 0),(.str []),(.sl 0 true []),(.sl 0 true []),(.sl 0 true []),(.sl 0 true []),(.sl 10 false [ndC n ks,ndC m ls])]))):Zd b2j 0 (Zb O0 G) E5 [] (Ya 12 [.str s,.agg [enc n.kind,enc n.line,enc n.name,enc n.num,enc n.elem,enc n.dims,enc n.data,enc n.sizes,enc n.ranks,enc ks],.agg [enc m.kind,enc m.line,enc m.name,enc m.num,enc m.elem,enc m.dims,enc m.data,enc m.sizes,enc m.ranks,enc ls]]):=Zd.tp (.lit (.lit (.nil))) h
end Go.Pl
namespace Go.Pl
open Go.RowKit
open Enc (enc dec is)
open EncL (encL decL isL)
end Go.Pl
namespace Go.Pl
open Go.RowKit
open Enc (enc dec is)
open EncL (encL decL isL)
set_option maxRecDepth 100000
end Go.Pl
namespace Go.Pl
open Go.RowKit
open Enc (enc dec is)
open EncL (encL decL isL)
set_option maxRecDepth 100000
end Go.Pl
namespace Go.Pl
open Go.RowKit
open Enc (enc dec is)
open EncL (encL decL isL)
end Go.Pl
namespace Go.Pl
open Go.RowKit
open Enc (enc dec is)
open EncL (encL decL isL)
set_option maxRecDepth 100000
end Go.Pl
namespace Go.Pl
open Go.RowKit
open Enc (enc dec is)
open EncL (encL decL isL)
end Go.Pl
namespace Go.Pl
open Go.RowKit
open Enc (enc dec is)
open EncL (encL decL isL)
theorem FN{α:Type}[BEq α][LawfulBEq α]{x y:α}{P Q:Prop}(h1:x≠y->P)(h2:x=y->Q):if (x != y)=true then P else Q:=by by_cases h:x=y;rw[if_neg (by simpa using h)];exact h2 h;rw[if_pos (by simpa using h)];exact h1 h
theorem d1f{α:Type}[BEq α][LawfulBEq α]{x y:α}{P Q:Prop}(h1:x≠y->P)(h2:x=y->Q):if (!x==y)=true then P else Q:=by by_cases h:x=y;rw[if_neg (by simpa using h)];exact h2 h;rw[if_pos (by simpa using h)];exact h1 h
theorem Cn{α β:Type}[Enc α][Enc β]{a:List α}{b:List β}{P Q:Prop}(h1:a.length≠b.length->P)(h2:a.length=b.length->Q):if ((↑(List.length (List.map (enc:α->PV) a)):Int) != (↑(List.length (List.map (enc:β->PV) b)):Int))=true then P else Q:=
 FN (fun h=>h1 fun e=>h (by rw[List.length_map,List.length_map,e])) fun h=>h2 (by rw[List.length_map,List.length_map]at h;omega)
theorem CO{α:Type}[DecidableEq α]{x y:α}{a b:List α}(h:x≠y):decide (x::a=y::b)=false:=decide_eq_false fun e=>h (List.cons.inj e).1
theorem Ct{α:Type}[DecidableEq α]{x y:α}{a b:List α}(h:x=y):decide (x::a=y::b)=decide (a=b):=decide_eq_decide.2 ⟨fun e=>(List.cons.inj e).2,fun e=>by rw[h,e]⟩
theorem a9j{α:Type}[DecidableEq α]{a b:List α}(h:a.length≠b.length):decide (a=b)=false:=decide_eq_false fun e=>h (by rw[e])
theorem idf{x y:Int}(h:x≠y):x≠y:=h
theorem idt{x y:Int}(h:x=y):x=y:=h
theorem stt{x y:Str}(h:x.s=y.s):x=y:=by cases x;cases y;cases h;rfl
theorem a6m(a b:List Int)(hl:a.length<=1048576)(e:a.length=b.length)(R:Bool): ∀ (d i:Nat),d+i=a.length->R=decide (a.drop i=b.drop i) ->
  At SK 0 (Zb Hq (Zo R)) Hm 0 26 [(0,.pv (enc a)),(1,.pv (enc b)),(5,.pv (.int .i64 i))] []:=by
 intro d
 induction d with
 | zero=>
  intro i hi hR
  refine a9q a b i (XW (Vu (by omega)) (ZC ?_))
  rw[hR,List.drop_eq_nil_of_le (by omega),List.drop_eq_nil_of_le (by omega)];rfl
 | succ d ih=>
  intro i hi hR
  have h1:i<a.length:=by omega
  have h2:i<b.length:=by omega
  rw[List.drop_eq_getElem_cons h1,List.drop_eq_getElem_cons h2]at hR
  refine a9q a b i (XH (WR h1) ⟨ZQ h1 rfl,Yf h1 ⟨ZQ h2 rfl,Yf h2 (FN (fun h=>ZC ?_) fun h=> ?_)⟩⟩)
  ·rw[hR,CO (show a[i]≠b[i]from idf h)]
  ·rw[next (by omega)]
   exact ih (i+1) (by omega) (by rw[hR,Ct (show a[i]=b[i]from idt h)])
theorem b8m: ∀ x:List Int×List Int×Unit,decide (x.1.length<=1048576)=true->Zd SK 0 (Zb Hq (Zo (decide (x.1=x.2.1)))) Hm [] (Ya c4d (encL x)):=by
 rintro⟨a,b,⟨⟩⟩ h
 refine d1l a b (Cn (fun k=>ZC (a9j k).symm) fun k=> ?_)
 exact a6m a b (of_decide_eq_true h) k _ a.length 0 (by omega) rfl
theorem b1c(a b:Lin)(hl:a.t.length<=1048576)(e:a.t.length=b.t.length)(R:Bool): ∀ (d i:Nat),d+i=a.t.length->R=decide (a.t.drop i=b.t.drop i) ->
  At Aw 0 (Zb Gr (Zo R)) JW 0 38 [(2,.ptr 0 0),(3,.ptr 1 0),(5,.pv (.int .i64 i))] [.obj (.box [.pv (enc a.k),.pv (enc a.t)]),.obj (.box [.pv (enc b.k),.pv (enc b.t)])]:=by
 intro d
 induction d with
 | zero=>
  intro i hi hR
  refine b1x a b i (XW (Vu (by omega)) (ZC ?_))
  rw[hR,List.drop_eq_nil_of_le (by omega),List.drop_eq_nil_of_le (by omega)];rfl
 | succ d ih=>
  intro i hi hR
  have h1:i<a.t.length:=by omega
  have h2:i<b.t.length:=by omega
  rw[List.drop_eq_getElem_cons h1,List.drop_eq_getElem_cons h2]at hR
  have hc:(PV.asStr (List.getD (PV.cells (enc a.t[i])) 0 default)==PV.asStr (List.getD (PV.cells (enc b.t[i])) 0 default)&&(PV.asInt (List.getD (PV.cells (enc a.t[i])) (0+1) default)==PV.asInt (List.getD (PV.cells (enc b.t[i])) (0+1) default)&&true))=decide (a.t[i]=b.t[i]):=by
   rw[co1,co1,co2,co2,Bool.and_true]
   rcases a.t[i]with ⟨⟨v⟩,c⟩
   rcases b.t[i]with ⟨⟨w⟩,c'⟩
   rw[Bool.eq_iff_iff]
   simp
  refine b1x a b i (XH (WR h1) ⟨ZQ h1 rfl,Yf h1 ⟨ZQ h2 rfl,Yf h2 ?_⟩⟩)
  rw[hc]
  refine Ve (fun h=>ZC ?_) fun h=> ?_
  ·rw[hR,CO (of_decide_eq_false h)]
  ·rw[next (by omega)]
   exact ih (i+1) (by omega) (by rw[hR,Ct (of_decide_eq_true h)])
theorem b7w: ∀ x:Lin×Lin×Unit,decide (x.1.t.length<=1048576)=true->Zd Aw 0 (Zb Gr (Zo (decide (x.1=x.2.1)))) JW [] (Ya c7u (encL x)):=by
 rintro⟨a,b,⟨⟩⟩ h
 refine c9c a b (FN (fun k=>ZC (decide_eq_false fun e=>k (by rw[show a=b from e])).symm) fun k0=>Cn (fun k=>ZC (decide_eq_false fun e=>k (by rw[show a=b from e])).symm) fun k=> ?_)
 refine b1c a b (of_decide_eq_true h) k _ a.t.length 0 (by omega) (decide_eq_decide.2 ⟨fun e=>by rw[show a=b from e],fun e=> ?_⟩)
 cases a;cases b
 simp only[List.drop_zero]at e k0
 rw[k0,e]
theorem Yi{n m:Nd}{ks ls:List Tm}:KC (.mk n ks) (.mk m ls)=true ↔ (n.kind=m.kind∧n.name=m.name∧n.num=m.num∧n.elem=m.elem∧n.dims=m.dims∧n.data=m.data∧n.sizes=m.sizes∧n.ranks=m.ranks)∧VM ks ls=true:=by
 rw[KC]
 unfold c2c
 simp only[Bool.and_eq_true,decide_eq_true_eq,and_assoc]
theorem Jc: ∀ {ks ls:List Tm},VM ks ls=true->ks.length=ls.length
 | [],[],_=>rfl
 | [],_::_,h=>by simp[VM]at h
 | _::_,[],h=>by simp[VM]at h
 | k::ks,l::ls,h=>by
  rw[VM,Bool.and_eq_true]at h
  rw[List.length_cons,List.length_cons,Jc h.2]
theorem XM{b:Bool}(h:b=true->False):false=b:=by cases b;rfl;exact(h rfl).elim
theorem OV{n m:Nd}{ks ls:List Tm}:Ri (.mk n ks) (.mk m ls)=true ↔ n=m∧De ks ls=true:=by
 rw[Ri,Bool.and_eq_true,decide_eq_true_eq]
mutual
theorem c3a: ∀ {a b:Tm},Ri a b=true->KC a b=true
 | .mk n ks,.mk m ls,h=>by
  obtain⟨e,h2⟩:=OV.1 h
  subst e
  exact Yi.2 ⟨⟨rfl,rfl,rfl,rfl,rfl,rfl,rfl,rfl⟩,a4v h2⟩
theorem a4v: ∀ {ks ls:List Tm},De ks ls=true->VM ks ls=true
 | [],[],_=>by rw[VM]
 | [],_::_,h=>by simp[De]at h
 | _::_,[],h=>by simp[De]at h
 | k::ks,l::ls,h=>by
  rw[De,Bool.and_eq_true]at h
  rw[VM,c3a h.1,a4v h.2];rfl
end
theorem a6o{a b:List Int}{P:Bool->Prop}(h:a.length<=1048576)(k:P (decide (a=b))):ES [.sl 1 false (a.map enc),.sl 1 false (b.map enc)] P:=⟨Ze (a,b,()) rfl (decide_eq_true h),Zg (a,b,()) rfl k⟩
theorem NI{N:Nat}{n:Nd}{ks:List Tm}(h:tW (.mk n ks)=true)(hd:ZU ks<N){k l:Tm}(hk:k∈ks)(hl:tW l=true):(fun x:Tm×Tm×Unit=>(tW x.1&&tW x.2.1)&&decide (ZM x.1<N)) (k,l,())=true:=by
 have h:=Dv h hd hk
 simp only[Bool.and_eq_true]at h ⊢
 exact⟨⟨h.1,hl⟩,h.2⟩
theorem a4k(a b:Tm):[BO a,BO b]=encL (a,b,()):=by rw[Tp,Tp];rfl
theorem a2w(n m:Nd)(ks ls:List Tm):[ndC n ks,ndC m ls]=encL (Tm.mk n ks,Tm.mk m ls,()):=by rw[Vz,Vz];rfl
theorem a9v(N:Nat)(n m:Nd)(ks ls:List Tm)(hw:tW (.mk n ks)=true)(hv:tW (.mk m ls)=true)(hd:ZU ks<N)(e:ks.length=ls.length)(R:Bool): ∀ (d i:Nat),d+i=ks.length->R=VM (ks.drop i) (ls.drop i) ->
  At (Kj N) 0 (Zb Ug (Zo R)) Uf 1 117 [(2,.ptr 0 0),(3,.ptr 1 0),(6,.pv (.int .i64 i))] [.obj (.box (Yb n ks)),.obj (.box (Yb m ls))]:=by
 intro d
 induction d with
 | zero=>
  intro i hi hR
  rw[List.drop_eq_nil_of_le (by omega),List.drop_eq_nil_of_le (by omega),VM]at hR
  exact a9w N n ks m ls i (XW (Vu (by omega)) (ZC hR.symm))
 | succ d ih=>
  intro i hi hR
  have h1:i<ks.length:=by omega
  have h2:i<ls.length:=by omega
  have hkl:=(Yj hw).1
  rw[List.drop_eq_getElem_cons h1,List.drop_eq_getElem_cons h2,VM]at hR
  refine a9w N n ks m ls i (XH (WR h1) ⟨ZQ h1 rfl,Yf h1 ⟨WM _,ZQ h2 rfl,Yf h2 ⟨WM _,Ze (ks[i],ls[i],()) (a4k _ _) (NI hw hd (List.getElem_mem h1) ((Yj hv).2 _ (List.getElem_mem h2))),Zg (ks[i],ls[i],()) (a4k _ _) (Ve (fun h=>ZC ?_) fun h=> ?_)⟩⟩⟩)
  ·have h:KC ks[i] ls[i]=false:=h
   rw[hR,h];rfl
  ·have h:KC ks[i] ls[i]=true:=h
   rw[next (by omega)]
   exact ih (i+1) (by omega) (by rw[hR,h];rfl)
theorem a4h(N:Nat)(n m:Nd)(ks ls:List Tm)(hw:tW (.mk n ks)=true)(hv:tW (.mk m ls)=true)(hd:ZU ks<N)(e:ks.length=ls.length)(es:n.sizes.length=m.sizes.length)(R:Bool): ∀ (d i:Nat),d+i=n.sizes.length->R=(decide (n.sizes.drop i=m.sizes.drop i)&&VM ks ls) ->
  At (Kj N) 0 (Zb Ug (Zo R)) Uf 0 117 [(2,.ptr 0 0),(3,.ptr 1 0),(5,.pv (.int .i64 i))] [.obj (.box (Yb n ks)),.obj (.box (Yb m ls))]:=by
 intro d
 induction d with
 | zero=>
  intro i hi hR
  rw[List.drop_eq_nil_of_le (by omega),List.drop_eq_nil_of_le (by omega)]at hR
  exact b1p N n ks m ls i (XW (Vu (by omega)) (a9v N n m ks ls hw hv hd e R ks.length 0 (by omega) (by rw[hR];rfl)))
 | succ d ih=>
  intro i hi hR
  have h1:i<n.sizes.length:=by omega
  have h2:i<m.sizes.length:=by omega
  have hn:=Fe hw
  have hb:=hn.sizes
  rw[List.drop_eq_getElem_cons h1,List.drop_eq_getElem_cons h2]at hR
  refine b1p N n ks m ls i (XH (WR h1) ⟨ZQ h1 rfl,Yf h1 ⟨ZQ h2 rfl,Yf h2 ⟨Ze (n.sizes[i],m.sizes[i],()) rfl (decide_eq_true (hn.lens _ (List.getElem_mem h1))),Zg (n.sizes[i],m.sizes[i],()) rfl (Ve (fun h=>ZC ?_) fun h=> ?_)⟩⟩⟩)
  ·rw[hR,CO (of_decide_eq_false h)];rfl
  ·rw[next (by omega)]
   exact ih (i+1) (by omega) (by rw[hR,Ct (of_decide_eq_true h)])
theorem b5d(N:Nat): ∀ x:Tm×Tm×Unit,((tW x.1&&tW x.2.1)&&decide (ZM x.1<N+1))=true->Zd (Kj N) 0 (Zb Ug (Zo (KC x.1 x.2.1))) Uf [] (Ya c5y (encL x)):=by
 rintro⟨⟨n,ks⟩,⟨m,ls⟩,⟨⟩⟩ h
 simp only[Bool.and_eq_true,decide_eq_true_eq]at h
 obtain⟨⟨hw,hv⟩,hd⟩:=h
 have hd:ZM (.mk n ks)<N+1:=hd
 rw[ZM]at hd
 have hn:=Fe hw
 rw[<- a2w]
 refine d1d N n ks m ls ?_
 refine FN (fun k=>ZC (XM fun h=>k (Yi.1 h).1.1)) fun k1=> ?_
 refine d1f (fun k=>ZC (XM fun h=>k (by rw[(Yi.1 h).1.2.1]))) fun k2=> ?_
 refine FN (fun k=>ZC (XM fun h=>k (Yi.1 h).1.2.2.1)) fun k3=> ?_
 refine Cn (fun k=>ZC (XM fun h=>k (by rw[(Yi.1 h).1.2.2.2.2.2.2.1]))) fun k4=> ?_
 refine Cn (fun k=>ZC (XM fun h=>k (Jc (Yi.1 h).2))) fun k5=> ?_
 refine d1f (fun k=>ZC (XM fun h=>k (by rw[(Yi.1 h).1.2.2.2.1]))) fun k6=> ?_
 refine a6o hn.dims (Ve (fun k=>ZC (XM fun h=>of_decide_eq_false k (Yi.1 h).1.2.2.2.2.1)) fun k7=> ?_)
 refine a6o hn.data (Ve (fun k=>ZC (XM fun h=>of_decide_eq_false k (Yi.1 h).1.2.2.2.2.2.1)) fun k8=> ?_)
 refine a6o hn.ranks (Ve (fun k=>ZC (XM fun h=>of_decide_eq_false k (Yi.1 h).1.2.2.2.2.2.2.2)) fun k9=> ?_)
 refine a4h N n m ks ls hw hv (by omega) k5 k4 _ n.sizes.length 0 (by omega) ?_
 rw[Bool.eq_iff_iff]
 show KC (.mk n ks) (.mk m ls)=true ↔ _
 rw[Yi,Bool.and_eq_true,decide_eq_true_eq]
 exact⟨fun h=>⟨h.1.2.2.2.2.2.2.1,h.2⟩,fun h=>⟨⟨k1,stt k2,k3,stt k6,of_decide_eq_true k7,of_decide_eq_true k8,h.1,of_decide_eq_true k9⟩,h.2⟩⟩
theorem a8l(N:Nat)(n m:Nd)(ks ls:List Tm)(hw:tW (.mk n ks)=true)(hv:tW (.mk m ls)=true)(hd:ZU ks<N)(e:ks.length=ls.length)(R:Bool): ∀ (d i:Nat),d+i=ks.length->R=De (ks.drop i) (ls.drop i) ->
  At (Sk N) 0 (Zb Gm (Zo R)) J7 0 36 [(2,.ptr 0 0),(3,.ptr 1 0),(5,.pv (.int .i64 i))] [.obj (.box (Yb n ks)),.obj (.box (Yb m ls))]:=by
 intro d
 induction d with
 | zero=>
  intro i hi hR
  rw[List.drop_eq_nil_of_le (by omega),List.drop_eq_nil_of_le (by omega),De]at hR
  exact a7v N n ks m ls i (XW (Vu (by omega)) (ZC hR.symm))
 | succ d ih=>
  intro i hi hR
  have h1:i<ks.length:=by omega
  have h2:i<ls.length:=by omega
  have hkl:=(Yj hw).1
  rw[List.drop_eq_getElem_cons h1,List.drop_eq_getElem_cons h2,De]at hR
  refine a7v N n ks m ls i (XH (WR h1) ⟨ZQ h1 rfl,Yf h1 ⟨WM _,ZQ h2 rfl,Yf h2 ⟨WM _,Ze (ks[i],ls[i],()) (a4k _ _) (NI hw hd (List.getElem_mem h1) ((Yj hv).2 _ (List.getElem_mem h2))),Zg (ks[i],ls[i],()) (a4k _ _) (Ve (fun h=>ZC ?_) fun h=> ?_)⟩⟩⟩)
  ·have h:Ri ks[i] ls[i]=false:=h
   rw[hR,h];rfl
  ·have h:Ri ks[i] ls[i]=true:=h
   rw[next (by omega)]
   exact ih (i+1) (by omega) (by rw[hR,h];rfl)
theorem b5l(N:Nat): ∀ x:Tm×Tm×Unit,((tW x.1&&tW x.2.1)&&decide (ZM x.1<N+1))=true->Zd (Sk N) 0 (Zb Gm (Zo (Ri x.1 x.2.1))) J7 [] (Ya c5u (encL x)):=by
 rintro⟨⟨n,ks⟩,⟨m,ls⟩,⟨⟩⟩ h
 have h0:=h
 simp only[Bool.and_eq_true,decide_eq_true_eq]at h
 obtain⟨⟨hw,hv⟩,hd⟩:=h
 have hd:ZM (.mk n ks)<N+1:=hd
 rw[ZM]at hd
 rw[<- a2w]
 refine c9k N n ks m ls (FN (fun k=>ZC (XM fun h=>k (by rw[(OV.1 h).1]))) fun k1=> ?_)
 refine⟨Ze (Tm.mk n ks,Tm.mk m ls,()) (a2w ..) (by simp only[Bool.and_eq_true];exact⟨hw,hv⟩),Zg (Tm.mk n ks,Tm.mk m ls,()) (a2w ..) (Ve (fun k=>ZC (XM fun h=> ?_)) fun k=> ?_)⟩
 ·have k:KC (.mk n ks) (.mk m ls)=false:=k
  rw[c3a h]at k;exact absurd k (by simp)
 ·have k:KC (.mk n ks) (.mk m ls)=true:=k
  obtain⟨⟨a1,a2,a3,a4,a5,a6,a7,a8⟩,ak⟩:=Yi.1 k
  have e:n=m:=by cases n;cases m;simp only at *;subst a1 a2 a3 a4 a5 a6 a7 a8 k1;rfl
  refine a8l N n m ks ls hw hv (by omega) (Jc ak) _ ks.length 0 (by omega) ?_
  show Ri (.mk n ks) (.mk m ls)=_
  rw[Ri,decide_eq_true e];rfl
theorem ndT(n:Nd)(ks:List Tm){α:Type}[Enc α](x:α):encL (Tm.mk n ks,x,())=[ndC n ks,enc x]:=by rw[Vz];rfl
theorem c6r: ∀ x:Str×Unit,true=true->Zd d0d 0 (Zb c1y (Zo (vT x.1))) c3b [] (Ya c9z (encL x)):=by
 rintro⟨⟨s⟩,⟨⟩⟩ _
 exact d3g s ⟨by simp,by simp[vT,nd0]⟩
def d1z(s:Str)(a b:Tm):Tm:=.mk {nd0 with kind:=5,name:=s} [a,b]
theorem b0p: ∀ x:Str×Tm×Tm×Unit,true=true->Zd b2j 0 (Zb O0 (Zo (d1z x.1 x.2.1 x.2.2.1))) E5 [] (Ya b6w (encL x)):=by
 rintro⟨⟨s⟩,⟨n,ks⟩,⟨m,ls⟩,⟨⟩⟩ _
 rw[show encL ((⟨s⟩:Str),Tm.mk n ks,Tm.mk m ls,())=[.str s,ndC n ks,ndC m ls]from by rw[Vz,Vz];rfl]
 refine c5d s n ks m ls ?_
 rw[Vz,Vz]
 have h:is (List Tm) (.sl 10 false ([Tm.mk n ks,Tm.mk m ls].map enc))=true:=Enc.is_enc [Tm.mk n ks,Tm.mk m ls]
 have h2:(dec (.sl 10 false ([Tm.mk n ks,Tm.mk m ls].map enc)):List Tm)=[Tm.mk n ks,Tm.mk m ls]:=Enc.dec_enc [Tm.mk n ks,Tm.mk m ls]
 refine⟨?_,?_⟩
 ·have:is (List Tm) (.sl 10 false [enc (Tm.mk n ks),enc (Tm.mk m ls)])=true:=h
  simp[this]
 ·have h:is (List Tm) (.sl 10 false [enc (Tm.mk n ks),enc (Tm.mk m ls)])=true:=h
  have h2:(dec (.sl 10 false [enc (Tm.mk n ks),enc (Tm.mk m ls)]):List Tm)=[Tm.mk n ks,Tm.mk m ls]:=h2
  rw[b4g _ _ _ _ _ _ _ _ _ _ h,h2]
  simp[d1z,nd0]
end Go.Pl
namespace Go.Pl
open Go.RowKit
open Enc (enc dec is)
open EncL (encL decL isL)
mutual
theorem Ph: ∀ {a b:List Str} (h : ∀ x,x∈a ↔ x∈b) (t:Tm),XF a t=XF b t
 | a,b,h,.mk n ks=>by
  rw[XF,XF,Ah h]
  simp only[h]
theorem Ah: ∀ {a b:List Str} (h : ∀ x,x∈a ↔ x∈b) (l:Bool) (s:Str) (i:Nat) (ks:List Tm),Wi a l s i ks=Wi b l s i ks
 | a,b,h,l,s,i,[]=>by rw[Wi,Wi]
 | a,b,h,l,s,i,k::ks=>by
  rw[Wi,Wi,Ah h l s (i+1) ks,Ph (a:=if (l&&decide (i=1))=true then s::a else a) (b:=if (l&&decide (i=1))=true then s::b else b) (fun x=>by split <;> simp[h]) k]
end
mutual
theorem Jl: ∀ (b:List Str) (t:Tm),(XF b t).length<=Zr t
 | b,.mk n ks=>by
  have h:=Sn b (We n ks.length) n.name 0 ks
  rw[XF,Zr,List.length_append]
  split
  ·simp only[List.length_singleton];omega
  ·simp only[List.length_nil];omega
theorem Sn: ∀ (b:List Str) (l:Bool) (s:Str) (i:Nat) (ks:List Tm),(Wi b l s i ks).length<=Zk ks
 | b,l,s,i,[]=>by rw[Wi,Zk];simp
 | b,l,s,i,k::ks=>by
  have h1:=Jl (if (l&&decide (i=1))=true then s::b else b) k
  have h2:=Sn b l s (i+1) ks
  rw[Wi,Zk,List.length_append]
  omega
end
end Go.Pl
namespace Go.Pl
open Go.RowKit
open Enc (enc dec is)
open EncL (encL decL isL)
theorem AC: ∀ (l o:List Str),(l.foldl Y1 o).length<=o.length+l.length
 | [],o=>by simp
 | a::l,o=>by have:=AC l (Y1 o a);have:=Jb o a;rw[List.foldl_cons,List.length_cons];omega
theorem b0q{N:Nat}{t:Tm}{b g:List Str}(hw:tW t=true)(hd:ZM t<N)(h1:b.length+ZM t<=1048576)(h2:g.length+Zr t<=1048576):X8 N [(.pv (BO t)),(.map 0),(.map 1)] [(.map (Z6 b)),(.map (Z6 g))]=true:=by
 rw[Tp]
 simp only[X8,VQ,Enc.dec_enc,hw,VH,decide_eq_true hd,decide_eq_true h1,decide_eq_true h2,Bool.true_and,Bool.and_true,Bool.and_eq_true]
 exact⟨@decide_eq_true _ (_) trivial,@decide_eq_true _ (_) trivial⟩
theorem b0w(N:Nat)(n:Nd)(ks:List Tm)(b:List Str)(hw:tW (.mk n ks)=true)(hd:ZU ks<N)(hb:b.length+ZU ks+1<=1048576)(R:List Str): ∀ (d i:Nat) (g:List Str),d+i=ks.length->g.length+Zk (ks.drop i)<=1048576->R=(Wi b (We n ks.length) n.name i (ks.drop i)).foldl Y1 g ->
  At (VD N) 2 (Yc 2 XJ fun r=>r=(.tup [],[.map (Z6 b),.map (Z6 R)],[])) XB 0 54 [(1,.map 0),(2,.map 1),(3,.ptr 2 0),(23,.pv (enc ks)),(24,.pv (.int .i64 (ks.map (enc:Tm->PV)).length)),(25,.pv (.int .i64 i))] [.obj (.map (Z6 b)),.obj (.map (Z6 g)),.obj (.box (Yb n ks))]:=by
 intro d
 induction d with
 | zero=>
  intro i g hi hg hR
  rw[List.drop_eq_nil_of_le (by omega),Wi]at hR
  exact b3i N n ks b g i (XW (Vu (by omega)) (by rw[hR];rfl))
 | succ d ih=>
  intro i g hi hg hR
  have h1:i<ks.length:=by omega
  have hkl:=(Yj hw).1
  have hwk:=(Yj hw).2 _ (List.getElem_mem h1)
  have hdk:=AU (List.getElem_mem h1)
  rw[List.drop_eq_getElem_cons h1,Zk]at hg
  rw[List.drop_eq_getElem_cons h1,Wi,List.foldl_append]at hR
  have go : ∀ bd:List Str,(XF bd ks[i]=XF (if (We n ks.length&&decide (i=1))=true then n.name::b else b) ks[i])->At (VD N) 2 (Yc 2 XJ fun r=>r=(.tup [],[.map (Z6 b),.map (Z6 R)],[])) XB 0 54 [(1,.map 0),(2,.map 1),(3,.ptr 2 0),(23,.pv (enc ks)),(24,.pv (.int .i64 (ks.map (enc:Tm->PV)).length)),(25,.pv (.int .i64 (IntKind.i64.wrap ((i:Int)+1))))] [.obj (.map (Z6 b)),.obj (.map (Z6 ((XF bd ks[i]).foldl Y1 g))),.obj (.box (Yb n ks))]:=fun bd e=>by
   rw[next (by omega),e]
   refine ih (i+1) _ (by omega) ?_ hR
   have l1:=AC (XF (if (We n ks.length&&decide (i=1))=true then n.name::b else b) ks[i]) g
   have l2:=Jl (if (We n ks.length&&decide (i=1))=true then n.name::b else b) ks[i]
   omega
  have plain:(We n ks.length&&decide (i=1))=false->X8 N [(.pv (BO ks[i])),(.map 0),(.map 1)] [(.map (Z6 b)),(.map (Z6 g))]=true∧At (VD N) 2 (Yc 2 XJ fun r=>r=(.tup [],[.map (Z6 b),.map (Z6 R)],[])) XB 0 54 [(1,.map 0),(2,.map 1),(3,.ptr 2 0),(23,.pv (enc ks)),(24,.pv (.int .i64 (ks.map (enc:Tm->PV)).length)),(25,.pv (.int .i64 (IntKind.i64.wrap ((i:Int)+1))))] [.obj (.map (Z6 b)),.obj (.map (Z6 (List.foldl Y1 (YH (Z6 g)) (XF (YH (Z6 b)) (dec (agS ks[i])))))),.obj (.box (Yb n ks))]:=fun e=>
   ⟨b0q hwk (by omega) (by omega) (by omega),by rw[VH,VH,b2u,Enc.dec_enc];exact go b (by rw[e];rfl)⟩
  refine b3i N n ks b g i (XH (WR h1) ⟨ZQ h1 rfl,Yf h1 ⟨WM _,VK (fun k5=>VK (fun k2=>VK (fun k1=> ?_) fun k1=> ?_) fun k2=> ?_) fun k5=> ?_⟩⟩)
  ·have e2:ks.length=2:=by rw[List.length_map]at k2;omega
   have e1:i=1:=by omega
   have el:(We n ks.length&&decide (i=1))=true:=by unfold We;rw[decide_eq_true k5,decide_eq_true e2,decide_eq_true e1];rfl
   have hu:XZ (enc n.name) (.bool true) (Z6 b)=Z6 (Y1 b n.name):=(Gc b n.name).2
   have:=Jb b n.name
   refine⟨(Gc b n.name).1,?_⟩
   rw[hu,VH,VH,b2u,Enc.dec_enc]
   exact⟨b0q hwk (by omega) (by omega) (by omega),go (Y1 b n.name) (Ph (fun x=>by rw[el];simp[CS,or_comm]) _)⟩
  ·exact plain (by rw[decide_eq_false (show ¬ i=1 by omega),Bool.and_false])
  ·exact plain (by unfold We;rw[decide_eq_false (show ¬ ks.length=2 by rw[List.length_map]at k2;omega)];simp)
  ·exact plain (by unfold We;rw[decide_eq_false k5];simp)
theorem b4x(b:List Str)(s:Str):Vq (enc s) (Z6 b)=true∧YC (enc s) (PV.bool false) (Z6 b) = .bool (decide (s∈b)):=by
 have key:J8 (enc s) (Z6 b)=some (if s∈b then some (PV.bool true)else none):=by
  induction b with
  | nil=>rfl
  | cons a b ih=>
   show(match Qr (enc s) (PV.str a.s)with|some true=>some (some (PV.bool true))|some false=>J8 (enc s) (Z6 b)|none=>none)=_
   have e:Qr (enc s:PV) (PV.str a.s)=some (s.s==a.s):=rfl
   rw[e]
   by_cases h:s=a
   ·subst h;simp
   ·have:(s.s==a.s)=false:=by
     rw[beq_eq_false_iff_ne]
     intro e;apply h;cases a;cases s;simp at e;rw[e]
    rw[this]
    show J8 (enc s) (Z6 b)=_
    rw[ih]
    simp[h]
 unfold Vq YC
 rw[key]
 by_cases h:s∈b
 ·simp[h]
 ·simp[h]
theorem c0j(N:Nat): ∀ args os,X8 (N+1) args os=true->Zd (VD N) os.length (Yc os.length XJ fun r=>r=Gd args os) XB [] (XQ c7a args os):=by
 intro args os hp
 unfold X8 at hp
 split at hp
 ·rename_i p es fs
  simp only[Bool.and_eq_true,decide_eq_true_eq]at hp
  obtain⟨h1,hw,h3,h4,h5,h6,h7⟩:=hp
  obtain⟨⟨n,ks⟩,rfl⟩:=RU h1
  rw[Enc.dec_enc]at hw h3 h6 h7
  generalize YH es=b at h4 h6
  generalize YH fs=g at h5 h7
  subst h4 h5
  rw[ZM]at h3 h6
  rw[Zr]at h7
  have key : ∀ g':List Str,g'.length+Zk ks<=1048576->(XF b (.mk n ks)).foldl Y1 g=(Wi b (We n ks.length) n.name 0 ks).foldl Y1 g'->At (VD N) 2 (Yc 2 XJ fun r=>r=(.tup [],[.map (Z6 b),.map (Z6 ((XF b (.mk n ks)).foldl Y1 g))],[])) XB 0 54 [(1,.map 0),(2,.map 1),(3,.ptr 2 0),(23,.pv (enc ks)),(24,.pv (.int .i64 (ks.map (enc:Tm->PV)).length)),(25,.pv (.int .i64 0))] [.obj (.map (Z6 b)),.obj (.map (Z6 g')),.obj (.box (Yb n ks))]:=fun g' l e=>
   b0w N n ks b hw (by omega) (by omega) _ ks.length 0 g' (by omega) (by simpa using l) (by rw[e];rfl)
  have e:Gd [.pv (enc (Tm.mk n ks)),.map 0,.map 1] [.map (Z6 b),.map (Z6 g)]=(.tup [],[.map (Z6 b),.map (Z6 ((XF b (.mk n ks)).foldl Y1 g))],[]):=by
   simp only[Gd,Enc.dec_enc,VH]
  rw[e,Zy]
  refine d0g N n ks b g (VK (fun k=> ?_) fun k=>key g (by omega) (by rw[XF,if_neg (fun h=>k h.1)];rfl))
  obtain⟨l1,l2⟩:=b4x b n.name
  rw[l1,l2]
  refine⟨rfl,Ve (fun k2=> ?_) fun k2=> ?_⟩
  ·have k2:n.name ∉ b:=of_decide_eq_false k2
   have hu:XZ (enc n.name) (.bool true) (Z6 g)=Z6 (Y1 g n.name):=(Gc g n.name).2
   refine⟨(Gc g n.name).1,?_⟩
   rw[hu]
   refine key (Y1 g n.name) (by have:=Jb g n.name;omega) ?_
   rw[XF,if_pos ⟨k,k2⟩];rfl
  ·have k2:n.name∈b:=of_decide_eq_true k2
   exact key g (by omega) (by rw[XF,if_neg (fun h=>h.2 k2)];rfl)
 ·cases hp
noncomputable def Vg:List AV->List AObj->Bool
 | [.pv p,.map 0,.map 1],[.map es,.map fs]=>OI Tm p&&(tW (dec p)&&(@decide (es=Z6 (YH es)) (Classical.propDecidable _)&&(@decide (fs=Z6 (YH fs)) (Classical.propDecidable _)&&(decide ((YH es).length+ZM (dec p:Tm)<=1048576)&&decide ((YH fs).length+Zr (dec p:Tm)<=1048576)))))
 | _,_=>false
def a4q:List AV->List AObj->Nat
 | [.pv p,_,_],_=>ZM (dec p:Tm)
 | _,_=>0
theorem c9h{N:Nat}{args:List AV}{os:List AObj}(h:(Vg args os&&decide (a4q args os<N))=true):X8 N args os=true:=by
 rw[Bool.and_eq_true]at h
 obtain⟨h1,h2⟩:=h
 unfold Vg at h1
 split at h1
 ·simp only[Bool.and_eq_true]at h1
  obtain⟨q1,q2,q3,q4,q5,q6⟩:=h1
  simp only[X8,Bool.and_eq_true]
  exact⟨q1,q2,h2,q3,q4,q5,q6⟩
 ·cases h1
theorem d0b{N:Nat}{args:List AV}{os:List AObj}(h:X8 N args os=true):(Vg args os&&decide (a4q args os<N))=true:=by
 unfold X8 at h
 split at h
 ·simp only[Bool.and_eq_true]at h
  obtain⟨q1,q2,q3,q4,q5,q6,q7⟩:=h
  rw[Bool.and_eq_true]
  refine⟨?_,q3⟩
  simp only[Vg,Bool.and_eq_true]
  exact⟨q1,q2,q4,q5,q6,q7⟩
 ·cases h
theorem c6e{t:Tm}{b g:List Str}(hw:tW t=true)(h1:b.length+ZM t<=1048576)(h2:g.length+Zr t<=1048576):Vg [(.pv (enc t)),(.map 0),(.map 1)] [(.map (Z6 b)),(.map (Z6 g))]=true:=by
 simp only[Vg,VQ,Enc.dec_enc,hw,VH,decide_eq_true h1,decide_eq_true h2,Bool.true_and,Bool.and_true,Bool.and_eq_true]
 exact⟨@decide_eq_true _ (_) trivial,@decide_eq_true _ (_) trivial⟩
end Go.Pl
namespace Go.Pl
open Go.RowKit
open Enc (enc dec is)
open EncL (encL decL isL)
set_option maxRecDepth 100000
noncomputable def a8i:IC:=Wo Proofs.Tryz.f20
def b3e:List IRes:=[(.tmp 2)]
abbrev c7x:Nat:=12
noncomputable def c1s:Zz:=YG [(55,.own Vg Gd),(57,.own UQ (QL 79)),(56,.own (WQ 79) VZ)]
theorem d1g{G:PV->Prop}(n:Nd)(ks:List Tm)(h:(Vg [(.pv (.agg [(.int .i64 (Nd.kind n)),(.int .i64 (Nd.line n)),(.str (Str.s (Nd.name n))),(.int .i64 (Nd.num n)),(.str (Str.s (Nd.elem n))),(.sl 1 false (List.map enc (Nd.dims n))),(.sl 1 false (List.map enc (Nd.data n))),(.sl 2 false (List.map enc (Nd.sizes n))),(.sl 1 false (List.map enc (Nd.ranks n))),(.sl 10 false (List.map enc ks))])),(.map 0),(.map 1)] [(.map []),(.map [])])=true∧((WQ 79 [(.fn 79 [] [(.ptr 0 0)])] [(.box [(.map 1)]),(.map (Z6 (List.foldl Y1 (YH []) (XF (YH []) (dec (PV.agg [enc (Nd.kind n),enc (Nd.line n),enc (Nd.name n),enc (Nd.num n),enc (Nd.elem n),enc (Nd.dims n),enc (Nd.data n),enc (Nd.sizes n),enc (Nd.ranks n),enc ks]))))))])=true∧(G ((.sl 1 false (List.map PV.str (YU (List.map WX (Z6 (List.foldl Y1 (YH []) (XF (YH []) (dec (PV.agg [enc (Nd.kind n),enc (Nd.line n),enc (Nd.name n),enc (Nd.num n),enc (Nd.elem n),enc (Nd.dims n),enc (Nd.data n),enc (Nd.sizes n),enc (Nd.ranks n),enc ks]))))))))))))):Zd c1s 0 (Zb b3e G) a8i [] (Ya 12 [.agg [enc n.kind,enc n.line,enc n.name,enc n.num,enc n.elem,enc n.dims,enc n.data,enc n.sizes,enc n.ranks,enc ks]]):=Zd.tp (dm [] 8 0x313231) h
end Go.Pl
namespace Go.Pl
open Go.RowKit
open Enc (enc dec is)
open EncL (encL decL isL)
mutual
theorem a7g: ∀ (b:List Str) (t:Tm) (s:Str),s∈XF b t->s.s.length<=Dn t
 | b,.mk n ks,s,h=>by
  rw[XF]at h
  rw[Dn]
  rcases List.mem_append.1 h with h|h
  ·split at h
   ·have:s=n.name:=by simpa using h
    subst this
    unfold wNd;omega
   ·cases h
  ·have:=O9 b (We n ks.length) n.name 0 ks s h;omega
theorem O9: ∀ (b:List Str) (l:Bool) (x:Str) (i:Nat) (ks:List Tm) (s:Str),s∈Wi b l x i ks->s.s.length<=WZ ks
 | b,l,x,i,[],s,h=>by rw[Wi]at h;cases h
 | b,l,x,i,k::ks,s,h=>by
  rw[Wi]at h
  rw[WZ]
  rcases List.mem_append.1 h with h|h
  ·have:=a7g _ k s h;omega
  ·have:=O9 b l x (i+1) ks s h;omega
end
theorem b1o{l:List Str}(h1 : ∀ s∈l,s.s.length<=1048576)(h2:l.length<=1048576):QP (Z6 (Wn l))=true:=by
 have h3:(Z6 (Wn l)).all c3f=true:=by
  rw[List.all_eq_true]
  intro x hx
  obtain⟨s,hs,rfl⟩:=List.mem_map.1 hx
  rcases (AL l [] s).1 hs with h|h
  ·cases h
  ·exact decide_eq_true (h1 s h)
 have h4:((Z6 (Wn l)).map WX).Nodup:=by
  have e:(Z6 (Wn l)).map WX=(Wn l).map (·.s):=by unfold Z6;rw[List.map_map];rfl
  rw[e]
  have:=QE l [] (by simp)
  refine List.Pairwise.map _ (fun a b hab=> ?_) this
  intro he;apply hab;cases a;cases b;simp at he;rw[he]
 have h5:(Z6 (Wn l)).length<=1048576:=by
  have:=Hw l []
  unfold Z6
  rw[List.length_map]
  have e:Wn l=l.foldl Y1 []:=rfl
  rw[e]
  simp at this
  omega
 unfold QP
 rw[h3,decide_eq_true h4,decide_eq_true h5];rfl
theorem MG(l:List Str):(PV.sl 1 false (List.map PV.str (YU (List.map WX (Z6 (Wn l))))))=enc (Qz l):=by
 have e:(Z6 (Wn l)).map WX=(Wn l).map (·.s):=by unfold Z6;rw[List.map_map];rfl
 rw[e]
 unfold Qz
 show _=PV.sl 1 false (List.map enc (List.map Str.mk _))
 rw[List.map_map]
 rfl
theorem b6m: ∀ x:Tm×Unit,tW x.1=true->Zd c1s 0 (Zb b3e (Zo (XX x.1))) a8i [] (Ya c7x (encL x)):=by
 rintro⟨⟨n,ks⟩,⟨⟩⟩ hw
 rw[show encL ((Tm.mk n ks,()):Tm×Unit)=[PV.agg [enc n.kind,enc n.line,enc n.name,enc n.num,enc n.elem,enc n.dims,enc n.data,enc n.sizes,enc n.ranks,enc ks]]from by
  show [enc (Tm.mk n ks)]=_
  rw[Zy]]
 have hw:tW (.mk n ks)=true:=hw
 refine d1g n ks ?_
 have hs:=Va hw
 have hW:=of_decide_eq_true hw
 have hd:ZM (.mk n ks)<=1048576:=Nat.le_trans (BF _) hs
 have e:(dec (PV.agg [enc (Nd.kind n),enc (Nd.line n),enc (Nd.name n),enc (Nd.num n),enc (Nd.elem n),enc (Nd.dims n),enc (Nd.data n),enc (Nd.sizes n),enc (Nd.ranks n),enc ks]):Tm) = .mk n ks:=by rw[<- Zy,Enc.dec_enc]
 rw[e]
 refine⟨?_,?_,?_⟩
 ·have:=c6e (t:=.mk n ks) (b:=[]) (g:=[]) hw (by simpa using hd) (by simpa using hs)
  rw[Zy]at this
  exact this
 ·show(79==79&&QP (Z6 (Wn (XF [] (.mk n ks)))))=true
  rw[b1o (fun s h=>by have:=a7g _ _ s h;omega) (by have:=Jl [] (.mk n ks);omega)]
  simp
 ·show Zo _ (PV.sl 1 false (List.map PV.str (YU (List.map WX (Z6 (Wn (XF [] (.mk n ks))))))))
  rw[MG]
  exact K5 rfl
end Go.Pl
namespace Go.Pl
open Go.RowKit
open Enc (enc dec is)
open EncL (encL decL isL)
structure TS where
 n:Nd
 k:List Tm
def TS.t(x:TS):Tm:=.mk x.n x.k
def Qf(t:Tm):TS:=⟨t.nd,t.ks⟩
theorem d1y(t:Tm):(Qf t).t=t:=by cases t;rfl
instance:Enc TS where
 sz:=10
 enc x:=.agg [enc x.n.kind,enc x.n.line,enc x.n.name,enc x.n.num,enc x.n.elem,enc x.n.dims,enc x.n.data,enc x.n.sizes,enc x.n.ranks,enc x.k]
 dec | .agg [a,b,c,d,e,f,g,h,i,k]=>⟨⟨dec a,dec b,dec c,dec d,dec e,dec f,dec g,dec h,dec i⟩,dec k⟩|_=>⟨nd0,[]⟩
 is | .agg [a,b,c,d,e,f,g,h,i,k]=>is Int a&&is Int b&&is Str c&&is Int d&&is Str e&&is (List Int) f&&is (List Int) g&&is (List Lin) h&&is (List Int) i&&is (List Tm) k|_=>false
 is_enc v:=by simp
 dec_enc v:=by simp
 sub p h:=by
  cases p with
  | agg xs=>
   match xs,h with
   | [a,b,c,d,e,f,g,h',i,k],h=>
    simp only[Bool.and_eq_true]at h
    obtain⟨⟨⟨⟨⟨⟨⟨⟨⟨h1,h2⟩,h3⟩,h4⟩,h5⟩,h6⟩,h7⟩,h8⟩,h9⟩,h10⟩:=h
    exact .agg (.cons (Enc.sub a h1).2 (.cons (Enc.sub b h2).2 (.cons (Enc.sub c h3).2 (.cons (Enc.sub d h4).2 (.cons (Enc.sub e h5).2 (.cons (Enc.sub f h6).2 (.cons (Enc.sub g h7).2 (.cons (Enc.sub h' h8).2 (.cons (Enc.sub i h9).2 (.cons (Enc.sub k h10).2 .nil))))))))))
  | _=>cases h
theorem Gj(t:Tm):(enc (Qf t):PV)=enc t:=by
 obtain⟨n,ks⟩:=t
 rw[Zy]
 rfl
end Go.Pl
namespace Go.Pl
open Go.RowKit
open Enc (enc dec is)
open EncL (encL decL isL)
set_option maxRecDepth 100000
noncomputable def JV:IC:=Wo Proofs.Tryz.f61
def Hd:List IRes:=[(.tmp 4)]
abbrev c7l:Nat:=26
noncomputable def SB:Zz:=YG []
theorem c8l{G:PV->Prop}(a b:List Int)(h:if ((↑(List.length (List.map enc a)):Int) != (↑(List.length (List.map enc b)):Int))=true then G ((.bool false))else(At SB 0 (Zb Hd G) JV 0 26 [(0,(.pv (.sl 1 false (List.map enc a)))),(1,(.pv (.sl 1 false (List.map enc b)))),(12,(.pv (.int .i64 (↑(List.length (List.map enc a)):Int)))),(13,(.pv (.int .i64 0)))] [])):Zd SB 0 (Zb Hd G) JV [] (Ya 26 [enc a,enc b]):=Zd.tp (dm [] 8 0x142) h
theorem b3k{G:PV->Prop}(a b:List Int)(i:Int)(h:if (decide (i<(↑(List.length (List.map enc a)):Int)))=true then(decide (0<=i)&&decide (Int.toNat i<List.length (List.map enc a))&&Enc.sz Int==1)=true∧(∃ y0:Int,AV.pv (PV.rptr (PV.cells (List.getD (List.map enc a) (Int.toNat i) default)))=AV.pv (PV.rptr (PV.cells ((enc) y0)))∧((decide (0<=i)&&decide (Int.toNat i<List.length (List.map enc b))&&Enc.sz Int==1)=true∧(∃ y1:Int,AV.pv (PV.rptr (PV.cells (List.getD (List.map enc b) (Int.toNat i) default)))=AV.pv (PV.rptr (PV.cells ((enc) y1)))∧(if (PV.asInt (List.getD (PV.cells (enc y0)) 0 default) != PV.asInt (List.getD (PV.cells (enc y1)) 0 default))=true then G ((.bool false))else(At SB 0 (Zb Hd G) JV 0 26 [(0,(.pv (.sl 1 false (List.map enc a)))),(1,(.pv (.sl 1 false (List.map enc b)))),(12,(.pv (.int .i64 (↑(List.length (List.map enc a)):Int)))),(13,(.pv (.int .i64 (IntKind.wrap IntKind.i64 (i+1)))))] [])))))else(G ((.bool true)))):At SB 0 (Zb Hd G) JV 0 26 [(13,.pv (.int .i64 i)),(12,.pv (.int .i64 (a.map (enc:Int->PV)).length)),(0,.pv (enc a)),(1,.pv (enc b))] []:=At.tp (dm [dr Int] 21 0x200014225125100e42) h
noncomputable def Hy:IC:=Wo Proofs.Tryz.f62
def Ho:List IRes:=[(.tmp 6)]
abbrev c6d:Nat:=32
noncomputable def SI:Zz:=YG [(63,.pure (preT (fun x:Lin×Lin×Unit=>Z5 x.1&&Z5 x.2.1)) (Zj (fun x:Lin×Lin×Unit=>decide (x.1=x.2.1))))]
theorem d0l{G:PV->Prop}(a b:List Lin)(h:if ((↑(List.length (List.map enc a)):Int) != (↑(List.length (List.map enc b)):Int))=true then G ((.bool false))else(At SI 0 (Zb Ho G) Hy 0 32 [(1,(.pv (.sl 2 false (List.map enc b)))),(2,(.pv (.fn 63))),(15,(.pv (.sl 2 false (List.map enc a)))),(16,(.pv (.int .i64 (↑(List.length (List.map enc a)):Int)))),(17,(.pv (.int .i64 0)))] [])):Zd SI 0 (Zb Ho G) Hy [] (Ya 32 [enc a,enc b,.fn 63]):=Zd.tp (dm [] 8 0x142) h
theorem b0i{G:PV->Prop}(a b:List Lin)(i:Int)(h:if (decide (i<(↑(List.length (List.map enc a)):Int)))=true then(decide (0<=i)&&decide (Int.toNat i<List.length (List.map enc a))&&Enc.sz Lin==2)=true∧(∃ y0:Lin,AV.pv (PV.rptr (PV.cells (List.getD (List.map enc a) (Int.toNat i) default)))=AV.pv (PV.rptr (PV.cells ((enc) y0)))∧((decide (0<=i)&&decide (Int.toNat i<List.length (List.map enc b))&&Enc.sz Lin==2)=true∧(∃ y1:Lin,AV.pv (PV.rptr (PV.cells (List.getD (List.map enc b) (Int.toNat i) default)))=AV.pv (PV.rptr (PV.cells ((enc) y1)))∧((Go.Pl.preT (fun(x:Lin×Lin×Unit)=>Z5 x.1&&Z5 x.2.1) [(.agg [(.int .i64 (PV.asInt (List.getD (PV.cells (enc y0)) 0 default))),(.sl 2 false (PV.asXs (List.getD (PV.cells (enc y0)) (0+1) default)))]),(.agg [(.int .i64 (PV.asInt (List.getD (PV.cells (enc y1)) 0 default))),(.sl 2 false (PV.asXs (List.getD (PV.cells (enc y1)) (0+1) default)))])])=true∧(∃ y2:Bool,AV.pv (Zj (fun(x:Lin×Lin×Unit)=>decide (x.1=x.2.1)) [(.agg [(.int .i64 (PV.asInt (List.getD (PV.cells (enc y0)) 0 default))),(.sl 2 false (PV.asXs (List.getD (PV.cells (enc y0)) (0+1) default)))]),(.agg [(.int .i64 (PV.asInt (List.getD (PV.cells (enc y1)) 0 default))),(.sl 2 false (PV.asXs (List.getD (PV.cells (enc y1)) (0+1) default)))])])=AV.pv (enc y2)∧(if (!y2)=true then G ((.bool false))else(At SI 0 (Zb Ho G) Hy 0 32 [(1,(.pv (.sl 2 false (List.map enc b)))),(2,(.pv (.fn 63))),(15,(.pv (.sl 2 false (List.map enc a)))),(16,(.pv (.int .i64 (↑(List.length (List.map enc a)):Int)))),(17,(.pv (.int .i64 (IntKind.wrap IntKind.i64 (i+1)))))] [])))))))else(G ((.bool true)))):At SI 0 (Zb Ho G) Hy 0 32 [(17,.pv (.int .i64 i)),(16,.pv (.int .i64 (a.map (enc:Lin->PV)).length)),(15,.pv (enc a)),(1,.pv (enc b)),(2,.pv (.fn 63))] []:=At.tp (dm [dr Lin,dv Bool] 22 0x2000146125125100f42) h
noncomputable def Gp:IC:=Wo Proofs.Tryz.f64
def Hu:List IRes:=[(.tmp 6)]
abbrev c7r:Nat:=32
noncomputable def Ao(N:Nat):Zz:=YG [(24,.pure (preT (fun x:Tm×Tm×Unit=>(tW x.1&&tW x.2.1)&&decide (ZM x.1<N))) (Zj (fun x:Tm×Tm×Unit=>KC x.1 x.2.1)))]
theorem d0z{G:PV->Prop}(N:Nat)(a b:List Tm)(h:if ((↑(List.length (List.map enc a)):Int) != (↑(List.length (List.map enc b)):Int))=true then G ((.bool false))else(At (Ao N) 0 (Zb Hu G) Gp 0 32 [(1,(.pv (.sl 10 false (List.map enc b)))),(2,(.pv (.fn 24))),(15,(.pv (.sl 10 false (List.map enc a)))),(16,(.pv (.int .i64 (↑(List.length (List.map enc a)):Int)))),(17,(.pv (.int .i64 0)))] [])):Zd (Ao N) 0 (Zb Hu G) Gp [] (Ya 32 [enc a,enc b,.fn 24]):=Zd.tp (dm [] 8 0x142) h
theorem b3q{G:PV->Prop}(N:Nat)(a b:List Tm)(i:Int)(h:if (decide (i<(↑(List.length (List.map enc a)):Int)))=true then(decide (0<=i)&&decide (Int.toNat i<List.length (List.map enc a))&&Enc.sz Tm==10)=true∧(∃ y0:Tm,AV.pv (PV.rptr (PV.cells (List.getD (List.map enc a) (Int.toNat i) default)))=AV.pv (PV.rptr (PV.cells ((enc) y0)))∧(shT y0=true∧((decide (0<=i)&&decide (Int.toNat i<List.length (List.map enc b))&&Enc.sz Tm==10)=true∧(∃ y1:Tm,AV.pv (PV.rptr (PV.cells (List.getD (List.map enc b) (Int.toNat i) default)))=AV.pv (PV.rptr (PV.cells ((enc) y1)))∧(shT y1=true∧((Go.Pl.preT (fun(x:Tm×Tm×Unit)=>tW x.1&&tW x.2.1&&decide (ZM x.1<N)) [BO y0,BO y1])=true∧(∃ y2:Bool,AV.pv (Zj (fun(x:Tm×Tm×Unit)=>KC x.1 x.2.1) [BO y0,BO y1])=AV.pv (enc y2)∧(if (!y2)=true then G ((.bool false))else(At (Ao N) 0 (Zb Hu G) Gp 0 32 [(1,(.pv (.sl 10 false (List.map enc b)))),(2,(.pv (.fn 24))),(15,(.pv (.sl 10 false (List.map enc a)))),(16,(.pv (.int .i64 (↑(List.length (List.map enc a)):Int)))),(17,(.pv (.int .i64 (IntKind.wrap IntKind.i64 (i+1)))))] [])))))))))else(G ((.bool true)))):At (Ao N) 0 (Zb Hu G) Gp 0 32 [(17,.pv (.int .i64 i)),(16,.pv (.int .i64 (a.map (enc:Tm->PV)).length)),(15,.pv (enc a)),(1,.pv (enc b)),(2,.pv (.fn 24))] []:=At.tp (dm [dr Tm,dv Bool] 22 0x2000146115115100f42) h
noncomputable def b4m:IC:=Wo Proofs.Tryz.f24
def b1f:List IRes:=[(.tmp 4)]
abbrev c6m:Nat:=72
noncomputable def c2p(N:Nat):Zz:=YG [(61,.pure (preT (fun x:List Int×List Int×Unit=>Z0 x.1)) (Zj (fun x:List Int×List Int×Unit=>decide (x.1=x.2.1)))),(62,.pure (preT (fun x:List Lin×List Lin×FnV 63×Unit=>Z0 x.1&&x.1.all Z5&&x.2.1.all Z5)) (Zj (fun x:List Lin×List Lin×FnV 63×Unit=>decide (x.1=x.2.1)))),(64,.pure (preT (fun x:List Tm×List Tm×FnV 24×Unit=>(tsW x.1&&tsW x.2.1)&&decide (ZU x.1<N))) (Zj (fun x:List Tm×List Tm×FnV 24×Unit=>VM x.1 x.2.1)))]
theorem c9y{G:PV->Prop}(N:Nat)(n:Nd)(ks:List Tm)(m:Nd)(ls:List Tm)(h:if (Nd.kind n==Nd.kind m)=true then if (Str.s (Nd.name n)==Str.s (Nd.name m))=true then if (Nd.num n==Nd.num m)=true then if (Str.s (Nd.elem n)==Str.s (Nd.elem m))=true then(Go.Pl.preT (fun(x:List Int×List Int×Unit)=>Z0 x.1) [(.sl 1 false (List.map enc (Nd.dims n))),(.sl 1 false (List.map enc (Nd.dims m)))])=true∧(∃ y0:Bool,AV.pv (Zj (fun(x:List Int×List Int×Unit)=>decide (x.1=x.2.1)) [(.sl 1 false (List.map enc (Nd.dims n))),(.sl 1 false (List.map enc (Nd.dims m)))])=AV.pv (enc y0)∧(if (y0)=true then(Go.Pl.preT (fun(x:List Int×List Int×Unit)=>Z0 x.1) [(.sl 1 false (List.map enc (Nd.data n))),(.sl 1 false (List.map enc (Nd.data m)))])=true∧(∃ y1:Bool,AV.pv (Zj (fun(x:List Int×List Int×Unit)=>decide (x.1=x.2.1)) [(.sl 1 false (List.map enc (Nd.data n))),(.sl 1 false (List.map enc (Nd.data m)))])=AV.pv (enc y1)∧(if (y1)=true then(Go.Pl.preT (fun(x:List Lin×List Lin×FnV 63×Unit)=>Z0 x.1&&List.all x.1 Z5&&List.all x.2.1 Z5) [(.sl 2 false (List.map enc (Nd.sizes n))),(.sl 2 false (List.map enc (Nd.sizes m))),(.fn 63)])=true∧(∃ y2:Bool,AV.pv (Zj (fun(x:List Lin×List Lin×FnV 63×Unit)=>decide (x.1=x.2.1)) [(.sl 2 false (List.map enc (Nd.sizes n))),(.sl 2 false (List.map enc (Nd.sizes m))),(.fn 63)])=AV.pv (enc y2)∧(if (y2)=true then(Go.Pl.preT (fun(x:List Int×List Int×Unit)=>Z0 x.1) [(.sl 1 false (List.map enc (Nd.ranks n))),(.sl 1 false (List.map enc (Nd.ranks m)))])=true∧(∃ y3:Bool,AV.pv (Zj (fun(x:List Int×List Int×Unit)=>decide (x.1=x.2.1)) [(.sl 1 false (List.map enc (Nd.ranks n))),(.sl 1 false (List.map enc (Nd.ranks m)))])=AV.pv (enc y3)∧(if (y3)=true then(Go.Pl.preT (fun(x:List Tm×List Tm×FnV 24×Unit)=>tsW x.1&&tsW x.2.1&&decide (ZU x.1<N)) [(.sl 10 false (List.map enc ks)),(.sl 10 false (List.map enc ls)),(.fn 24)])=true∧(∃ y4:Bool,AV.pv (Zj (fun(x:List Tm×List Tm×FnV 24×Unit)=>VM x.1 x.2.1) [(.sl 10 false (List.map enc ks)),(.sl 10 false (List.map enc ls)),(.fn 24)])=AV.pv (enc y4)∧(G ((.bool y4))))else(G ((.bool false)))))else(G ((.bool false)))))else(G ((.bool false)))))else(G ((.bool false)))))else(G ((.bool false)))else(G ((.bool false)))else(G ((.bool false)))else(G ((.bool false)))):Zd (c2p N) 0 (Zb b1f G) b4m [] (Ya 72 [.agg [enc n.kind,enc n.line,enc n.name,enc n.num,enc n.elem,enc n.dims,enc n.data,enc n.sizes,enc n.ranks,enc ks],.agg [enc m.kind,enc m.line,enc m.name,enc m.num,enc m.elem,enc m.dims,enc m.data,enc m.sizes,enc m.ranks,enc ls]]):=Zd.tp (dm [dv Bool] 334 0x22222222222222222222222222222222222222222222222222222022222222222222222222222222222222222222222222222022222222222222222222222222222222222222222022222222222222222222222222222222202222222222222222222222222022222222222222222022222222222022222025122220084251222201942512222030425122222204f42512222220764222222220a442222220d8422222211242) h
noncomputable def b0k:IC:=Wo Proofs.Tryz.f18
def b0e:List IRes:=[(.tmp 4)]
abbrev c7i:Nat:=10
noncomputable def c3d:Zz:=YG [(30,.pure (preT (fun x:Tm×Unit=>tW x.1)) (Zj (fun x:Tm×Unit=>Y0 x.1))),(24,.pure (preT (fun x:Tm×Tm×Unit=>tW x.1&&tW x.2.1)) (Zj (fun x:Tm×Tm×Unit=>KC x.1 x.2.1)))]
theorem c8p{G:PV->Prop}(n:Nd)(ks:List Tm)(m:Nd)(ls:List Tm)(h:(Go.Pl.preT (fun(x:Tm×Unit)=>tW x.1) (Lf n ks))=true∧(∃ y0:Tm,AV.pv (Zj (fun(x:Tm×Unit)=>Y0 x.1) (Lf n ks))=AV.pv (enc y0)∧((Go.Pl.preT (fun(x:Tm×Unit)=>tW x.1) [(.agg [(.int .i64 (Nd.kind m)),(.int .i64 (Nd.line m)),(.str (Str.s (Nd.name m))),(.int .i64 (Nd.num m)),(.str (Str.s (Nd.elem m))),(.sl 1 false (List.map enc (Nd.dims m))),(.sl 1 false (List.map enc (Nd.data m))),(.sl 2 false (List.map enc (Nd.sizes m))),(.sl 1 false (List.map enc (Nd.ranks m))),(.sl 10 false (List.map enc ls))])])=true∧(∃ y1:Tm,AV.pv (Zj (fun(x:Tm×Unit)=>Y0 x.1) [(.agg [(.int .i64 (Nd.kind m)),(.int .i64 (Nd.line m)),(.str (Str.s (Nd.name m))),(.int .i64 (Nd.num m)),(.str (Str.s (Nd.elem m))),(.sl 1 false (List.map enc (Nd.dims m))),(.sl 1 false (List.map enc (Nd.data m))),(.sl 2 false (List.map enc (Nd.sizes m))),(.sl 1 false (List.map enc (Nd.ranks m))),(.sl 10 false (List.map enc ls))])])=AV.pv (enc y1)∧((Go.Pl.preT (fun(x:Tm×Tm×Unit)=>tW x.1&&tW x.2.1) [enc y0,enc y1])=true∧(∃ y2:Bool,AV.pv (Zj (fun(x:Tm×Tm×Unit)=>KC x.1 x.2.1) [enc y0,enc y1])=AV.pv (enc y2)∧(G ((.bool y2))))))))):Zd c3d 0 (Zb b0e G) b0k [] (Ya 10 [.agg [enc n.kind,enc n.line,enc n.name,enc n.num,enc n.elem,enc n.dims,enc n.data,enc n.sizes,enc n.ranks,enc ks],.agg [enc m.kind,enc m.line,enc m.name,enc m.num,enc m.elem,enc m.dims,enc m.data,enc m.sizes,enc m.ranks,enc ls]]):=Zd.tp (dm [dv Tm,dv Bool] 8 0x615151) h
end Go.Pl
namespace Go.Pl
open Go.RowKit
open Enc (enc dec is)
open EncL (encL decL isL)
theorem EN{α:Type}[BEq α][LawfulBEq α]{x y:α}{P Q:Prop}(h1:x=y->P)(h2:x≠y->Q):if (x==y)=true then P else Q:=by by_cases h:x=y;rw[if_pos (by simpa using h)];exact h1 h;rw[if_neg (by simpa using h)];exact h2 h
theorem b2b{l:Lin}(h:VJ l=true):Z5 l=true:=by unfold VJ at h;rw[Bool.and_eq_true]at h;exact h.1
theorem FT{ks:List Tm}{k:Tm}(h:k∈ks):ZM k<=ZU ks:=by
 induction ks with
 | nil=>cases h
 | cons a l ih=>
  rw[ZU]
  rcases List.mem_cons.1 h with rfl|h
  ·omega
  ·have:=ih h;omega
theorem a8d(a b:List Int)(ha:a.length<=9223372036854775807)(hab:a.length=b.length): ∀ (k i:Nat),k+i=a.length ->
  At SB 0 (Zb Hd (Zo (decide (a.drop i=b.drop i)))) JV 0 26 [(0,.pv (enc a)),(1,.pv (enc b)),(12,.pv (.int .i64 (a.map (enc:Int->PV)).length)),(13,.pv (.int .i64 i))] []:=by
 intro k
 induction k with
 | zero=>
  intro i hi
  rw[List.drop_of_length_le (by omega),List.drop_of_length_le (by omega)]
  exact b3k a b i (XW (Vu (by omega)) (ZC rfl))
 | succ k ih=>
  intro i hi
  have hlt:i<a.length:=by omega
  have hlt2:i<b.length:=by omega
  have h:=ih (i+1) (by omega)
  refine b3k a b i (XH (WR hlt) ⟨ZQ hlt rfl,Yf hlt ⟨ZQ hlt2 rfl,Yf hlt2 ?_⟩⟩)
  show if (a[i] != b[i])=true then _ else _
  refine FN (fun e=>ZC ?_) fun e=> ?_
  ·rw[List.drop_eq_getElem_cons hlt,List.drop_eq_getElem_cons hlt2,CO e]
  ·rw[next (by omega),List.drop_eq_getElem_cons hlt,List.drop_eq_getElem_cons hlt2,Ct e]
   exact h
theorem b6y: ∀ x:List Int×List Int×Unit,Z0 x.1=true->Zd SB 0 (Zb Hd (Zo (decide (x.1=x.2.1)))) JV [] (Ya c7l (encL x)):=by
 rintro⟨a,b,⟨⟩⟩ h
 have h:=of_decide_eq_true h
 refine c8l a b (Cn (fun e=>ZC (a9j e).symm) fun e=> ?_)
 exact(a8d a b h e a.length 0 (by omega))
theorem a8j(a b:List Lin)(ha:a.length<=9223372036854775807)(wa:a.all Z5=true)(wb:b.all Z5=true)(hab:a.length=b.length): ∀ (k i:Nat),k+i=a.length ->
  At SI 0 (Zb Ho (Zo (decide (a.drop i=b.drop i)))) Hy 0 32 [(1,.pv (enc b)),(2,.pv (.fn 63)),(15,.pv (enc a)),(16,.pv (.int .i64 (a.map (enc:Lin->PV)).length)),(17,.pv (.int .i64 i))] []:=by
 intro k
 induction k with
 | zero=>
  intro i hi
  rw[List.drop_of_length_le (by omega),List.drop_of_length_le (by omega)]
  exact b0i a b i (XW (Vu (by omega)) (ZC rfl))
 | succ k ih=>
  intro i hi
  have h1:i<a.length:=by omega
  have h2:i<b.length:=by omega
  have h:=ih (i+1) (by omega)
  have ga:Z5 a[i]=true:=List.all_eq_true.1 wa _ (List.getElem_mem h1)
  have gb:Z5 b[i]=true:=List.all_eq_true.1 wb _ (List.getElem_mem h2)
  refine b0i a b i (XH (WR h1) ⟨ZQ h1 rfl,Yf h1 ⟨ZQ h2 rfl,Yf h2 ⟨Ze (a[i],b[i],()) rfl (by show(Z5 _&&Z5 _)=true;rw[ga,gb];rfl),Zg (a[i],b[i],()) rfl (Ve (fun e=>ZC ?_) fun e=> ?_)⟩⟩⟩)
  ·rw[List.drop_eq_getElem_cons h1,List.drop_eq_getElem_cons h2,CO (of_decide_eq_false e)]
  ·rw[next (by omega),List.drop_eq_getElem_cons h1,List.drop_eq_getElem_cons h2,Ct (of_decide_eq_true e)]
   exact h
theorem b9e: ∀ x:List Lin×List Lin×FnV 63×Unit,(Z0 x.1&&x.1.all Z5&&x.2.1.all Z5)=true->Zd SI 0 (Zb Ho (Zo (decide (x.1=x.2.1)))) Hy [] (Ya c6d (encL x)):=by
 rintro⟨a,b,⟨⟩,⟨⟩⟩ h
 simp only[Bool.and_eq_true]at h
 obtain⟨⟨h,wa⟩,wb⟩:=h
 have h:=of_decide_eq_true h
 refine d0l a b (Cn (fun e=>ZC (a9j e).symm) fun e=> ?_)
 exact(a8j a b h wa wb e a.length 0 (by omega))
theorem Rw{ts:List Tm}(h:tsW ts=true):ts.length<=1048576∧ ∀ k∈ts,tW k=true:=by
 have h:WZ ts<=1048576:=of_decide_eq_true h
 exact⟨by have:=MI ts;omega,fun k hk=>decide_eq_true (Nat.le_trans (NS hk) h)⟩
theorem b0d(N:Nat)(a b:List Tm)(ha:a.length<=1048576)(wa : ∀ k∈a,tW k=true)(wb : ∀ k∈b,tW k=true)(hd:ZU a<N)(hab:a.length=b.length): ∀ (k i:Nat),k+i=a.length ->
  At (Ao N) 0 (Zb Hu (Zo (VM (a.drop i) (b.drop i)))) Gp 0 32 [(1,.pv (enc b)),(2,.pv (.fn 24)),(15,.pv (enc a)),(16,.pv (.int .i64 (a.map (enc:Tm->PV)).length)),(17,.pv (.int .i64 i))] []:=by
 intro k
 induction k with
 | zero=>
  intro i hi
  rw[List.drop_of_length_le (by omega),List.drop_of_length_le (by omega)]
  exact b3q N a b i (XW (Vu (by omega)) (ZC rfl))
 | succ k ih=>
  intro i hi
  have h1:i<a.length:=by omega
  have h2:i<b.length:=by omega
  have h:=ih (i+1) (by omega)
  have hk:=FT (List.getElem_mem h1)
  refine b3q N a b i (XH (WR h1) ⟨ZQ h1 rfl,Yf h1 ⟨WM _,ZQ h2 rfl,Yf h2 ⟨WM _,Ze (a[i],b[i],()) (a4k _ _) (by
   show(tW _&&tW _&&decide _)=true
   rw[wa _ (List.getElem_mem h1),wb _ (List.getElem_mem h2),decide_eq_true (show ZM a[i]<N by omega)];rfl),Zg (a[i],b[i],()) (a4k _ _) (Ve (fun e=>ZC ?_) fun e=> ?_)⟩⟩⟩)
  ·have e:KC a[i] b[i]=false:=e
   rw[List.drop_eq_getElem_cons h1,List.drop_eq_getElem_cons h2,VM,e];rfl
  ·have e:KC a[i] b[i]=true:=e
   rw[next (by omega),List.drop_eq_getElem_cons h1,List.drop_eq_getElem_cons h2,VM,e,Bool.true_and]
   exact h
theorem b5b(N:Nat): ∀ x:List Tm×List Tm×FnV 24×Unit,((tsW x.1&&tsW x.2.1)&&decide (ZU x.1<N))=true->Zd (Ao N) 0 (Zb Hu (Zo (VM x.1 x.2.1))) Gp [] (Ya c7r (encL x)):=by
 rintro⟨a,b,⟨⟩,⟨⟩⟩ h
 simp only[Bool.and_eq_true,decide_eq_true_eq]at h
 obtain⟨⟨wa,wb⟩,hd⟩:=h
 refine d0z N a b (Cn (fun e=>ZC (XM fun h=>e (Jc h))) fun e=> ?_)
 exact(b0d N a b (Rw wa).1 (Rw wa).2 (Rw wb).2 hd e a.length 0 (by omega))
theorem b4o{n:Nd}{ks:List Tm}(h:tW (.mk n ks)=true):tsW ks=true:=by
 have h:Dn (.mk n ks)<=1048576:=of_decide_eq_true h
 rw[Dn]at h
 exact decide_eq_true (by omega)
theorem OX{α:Type}{l:List α}(h:l.length<=1048576):Z0 l=true:=decide_eq_true (by omega)
theorem a0k{n:Nd}{ks:List Tm}(h:tW (.mk n ks)=true):n.sizes.all Z5=true:=List.all_eq_true.2 fun l hl=>b2b (MM h l hl)
theorem b6x(N:Nat): ∀ x:Tm×Tm×Unit,((tW x.1&&tW x.2.1)&&decide (ZM x.1<N+1))=true->Zd (c2p N) 0 (Zb b1f (Zo (KC x.1 x.2.1))) b4m [] (Ya c6m (encL x)):=by
 rintro⟨⟨n,ks⟩,⟨m,ls⟩,⟨⟩⟩ h
 simp only[Bool.and_eq_true,decide_eq_true_eq]at h
 obtain⟨⟨hw,hv⟩,hd⟩:=h
 have hd:ZM (.mk n ks)<N+1:=hd
 rw[ZM]at hd
 have hn:=Fe hw
 rw[<- a2w]
 refine c9y N n ks m ls (EN (fun k1=> ?_) fun k=>ZC (XM fun h=>k (Yi.1 h).1.1))
 refine EN (fun k2=> ?_) fun k=>ZC (XM fun h=>k (by rw[(Yi.1 h).1.2.1]))
 refine EN (fun k3=> ?_) fun k=>ZC (XM fun h=>k (Yi.1 h).1.2.2.1)
 refine EN (fun k4=> ?_) fun k=>ZC (XM fun h=>k (by rw[(Yi.1 h).1.2.2.2.1]))
 refine⟨Ze (n.dims,m.dims,()) rfl (OX hn.dims),Zg (n.dims,m.dims,()) rfl (Vf (fun k5=> ?_) fun k=>ZC (XM fun h=>of_decide_eq_false k (Yi.1 h).1.2.2.2.2.1))⟩
 refine⟨Ze (n.data,m.data,()) rfl (OX hn.data),Zg (n.data,m.data,()) rfl (Vf (fun k6=> ?_) fun k=>ZC (XM fun h=>of_decide_eq_false k (Yi.1 h).1.2.2.2.2.2.1))⟩
 have hs:(Z0 n.sizes&&n.sizes.all Z5&&m.sizes.all Z5)=true:=by rw[OX hn.sizes,a0k hw,a0k hv];rfl
 refine⟨Ze (α:=List Lin×List Lin×FnV 63×Unit) (n.sizes,m.sizes,⟨()⟩,()) rfl hs,Zg (α:=List Lin×List Lin×FnV 63×Unit) (n.sizes,m.sizes,⟨()⟩,()) rfl (Vf (fun k7=> ?_) fun k=>ZC (XM fun h=>of_decide_eq_false k (Yi.1 h).1.2.2.2.2.2.2.1))⟩
 refine⟨Ze (n.ranks,m.ranks,()) rfl (OX hn.ranks),Zg (n.ranks,m.ranks,()) rfl (Vf (fun k8=> ?_) fun k=>ZC (XM fun h=>of_decide_eq_false k (Yi.1 h).1.2.2.2.2.2.2.2))⟩
 have hk:(tsW ks&&tsW ls&&decide (ZU ks<N))=true:=by rw[b4o hw,b4o hv,decide_eq_true (show ZU ks<N by omega)];rfl
 refine⟨Ze (α:=List Tm×List Tm×FnV 24×Unit) (ks,ls,⟨()⟩,()) rfl hk,Zg (α:=List Tm×List Tm×FnV 24×Unit) (ks,ls,⟨()⟩,()) rfl (ZC ?_)⟩
 show VM ks ls=KC (.mk n ks) (.mk m ls)
 rw[Bool.eq_iff_iff,Yi]
 exact⟨fun h=>⟨⟨k1,stt k2,k3,stt k4,of_decide_eq_true k5,of_decide_eq_true k6,of_decide_eq_true k7,of_decide_eq_true k8⟩,h⟩,fun h=>h.2⟩
theorem c0h: ∀ x:Tm×Tm×Unit,(tW x.1&&tW x.2.1&&tW (Y0 x.1)&&tW (Y0 x.2.1))=true->Zd c3d 0 (Zb b0e (Zo (Rf x.1 x.2.1))) b0k [] (Ya c7i (encL x)):=by
 rintro⟨⟨n,ks⟩,⟨m,ls⟩,⟨⟩⟩ h
 simp only[Bool.and_eq_true]at h
 obtain⟨⟨⟨h1,h2⟩,h3⟩,h4⟩:=h
 rw[<- a2w]
 have e1:([ndC n ks]:List PV)=encL ((Tm.mk n ks,()):Tm×Unit):=by rw[Vz];rfl
 have e2:([ndC m ls]:List PV)=encL ((Tm.mk m ls,()):Tm×Unit):=by rw[Vz];rfl
 refine c8p n ks m ls ⟨Ze (.mk n ks,()) e1 h1,Zg (.mk n ks,()) e1 ⟨Ze (.mk m ls,()) e2 h2,Zg (.mk m ls,()) e2 ⟨Ze (Y0 (.mk n ks),Y0 (.mk m ls),()) rfl ?_,Zg (Y0 (.mk n ks),Y0 (.mk m ls),()) rfl (ZC rfl)⟩⟩⟩
 show(tW _&&tW _)=true
 rw[h3,h4];rfl
end Go.Pl
namespace Go.Pl
open Go.RowKit
open Enc (enc dec is)
open EncL (encL decL isL)
set_option maxRecDepth 100000
noncomputable def K7:IC:=icx Uv Proofs.Tryz.f21
def QI:List IRes:=[(.tmp 2)]
abbrev b5g:Nat:=11
noncomputable def UX:Zz:=YG [(58,.own Yq (Xa 80))]
theorem c4y{G:PV->Prop}(E:YP)(n:Nd)(ks:List Tm)(h:(Yq [(.pv (.agg [(.int .i64 (Nd.kind n)),(.int .i64 (Nd.line n)),(.str (Str.s (Nd.name n))),(.int .i64 (Nd.num n)),(.str (Str.s (Nd.elem n))),(.sl 1 false (List.map enc (Nd.dims n))),(.sl 1 false (List.map enc (Nd.data n))),(.sl 2 false (List.map enc (Nd.sizes n))),(.sl 1 false (List.map enc (Nd.ranks n))),(.sl 10 false (List.map enc ks))]))] [])=true∧(E 0 ⟨ZI 11 0 [(3,(.ptr 0 0)),(5,(.fn 80 [] [(.ptr 1 0)])),(8,.undef),(9,.undef)],[(.obj (.box [(.pv (.int .i64 0))])),(.obj (.box (Yb n ks)))]⟩ (fun x S'=>Qo UX E 0 (Zb QI G) K7 0 x S'))):Zw UX E 0 (Zb QI G) (.inl K7) [] (Ya 11 [.agg [enc n.kind,enc n.line,enc n.name,enc n.num,enc n.elem,enc n.dims,enc n.data,enc n.sizes,enc n.ranks,enc ks]]):=Zw.mp (.req (.keep (.nil))) h
theorem b7i{G:PV->Prop}(E:YP)(n:Nd)(ks:List Tm)(c:Int)(h:G ((.int .i64 c))):Qo UX E 0 (Zb QI G) K7 0 .normal ⟨ZI 11 0 [(3,.ptr 0 0)],[.obj (.box [.pv (.int .i64 c)])]⟩:=Zw.mp (.nil) h
def Jd:IC:=.skip
noncomputable def a8a:Zz:=YG [(58,.own Yq (Xa 80))]
theorem c0e{G:Zm->Prop}(E:YP)(n:Nd)(ks:List Tm)(c:Int)(v:Int)(h:E 99 ⟨ZI 11 0 [(3,(.ptr 0 0))],[(.obj (.box [(.pv (.int .i64 c))]))]⟩ (fun x S'=>Qo a8a E 1 (fun st=>G st.heap) Jd 99 x S')):Zw a8a E 1 (fun st=>G st.heap) (.inl Jd) [.seq (.ext 99 [3])] ⟨ZI 11 0 [(3,.ptr 0 0),(6,.pv (.agg [enc n.kind,enc n.line,enc n.name,enc n.num,enc n.elem,enc n.dims,enc n.data,enc n.sizes,enc n.ranks,enc ks])),(7,.pv (.int .i64 v))],[.obj (.box [.pv (.int .i64 c)])]⟩:=Zw.mh (.nil) h
def Jt:IC:=(.block 1 (.reg [ZB 8 (Dz [(.int .i64)] (.t 3)) 0,ZB 9 (Hl .add (.t 8) (U3 1)) 0,CL (.store 1 (.t 3) (.t 9)) 0] none))
noncomputable def a5m:Zz:=YG [(58,.own Yq (Xa 80))]
theorem b5x{G:Zm->Prop}(E:YP)(n:Nd)(ks:List Tm)(c:Int)(v:Int)(h:E 99 ⟨ZI 11 0 [],[(.obj (.box [(.pv (.int .i64 (IntKind.wrap IntKind.i64 (c+1))))]))]⟩ (fun x S'=>Qo a5m E 1 (fun st=>G st.heap) Jt 99 x S')):Zw a5m E 1 (fun st=>G st.heap) (.inl Jt) [.seq (.ext 99 [])] ⟨ZI 11 0 [(3,.ptr 0 0)],[.obj (.box [.pv (.int .i64 c)])]⟩:=Zw.mh (.lit (.nil)) h
noncomputable def Jy:IC:=icx Uv Proofs.Tryz.f32
def Q7:List IRes:=[(.tmp 2)]
abbrev b6l:Nat:=29
noncomputable def U7:Zz:=YG [(58,.own Yq (Xa 80)),(57,.own UQ (QL 79)),(56,.own (WQ 79) VZ)]
theorem c5b{G:PV->Prop}(E:YP)(n:Nd)(ks:List Tm)(h:(Yq [(.pv (.agg [(.int .i64 (Nd.kind n)),(.int .i64 (Nd.line n)),(.str (Str.s (Nd.name n))),(.int .i64 (Nd.num n)),(.str (Str.s (Nd.elem n))),(.sl 1 false (List.map enc (Nd.dims n))),(.sl 1 false (List.map enc (Nd.data n))),(.sl 2 false (List.map enc (Nd.sizes n))),(.sl 1 false (List.map enc (Nd.ranks n))),(.sl 10 false (List.map enc ks))]))] [])=true∧(E 0 ⟨ZI 29 0 [(3,(.ptr 0 0)),(4,.undef),(7,(.fn 80 [] [(.ptr 1 0)])),(8,.undef),(10,.undef),(11,.undef),(12,.undef),(13,.undef),(14,.undef),(15,.undef),(16,.undef),(17,.undef),(18,.undef),(19,.undef),(20,.undef),(21,.undef),(22,.undef),(23,.undef),(24,.undef),(25,.undef)],[(.obj (.box [(.map 2)])),(.obj (.box (Yb n ks))),(.obj (.map []))]⟩ (fun x S'=>Qo U7 E 0 (Zb Q7 G) Jy 0 x S'))):Zw U7 E 0 (Zb Q7 G) (.inl Jy) [] (Ya 29 [.agg [enc n.kind,enc n.line,enc n.name,enc n.num,enc n.elem,enc n.dims,enc n.data,enc n.sizes,enc n.ranks,enc ks]]):=Zw.mp (.req (.keep (.nil))) h
theorem b4z{G:PV->Prop}(E:YP)(n:Nd)(ks:List Tm)(m:List Str)(h:(WQ 79 [(.fn 79 [] [(.ptr 0 0)])] [(.box [(.map 1)]),(.map (Z6 m))])=true∧(G ((.sl 1 false (List.map PV.str (YU (List.map WX (Z6 m)))))))):Qo U7 E 0 (Zb Q7 G) Jy 0 .normal ⟨ZI 29 0 [(3,.ptr 0 0)],[.obj (.box [.map 1]),.obj (.map (Z6 m))]⟩:=Zw.mp (.lit (.keep (.req (.keep (.nil))))) h
def Jw:IC:=(.reg [ZB 4 (.alloc (.agg [(.int .i64 0),(.int .i64 0),(.str []),(.int .i64 0),(.str []),(.sl 0 true []),(.sl 0 true []),(.sl 0 true []),(.sl 0 true []),(.sl 0 true [])])) 0,CL (.store 10 (.t 4) (.t 8)) 1] none)
noncomputable def a4u:Zz:=YG [(58,.own Yq (Xa 80)),(57,.own UQ (QL 79)),(56,.own (WQ 79) VZ)]
theorem b9q{G:Zm->Prop}(E:YP)(n:Nd)(ks:List Tm)(m:List Str)(v:Int)(h:E 99 ⟨ZI 29 0 [(3,(.ptr 0 0)),(4,(.ptr 2 0))],[(.obj (.box [(.map 1)])),(.obj (.map (Z6 m))),(.obj (.box (Yb n ks)))]⟩ (fun x S'=>Qo a4u E 2 (fun st=>G st.heap) Jw 99 x S')):Zw a4u E 2 (fun st=>G st.heap) (.inl Jw) [.seq (.ext 99 [3,4])] ⟨ZI 29 0 [(3,.ptr 0 0),(8,.pv (.agg [enc n.kind,enc n.line,enc n.name,enc n.num,enc n.elem,enc n.dims,enc n.data,enc n.sizes,enc n.ranks,enc ks])),(9,.pv (.int .i64 v))],[.obj (.box [.map 1]),.obj (.map (Z6 m))]⟩:=Zw.mh (.nil) h
def VU:IC:=(.block 1 (WN [ZB 10 (.faddr 0 (.t 4)) 0,ZB 11 (Dz [(.int .i64)] (.t 10)) 0,ZB 12 (Hl .eql (.t 11) (U3 6)) 0,ZB 13 (Wj 12) 0,r'' 14 (.faddr 0 (.t 4)) 0 13,r'' 15 (Dz [(.int .i64)] (.t 14)) 0 13,r'' 16 (Hl .eql (.t 15) (U3 8)) 0 13,ZB 17 (.pick (.t 13) (.c (.bool true)) (.t 16)) 0,ZB 18 (Wj 17) 0,r'' 19 (.faddr 0 (.t 4)) 0 18,r'' 20 (Dz [(.int .i64)] (.t 19)) 0 18,r'' 21 (Hl .eql (.t 20) (U3 9)) 0 18,ZB 22 (.pick (.t 18) (.c (.bool true)) (.t 21)) 0] (.cond (.t 22) (.reg [ZB 23 (.load false [.any] (.t 3)) 0,ZB 24 (.faddr 2 (.t 4)) 0,ZB 25 (.load false [.str] (.t 24)) 0,CL (.mapupd true (.t 23) (.t 25) (.c (.bool true))) 0] none) .skip)))
noncomputable def Ch:Zz:=YG [(58,.own Yq (Xa 80)),(57,.own UQ (QL 79)),(56,.own (WQ 79) VZ)]
theorem c0n{G:Zm->Prop}(E:YP)(n:Nd)(ks:List Tm)(m:List Str)(v:Int)(h:if (Nd.kind n==6)=true then(V5 (enc (Nd.name n)) (PV.bool true) (Z6 m))=true∧(E 99 ⟨ZI 29 0 [],[(.obj (.box [(.map 1)])),(.obj (.map (XZ (enc (Nd.name n)) (PV.bool true) (Z6 m)))),(.obj (.box (Yb n ks)))]⟩ (fun x S'=>Qo Ch E 3 (fun st=>G st.heap) VU 99 x S'))else(if (Nd.kind n==8)=true then(V5 (enc (Nd.name n)) (PV.bool true) (Z6 m))=true∧(E 99 ⟨ZI 29 0 [],[(.obj (.box [(.map 1)])),(.obj (.map (XZ (enc (Nd.name n)) (PV.bool true) (Z6 m)))),(.obj (.box (Yb n ks)))]⟩ (fun x S'=>Qo Ch E 3 (fun st=>G st.heap) VU 99 x S'))else(if (Nd.kind n==9)=true then(V5 (enc (Nd.name n)) (PV.bool true) (Z6 m))=true∧(E 99 ⟨ZI 29 0 [],[(.obj (.box [(.map 1)])),(.obj (.map (XZ (enc (Nd.name n)) (PV.bool true) (Z6 m)))),(.obj (.box (Yb n ks)))]⟩ (fun x S'=>Qo Ch E 3 (fun st=>G st.heap) VU 99 x S'))else(E 99 ⟨ZI 29 0 [],[(.obj (.box [(.map 1)])),(.obj (.map (Z6 m))),(.obj (.box (Yb n ks)))]⟩ (fun x S'=>Qo Ch E 3 (fun st=>G st.heap) VU 99 x S'))))):Zw Ch E 3 (fun st=>G st.heap) (.inl VU) [.seq (.ext 99 [])] ⟨ZI 29 0 [(3,.ptr 0 0),(4,.ptr 2 0)],[.obj (.box [.map 1]),.obj (.map (Z6 m)),.obj (.box [.pv (enc n.kind),.pv (enc n.line),.pv (enc n.name),.pv (enc n.num),.pv (enc n.elem),.pv (enc n.dims),.pv (enc n.data),.pv (enc n.sizes),.pv (enc n.ranks),.pv (enc ks)])]⟩:=Zw.mh (dm [] 41 0x10024222201222200642222012222222200a42) h
noncomputable def QH:IC:=icx Uv Proofs.Tryz.f35
def U6:List IRes:=[(.cell true 10 4),(.cell false 1 5)]
abbrev b6i:Nat:=20
noncomputable def V8:Zz:=YG [(58,.own Yq (Xa 80)),(71,.pure (preT (fun x:Tm×Unit=>tW x.1)) (Zj (fun x:Tm×Unit=>Qf x.1)))]
theorem c8a{G:PV->Prop}(E:YP)(n:Nd)(ks:List Tm)(i:Int)(h:(Yq [(.pv (.agg [(.int .i64 (Nd.kind n)),(.int .i64 (Nd.line n)),(.str (Str.s (Nd.name n))),(.int .i64 (Nd.num n)),(.str (Str.s (Nd.elem n))),(.sl 1 false (List.map enc (Nd.dims n))),(.sl 1 false (List.map enc (Nd.data n))),(.sl 2 false (List.map enc (Nd.sizes n))),(.sl 1 false (List.map enc (Nd.ranks n))),(.sl 10 false (List.map enc ks))]))] [])=true∧(E 0 ⟨ZI 20 0 [(3,(.ptr 0 0)),(4,(.ptr 1 0)),(5,(.ptr 2 0)),(6,(.ptr 3 0)),(7,.undef),(9,(.fn 80 [] [(.ptr 4 0)])),(10,.undef),(12,.undef),(13,.undef),(14,.undef),(15,.undef),(16,.undef),(17,.undef),(18,.undef)],[(.obj (.box [(.pv (.int .i64 i))])),(.obj (.box [(.pv (.int .i64 0)),(.pv (.int .i64 0)),(.pv (.str [])),(.pv (.int .i64 0)),(.pv (.str [])),(.pv (.sl 0 true [])),(.pv (.sl 0 true [])),(.pv (.sl 0 true [])),(.pv (.sl 0 true [])),(.pv (.sl 0 true []))])),(.obj (.box [(.pv (.bool false))])),(.obj (.box [(.pv (.int .i64 0))])),(.obj (.box (Yb n ks)))]⟩ (fun x S'=>Qo V8 E 0 (Zb U6 G) QH 0 x S'))):Zw V8 E 0 (Zb U6 G) (.inl QH) [] (Ya 20 [.agg [enc n.kind,enc n.line,enc n.name,enc n.num,enc n.elem,enc n.dims,enc n.data,enc n.sizes,enc n.ranks,enc ks],.int .i64 i]):=Zw.mp (.req (.keep (.nil))) h
theorem b5k{G:PV->Prop}(E:YP)(n:Nd)(ks:List Tm)(i:Int)(c:Int)(h:G ((.tup [(.agg [(.int .i64 0),(.int .i64 0),(.str []),(.int .i64 0),(.str []),(.sl 0 true []),(.sl 0 true []),(.sl 0 true []),(.sl 0 true []),(.sl 0 true [])]),(.bool false)]))):Qo V8 E 0 (Zb U6 G) QH 0 .normal ⟨ZI 20 0 [(3,.ptr 0 0),(4,.ptr 1 0),(5,.ptr 2 0),(6,.ptr 3 0)],[.obj (.box [.pv (.int .i64 i)]),.obj (.box [.pv (.int .i64 0),.pv (.int .i64 0),.pv (.str []),.pv (.int .i64 0),.pv (.str []),.pv (.sl 0 true []),.pv (.sl 0 true []),.pv (.sl 0 true []),.pv (.sl 0 true []),.pv (.sl 0 true [])]),.obj (.box [.pv (.bool false)]),.obj (.box [.pv (.int .i64 c)])]⟩:=Zw.mp (.nil) h
theorem b2v{G:PV->Prop}(E:YP)(n:Nd)(ks:List Tm)(i:Int)(y:TS)(c:Int)(rest:List Slot)(h:G ((.tup [(.agg [(.int .i64 (Nd.kind (TS.n y))),(.int .i64 (Nd.line (TS.n y))),(.str (Str.s (Nd.name (TS.n y)))),(.int .i64 (Nd.num (TS.n y))),(.str (Str.s (Nd.elem (TS.n y)))),(.sl 1 false (List.map enc (Nd.dims (TS.n y)))),(.sl 1 false (List.map enc (Nd.data (TS.n y)))),(.sl 2 false (List.map enc (Nd.sizes (TS.n y)))),(.sl 1 false (List.map enc (Nd.ranks (TS.n y)))),(.sl 10 false (List.map enc (TS.k y)))]),(.bool true)]))):Qo V8 E 0 (Zb U6 G) QH 0 .ret ⟨ZI 20 0 [(3,.ptr 0 0),(4,.ptr 1 0),(5,.ptr 2 0),(6,.ptr 3 0)],(.obj (.box [.pv (.int .i64 i)]):: .obj (.box [.pv (enc y.n.kind),.pv (enc y.n.line),.pv (enc y.n.name),.pv (enc y.n.num),.pv (enc y.n.elem),.pv (enc y.n.dims),.pv (enc y.n.data),.pv (enc y.n.sizes),.pv (enc y.n.ranks),.pv (enc y.k)]):: .obj (.box [.pv (.bool true)])::rest)⟩:=Zw.mp (.nil) h
def Jf:IC:=(.reg [ZB 7 (.alloc (.agg [(.int .i64 0),(.int .i64 0),(.str []),(.int .i64 0),(.str []),(.sl 0 true []),(.sl 0 true []),(.sl 0 true []),(.sl 0 true []),(.sl 0 true [])])) 0,CL (.store 10 (.t 7) (.t 10)) 1] none)
noncomputable def b2n:Zz:=YG [(58,.own Yq (Xa 80)),(71,.pure (preT (fun x:Tm×Unit=>tW x.1)) (Zj (fun x:Tm×Unit=>Qf x.1)))]
theorem c0l{G:Zm->Prop}(E:YP)(n:Nd)(ks:List Tm)(i:Int)(c:Int)(v:Int)(h:E 99 ⟨ZI 20 0 [(3,(.ptr 0 0)),(4,(.ptr 1 0)),(5,(.ptr 2 0)),(6,(.ptr 3 0)),(7,(.ptr 4 0))],[(.obj (.box [(.pv (.int .i64 i))])),(.obj (.box [(.pv (.int .i64 0)),(.pv (.int .i64 0)),(.pv (.str [])),(.pv (.int .i64 0)),(.pv (.str [])),(.pv (.sl 0 true [])),(.pv (.sl 0 true [])),(.pv (.sl 0 true [])),(.pv (.sl 0 true [])),(.pv (.sl 0 true []))])),(.obj (.box [(.pv (.bool false))])),(.obj (.box [(.pv (.int .i64 c))])),(.obj (.box (Yb n ks)))]⟩ (fun x S'=>Qo b2n E 4 (fun st=>G st.heap) Jf 99 x S')):Zw b2n E 4 (fun st=>G st.heap) (.inl Jf) [.seq (.ext 99 [3,4,5,6,7])] ⟨ZI 20 0 [(3,.ptr 0 0),(4,.ptr 1 0),(5,.ptr 2 0),(6,.ptr 3 0),(10,.pv (.agg [enc n.kind,enc n.line,enc n.name,enc n.num,enc n.elem,enc n.dims,enc n.data,enc n.sizes,enc n.ranks,enc ks])),(11,.pv (.int .i64 v))],[.obj (.box [.pv (.int .i64 i)]),.obj (.box [.pv (.int .i64 0),.pv (.int .i64 0),.pv (.str []),.pv (.int .i64 0),.pv (.str []),.pv (.sl 0 true []),.pv (.sl 0 true []),.pv (.sl 0 true []),.pv (.sl 0 true []),.pv (.sl 0 true [])]),.obj (.box [.pv (.bool false)]),.obj (.box [.pv (.int .i64 c)])]⟩:=Zw.mh (.nil) h
def Jh:IC:=(.block 1 (.seq (WN [ZB 12 (Dz [(.int .i64)] (.t 6)) 0,ZB 13 (Dz [(.int .i64)] (.t 3)) 0,ZB 14 (Hl .eql (.t 12) (.t 13)) 0] (.cond (.t 14) (WN [ZB 15 (.load true [(.int .i64),(.int .i64),.str,(.int .i64),.str,(.sl 1),(.sl 1),(.sl 2),(.sl 1),(.sl 10)] (.t 7)) 0,ZB 16 (c'' 71 [(.t 15)]) 0,CL (.store 10 (.t 4) (.t 16)) 2,CL (.store 1 (.t 5) (.c (.bool true))) 2] .ret) .skip)) (.reg [ZB 17 (Dz [(.int .i64)] (.t 6)) 0,ZB 18 (Hl .add (.t 17) (U3 1)) 0,CL (.store 1 (.t 6) (.t 18)) 0] none)))
noncomputable def a7l:Zz:=YG [(58,.own Yq (Xa 80)),(71,.pure (preT (fun x:Tm×Unit=>tW x.1)) (Zj (fun x:Tm×Unit=>Qf x.1)))]
theorem b6r{G:Zm->Prop}(E:YP)(n:Nd)(ks:List Tm)(i:Int)(c:Int)(v:Int)(h:if (c==i)=true then(Go.Pl.preT (fun(x:Tm×Unit)=>tW x.1) (Lf n ks))=true∧(∃ y0:TS,AV.pv (Zj (fun(x:Tm×Unit)=>Qf x.1) (Lf n ks))=AV.pv (enc y0)∧(G ([(.obj (.box [(.pv (.int .i64 i))])),(.obj (.box [(.pv (.int .i64 (Nd.kind (TS.n y0)))),(.pv (.int .i64 (Nd.line (TS.n y0)))),(.pv (.str (Str.s (Nd.name (TS.n y0))))),(.pv (.int .i64 (Nd.num (TS.n y0)))),(.pv (.str (Str.s (Nd.elem (TS.n y0))))),(.pv (.sl 1 false (List.map enc (Nd.dims (TS.n y0))))),(.pv (.sl 1 false (List.map enc (Nd.data (TS.n y0))))),(.pv (.sl 2 false (List.map enc (Nd.sizes (TS.n y0))))),(.pv (.sl 1 false (List.map enc (Nd.ranks (TS.n y0))))),(.pv (.sl 10 false (List.map enc (TS.k y0))))])),(.obj (.box [(.pv (.bool true))])),(.obj (.box [(.pv (.int .i64 c))])),(.obj (.box (Yb n ks))),.fresh,.fresh])))else(E 99 ⟨ZI 20 0 [],[(.obj (.box [(.pv (.int .i64 i))])),(.obj (.box [(.pv (.int .i64 0)),(.pv (.int .i64 0)),(.pv (.str [])),(.pv (.int .i64 0)),(.pv (.str [])),(.pv (.sl 0 true [])),(.pv (.sl 0 true [])),(.pv (.sl 0 true [])),(.pv (.sl 0 true [])),(.pv (.sl 0 true []))])),(.obj (.box [(.pv (.bool false))])),(.obj (.box [(.pv (.int .i64 (IntKind.wrap IntKind.i64 (c+1))))])),(.obj (.box (Yb n ks)))]⟩ (fun x S'=>Qo a7l E 5 (fun st=>G st.heap) Jh 99 x S'))):Zw a7l E 5 (fun st=>G st.heap) (.inl Jh) [.seq (.ext 99 [])] ⟨ZI 20 0 [(3,.ptr 0 0),(4,.ptr 1 0),(5,.ptr 2 0),(6,.ptr 3 0),(7,.ptr 4 0)],[.obj (.box [.pv (.int .i64 i)]),.obj (.box [.pv (.int .i64 0),.pv (.int .i64 0),.pv (.str []),.pv (.int .i64 0),.pv (.str []),.pv (.sl 0 true []),.pv (.sl 0 true []),.pv (.sl 0 true []),.pv (.sl 0 true []),.pv (.sl 0 true [])]),.obj (.box [.pv (.bool false)]),.obj (.box [.pv (.int .i64 c)]),.obj (.box [.pv (enc n.kind),.pv (enc n.line),.pv (enc n.name),.pv (enc n.num),.pv (enc n.elem),.pv (enc n.dims),.pv (enc n.data),.pv (enc n.sizes),.pv (enc n.ranks),.pv (enc ks)])]⟩:=Zw.mh (dm [dv TS] 11 0x205100342) h
end Go.Pl
namespace Go.Pl
open Go.RowKit
open Enc (enc dec is)
open EncL (encL decL isL)
open Go.Proofs.YtgdebdgkofkeeaaGreatDoor (encNd pre_ndI F_ndI tmOf_nd pre_nd)
abbrev Q9(n:Nd)(ks:List Tm):List PV:=Go.Proofs.YtgdebdgkofkeeaaGreatDoor.ndC n ks
def XN(t:Tm):Int:=Zr t
def b7e(t:Tm)(k:Nat)(σ:Zm):Prop:=σ=[.obj (.box [.pv (.int .i64 (((Zt 1 t).take k).length:Int))])]
def c9f(t:Tm)(k:Nat)(x:Tm×Int)(st:St):Prop:=st=⟨ZI 11 0 [(3,.ptr 0 0)],[.obj (.box [.pv (.int .i64 (((Zt 1 t).take k).length:Int))])]⟩
def a2s:YP:=fun n st q=>n=0∧Be UX 0 (.t 5) 80 [6,7] Jd Jt encNd pre_ndI F_ndI st q
theorem b9a: ∀ x:Tm×Unit,tW x.1=true->VW UX a2s 0 (Zb QI (Zo (XN x.1))) K7 [] (Ya b5g (encL x)):=by
 rintro⟨t,⟨⟩⟩ ht
 have ht:tW t=true:=ht
 obtain⟨n,ks⟩:=t
 rw[<- Wy]
 show VW UX a2s 0 (Zb QI (Zo (XN (.mk n ks)))) _ _ _
 have hsz:Zr (.mk n ks)<=1048576:=Nat.le_trans (Uy _) (of_decide_eq_true ht)
 have hlen:(Zt 1 (.mk n ks)).length=Zr (.mk n ks):=XL _ _
 have hF:F_ndI [Q9 n ks]=Zt 1 (.mk n ks):=by unfold F_ndI;rw[tmOf_nd]
 refine c4y a2s n ks ⟨?_,rfl,[1],[Q9 n ks],[3],[3],[],⟨ZI 11 0 [(3,.ptr 0 0)],[.obj (.box [.pv (.int .i64 0)])]⟩,b7e (.mk n ks),fun _=>False,c9f (.mk n ks),rfl,by simp,rfl,?_,by kernel_rfl,pre_nd hsz,rfl,?_,?_,?_,?_⟩
 ·show OI Tm (PV.agg (Q9 n ks))=true
  rw[show(PV.agg (Q9 n ks))=enc (Tm.mk n ks)from(Zy n ks).symm,VQ]
 ·intro j l ps hl hps
  match j with
  | 0=>cases hl;cases hps;rfl
  | j+1=>simp at hl
 ·rintro k ⟨⟨xn,xk⟩,v⟩ σ hx hi
  unfold b7e at hi
  subst hi
  have e:KA [6,7] ((encNd (.mk xn xk,v)).map .pv) (ZI 11 0 [(3,.ptr 0 0)])=ZI 11 0 [(3,.ptr 0 0),(6,.pv (.agg (Q9 xn xk))),(7,.pv (.int .i64 v))]:=by
   show KA [6,7] (([enc (Tm.mk xn xk),.int .i64 v]).map .pv) _=_
   rw[Zy]
   kernel_rfl
  rw[e]
  exact c0e (G:=fun _=>False) _ xn xk _ v ⟨rfl,rfl⟩
 ·rintro k ⟨⟨xn,xk⟩,v⟩ st hx hst
  unfold c9f at hst
  subst hst
  rw[hF]at hx
  have hk:k<Zr (.mk n ks):=by rw[<- hlen];exact(List.getElem?_eq_some_iff.1 hx).1
  have ek:(Zt 1 (.mk n ks)).take (k+1)=(Zt 1 (.mk n ks)).take k++[(.mk xn xk,v)]:=by rw[List.take_add_one,hx];rfl
  refine b5x (G:=fun _=>False) _ xn xk _ v ⟨rfl,_,rfl,rfl,?_⟩
  unfold b7e
  rw[ek,List.length_append,next (by rw[List.length_take];omega)]
  rfl
 ·rintro σ hi
  unfold b7e at hi
  subst hi
  rw[hF,List.take_length]
  exact b7i a2s n ks _ (Un (by unfold XN;rw[hlen]))
 ·exact fun σ h=>h.elim
def mxF(c v:Int):Int:=if v>c then v else c
mutual
theorem a9c: ∀ (t:Tm) (l:Nat) (c:Int),((Zt l t).map (·.2)).foldl mxF c=max c ((l:Int)+ZM t - 1)
 | .mk n ks,l,c=>by
  rw[Zt,List.map_cons,List.foldl_cons,Sv ks (l+1) (mxF c l) (by unfold mxF;split <;> omega),ZM]
  unfold mxF
  split <;> omega
theorem Sv: ∀ (ks:List Tm) (l:Nat) (c:Int),(l:Int) - 1<=c->((ZE l ks).map (·.2)).foldl mxF c=max c ((l:Int)+ZU ks - 1)
 | [],l,c,h=>by rw[ZE,ZU];simp;omega
 | k::ks,l,c,h=>by
  rw[ZE,List.map_append,List.foldl_append,a9c k l c,Sv ks l _ (by omega),ZU]
  omega
end
theorem b9j{t:Tm}(h:tW t=true): ∀ s∈(ZZ t).flatMap WT,s.s.length<=1048576:=by
 intro s hs
 obtain⟨p,hp,hs⟩:=List.mem_flatMap.1 hs
 unfold ZZ at hp
 obtain⟨q,hq,rfl⟩:=List.mem_map.1 hp
 have hw:=Qv h hq
 unfold WT at hs
 split at hs
 ·have:s=q.1.nd.name:=by simpa using hs
  subst this
  obtain⟨⟨n,ks⟩,l⟩:=q
  exact(Fe hw).name
 ·cases hs
theorem M3{α β:Type}(f:α->List β)(hf : ∀ x,(f x).length<=1): ∀ l:List α,(l.flatMap f).length<=l.length
 | []=>by simp
 | a::l=>by have:=hf a;have:=M3 f hf l;rw[List.flatMap_cons,List.length_append,List.length_cons];omega
theorem a1p(t:Tm):((ZZ t).flatMap WT).length<=Zr t:=by
 have:=M3 WT (fun x=>by unfold WT;split <;> simp) (ZZ t)
 rw[WF]at this
 exact this
def LG(t:Tm)(k:Nat)(σ:Zm):Prop:=σ=[.obj (.box [.map 1]),.obj (.map (Z6 (Wn ((((Zt 1 t).take k).map (·.1)).flatMap WT))))]
def c9w(t:Tm)(k:Nat)(x:Tm×Int)(st:St):Prop:=st=⟨ZI 29 0 [(3,.ptr 0 0),(4,.ptr 2 0)],[.obj (.box [.map 1]),.obj (.map (Z6 (Wn ((((Zt 1 t).take k).map (·.1)).flatMap WT)))),.obj (.box (Yb x.1.nd x.1.ks))]⟩
def a3x:YP:=fun n st q=>n=0∧Be U7 0 (.t 7) 80 [8,9] Jw VU encNd pre_ndI F_ndI st q
theorem b8g: ∀ x:Tm×Unit,tW x.1=true->VW U7 a3x 0 (Zb Q7 (Zo (KO x.1))) Jy [] (Ya b6l (encL x)):=by
 rintro⟨t,⟨⟩⟩ ht
 have ht:tW t=true:=ht
 obtain⟨n,ks⟩:=t
 rw[<- Wy]
 show VW U7 a3x 0 (Zb Q7 (Zo (KO (.mk n ks)))) _ _ _
 have hsz:Zr (.mk n ks)<=1048576:=Nat.le_trans (Uy _) (of_decide_eq_true ht)
 have hlen:(Zt 1 (.mk n ks)).length=Zr (.mk n ks):=XL _ _
 have hF:F_ndI [Q9 n ks]=Zt 1 (.mk n ks):=by unfold F_ndI;rw[tmOf_nd]
 refine c5b a3x n ks ⟨?_,rfl,[1],[Q9 n ks],[3],[3,4],[],⟨ZI 29 0 [(3,.ptr 0 0)],[.obj (.box [.map 1]),.obj (.map (Z6 []))]⟩,LG (.mk n ks),fun _=>False,c9w (.mk n ks),rfl,by simp,rfl,?_,by kernel_rfl,pre_nd hsz,rfl,?_,?_,?_,?_⟩
 ·show OI Tm (PV.agg (Q9 n ks))=true
  rw[show(PV.agg (Q9 n ks))=enc (Tm.mk n ks)from(Zy n ks).symm,VQ]
 ·intro j l ps hl hps
  match j with
  | 0=>cases hl;cases hps;rfl
  | j+1=>simp at hl
 ·rintro k ⟨⟨xn,xk⟩,v⟩ σ hx hi
  unfold LG at hi
  subst hi
  have e:KA [8,9] ((encNd (.mk xn xk,v)).map .pv) (ZI 29 0 [(3,.ptr 0 0)])=ZI 29 0 [(3,.ptr 0 0),(8,.pv (.agg (Q9 xn xk))),(9,.pv (.int .i64 v))]:=by
   show KA [8,9] (([enc (Tm.mk xn xk),.int .i64 v]).map .pv) _=_
   rw[Zy]
   kernel_rfl
  rw[e]
  exact b9q (G:=fun _=>False) _ xn xk _ v ⟨rfl,rfl⟩
 ·rintro k ⟨⟨xn,xk⟩,v⟩ st hx hst
  unfold c9w at hst
  subst hst
  rw[hF]at hx
  have hk:k<Zr (.mk n ks):=by rw[<- hlen];exact(List.getElem?_eq_some_iff.1 hx).1
  have ek:(Zt 1 (.mk n ks)).take (k+1)=(Zt 1 (.mk n ks)).take k++[(.mk xn xk,v)]:=by rw[List.take_add_one,hx];rfl
  have yes:(xn.kind=6∨xn.kind=8∨xn.kind=9)->V5 (enc xn.name) (PV.bool true) (Z6 (Wn (((Zt 1 (.mk n ks)).take k).map (·.1) |>.flatMap WT)))=true∧LG (.mk n ks) (k+1) [.obj (.box [.map 1]),.obj (.map (XZ (enc xn.name) (PV.bool true) (Z6 (Wn (((Zt 1 (.mk n ks)).take k).map (·.1) |>.flatMap WT)))))]:=fun h=>by
   refine⟨(Gc _ xn.name).1,?_⟩
   unfold LG
   rw[show XZ (enc xn.name) (PV.bool true) (Z6 (Wn (((Zt 1 (.mk n ks)).take k).map (·.1) |>.flatMap WT)))=_ from(Gc _ xn.name).2,ek,List.map_append,List.flatMap_append]
   unfold Wn
   rw[List.foldl_append,List.map_cons,List.map_nil,List.flatMap_cons,List.flatMap_nil]
   rw[show WT (.mk xn xk)=[xn.name]from if_pos h]
   rfl
  have no : ¬ (xn.kind=6∨xn.kind=8∨xn.kind=9)->LG (.mk n ks) (k+1) [.obj (.box [.map 1]),.obj (.map (Z6 (Wn (((Zt 1 (.mk n ks)).take k).map (·.1) |>.flatMap WT))))]:=fun h=>by
   unfold LG
   rw[ek,List.map_append,List.flatMap_append,List.map_cons,List.map_nil,List.flatMap_cons,List.flatMap_nil,show WT (.mk xn xk)=[]from if_neg h]
   simp
  refine c0n (G:=fun _=>False) _ xn xk _ v (VK (fun h1=>⟨(yes (.inl h1)).1,rfl,_,rfl,rfl,(yes (.inl h1)).2⟩) fun h1=>VK (fun h2=>⟨(yes (.inr (.inl h2))).1,rfl,_,rfl,rfl,(yes (.inr (.inl h2))).2⟩) fun h2=>VK (fun h3=>⟨(yes (.inr (.inr h3))).1,rfl,_,rfl,rfl,(yes (.inr (.inr h3))).2⟩) fun h3=>⟨rfl,_,rfl,rfl,no (by rintro(h|h|h);exact h1 h;exact h2 h;exact h3 h)⟩)
 ·rintro σ hi
  unfold LG at hi
  subst hi
  rw[hF,List.take_length]
  refine b4z a3x n ks _ ⟨?_,?_⟩
  ·show(79==79&&QP (Z6 (Wn ((ZZ (.mk n ks)).flatMap WT))))=true
   rw[b1o (b9j ht) (by have:=a1p (.mk n ks);omega)]
   simp
  ·show Zo _ (PV.sl 1 false (List.map PV.str (YU (List.map WX (Z6 (Wn ((ZZ (.mk n ks)).flatMap WT)))))))
   rw[MG]
   exact K5 rfl
 ·exact fun σ h=>h.elim
def d3h(i:Int)(k:Nat)(σ:Zm):Prop:=(∀ j:Nat,j<k->(j:Int)≠i)∧σ=[.obj (.box [.pv (.int .i64 i)]),.obj (.box [.pv (.int .i64 0),.pv (.int .i64 0),.pv (.str []),.pv (.int .i64 0),.pv (.str []),.pv (.sl 0 true []),.pv (.sl 0 true []),.pv (.sl 0 true []),.pv (.sl 0 true []),.pv (.sl 0 true [])]),.obj (.box [.pv (.bool false)]),.obj (.box [.pv (.int .i64 k)])]
def d1r(t:Tm)(i:Int)(σ:Zm):Prop:= ∃ (y:TS) (r:List Slot),Vv t i=some y.t∧σ = .obj (.box [.pv (.int .i64 i)]):: .obj (.box [.pv (enc y.n.kind),.pv (enc y.n.line),.pv (enc y.n.name),.pv (enc y.n.num),.pv (enc y.n.elem),.pv (enc y.n.dims),.pv (enc y.n.data),.pv (enc y.n.sizes),.pv (enc y.n.ranks),.pv (enc y.k)]):: .obj (.box [.pv (.bool true)])::r
def d3b(i:Int)(k:Nat)(x:Tm×Int)(st:St):Prop:=(∀ j:Nat,j<k->(j:Int)≠i)∧st=⟨ZI 20 0 [(3,.ptr 0 0),(4,.ptr 1 0),(5,.ptr 2 0),(6,.ptr 3 0),(7,.ptr 4 0)],[.obj (.box [.pv (.int .i64 i)]),.obj (.box [.pv (.int .i64 0),.pv (.int .i64 0),.pv (.str []),.pv (.int .i64 0),.pv (.str []),.pv (.sl 0 true []),.pv (.sl 0 true []),.pv (.sl 0 true []),.pv (.sl 0 true []),.pv (.sl 0 true [])]),.obj (.box [.pv (.bool false)]),.obj (.box [.pv (.int .i64 k)]),.obj (.box (Yb x.1.nd x.1.ks))]⟩
def FJ:YP:=fun n st q=>n=0∧Be V8 0 (.t 9) 80 [10,11] Jf Jh encNd pre_ndI F_ndI st q
theorem b2t(y:TS):Zo (y.t,true) (.tup [(.agg [(.int .i64 (Nd.kind (TS.n y))),(.int .i64 (Nd.line (TS.n y))),(.str (Str.s (Nd.name (TS.n y)))),(.int .i64 (Nd.num (TS.n y))),(.str (Str.s (Nd.elem (TS.n y)))),(.sl 1 false (List.map enc (Nd.dims (TS.n y)))),(.sl 1 false (List.map enc (Nd.data (TS.n y)))),(.sl 2 false (List.map enc (Nd.sizes (TS.n y)))),(.sl 1 false (List.map enc (Nd.ranks (TS.n y)))),(.sl 10 false (List.map enc (TS.k y)))]),(.bool true)]):=by
 show Zo (y.t,true) (PV.tup [enc y,.bool true])
 rw[show(enc y:PV)=enc y.t from Gj y.t]
 exact K5 (β:=Tm×Bool) rfl
theorem a6l:Zo (tm0,false) (.tup [(.agg [(.int .i64 0),(.int .i64 0),(.str []),(.int .i64 0),(.str []),(.sl 0 true []),(.sl 0 true []),(.sl 0 true []),(.sl 0 true []),(.sl 0 true [])]),(.bool false)]):=⟨rfl,rfl⟩
theorem b5t: ∀ x:Tm×Int×Unit,tW x.1=true->VW V8 FJ 0 (Zb U6 (Zo (a8e (Vv x.1 x.2.1)))) QH [] (Ya b6i (encL x)):=by
 rintro⟨t,i,⟨⟩⟩ ht
 have ht:tW t=true:=ht
 obtain⟨n,ks⟩:=t
 rw[show(encL ((Tm.mk n ks,i,()):Tm×Int×Unit))=[PV.agg (Q9 n ks),.int .i64 i] by show [enc (Tm.mk n ks),_]=_;rw[Zy];rfl]
 show VW V8 FJ 0 (Zb U6 (Zo (a8e (Vv (.mk n ks) i)))) _ _ _
 have hsz:Zr (.mk n ks)<=1048576:=Nat.le_trans (Uy _) (of_decide_eq_true ht)
 have hlen:(Zt 1 (.mk n ks)).length=Zr (.mk n ks):=XL _ _
 have hF:F_ndI [Q9 n ks]=Zt 1 (.mk n ks):=by unfold F_ndI;rw[tmOf_nd]
 refine c8a FJ n ks i ⟨?_,rfl,[4],[Q9 n ks],[3,4,5,6],[3,4,5,6,7],[],⟨ZI 20 0 [(3,.ptr 0 0),(4,.ptr 1 0),(5,.ptr 2 0),(6,.ptr 3 0)],[.obj (.box [.pv (.int .i64 i)]),.obj (.box [.pv (.int .i64 0),.pv (.int .i64 0),.pv (.str []),.pv (.int .i64 0),.pv (.str []),.pv (.sl 0 true []),.pv (.sl 0 true []),.pv (.sl 0 true []),.pv (.sl 0 true []),.pv (.sl 0 true [])]),.obj (.box [.pv (.bool false)]),.obj (.box [.pv (.int .i64 0)])]⟩,d3h i,d1r (.mk n ks) i,d3b i,rfl,by simp,rfl,?_,by kernel_rfl,pre_nd hsz,⟨fun j hj=>by omega,rfl⟩,?_,?_,?_,?_⟩
 ·show OI Tm (PV.agg (Q9 n ks))=true
  rw[show(PV.agg (Q9 n ks))=enc (Tm.mk n ks)from(Zy n ks).symm,VQ]
 ·intro j l ps hl hps
  match j with
  | 0=>cases hl;cases hps;rfl
  | j+1=>simp at hl
 ·rintro k ⟨⟨xn,xk⟩,v⟩ σ hx ⟨hall,rfl⟩
  have e:KA [10,11] ((encNd (.mk xn xk,v)).map .pv) (ZI 20 0 [(3,.ptr 0 0),(4,.ptr 1 0),(5,.ptr 2 0),(6,.ptr 3 0)])=ZI 20 0 [(3,.ptr 0 0),(4,.ptr 1 0),(5,.ptr 2 0),(6,.ptr 3 0),(10,.pv (.agg (Q9 xn xk))),(11,.pv (.int .i64 v))]:=by
   show KA [10,11] (([enc (Tm.mk xn xk),.int .i64 v]).map .pv) _=_
   rw[Zy]
   kernel_rfl
  rw[e]
  exact c0l (G:=fun _=>False) _ xn xk i _ v ⟨rfl,hall,rfl⟩
 ·rintro k ⟨⟨xn,xk⟩,v⟩ st hx ⟨hall,rfl⟩
  rw[hF]at hx
  have hk:k<Zr (.mk n ks):=by rw[<- hlen];exact(List.getElem?_eq_some_iff.1 hx).1
  refine b6r (G:=d1r (.mk n ks) i) _ xn xk i _ v (VK (fun h1=> ?_) fun h1=> ?_)
  ·refine⟨Ze (Tm.mk xn xk,()) (XD xn xk) (Qv ht (List.mem_of_getElem? hx)),Zg (Tm.mk xn xk,()) (XD xn xk) ⟨Qf (.mk xn xk),_,?_,rfl⟩⟩
   rw[d1y,<- h1]
   unfold Vv
   rw[if_pos (by omega)]
   show(List.map (·.1) (Zt 1 (.mk n ks)))[(k:Int).toNat]? = _
   rw[Int.toNat_natCast,List.getElem?_map,hx];rfl
  ·refine⟨rfl,_,rfl,rfl,?_,?_⟩
   ·intro j hj
    rcases Nat.lt_succ_iff_lt_or_eq.1 hj with hj|rfl
    ·exact hall j hj
    ·exact h1
   ·rw[next (by omega)]
 ·rintro σ ⟨hall,rfl⟩
  refine b5k FJ n ks i _ ?_
  rw[show Vv (.mk n ks) i=none from ?_]
  ·exact a6l
  unfold Vv
  split
  ·rename_i h0
   refine List.getElem?_eq_none ?_
   rw[hF]at hall
   show(List.map _ (Zt 1 (.mk n ks))).length<=_
   rw[List.length_map]
   refine Nat.le_of_not_lt fun hlt=>hall i.toNat hlt (by omega)
  ·rfl
 ·rintro σ ⟨y,r,hy,rfl⟩
  refine b2v FJ n ks i y 0 r ?_
  rw[hy]
  exact b2t y
end Go.Pl
namespace Go.Pl
open Go.RowKit
open Enc (enc dec is)
open EncL (encL decL isL)
theorem Zq.encEq{P:Program}{f:Nat}{α β γ:Type}[EncL α][Enc β][Enc γ]{pre:α->Bool}{F:α->β}{G:α->γ}(h:Zq P f pre F)(e : ∀ a,(enc (F a):PV)=enc (G a)):Zq P f pre G:=by
 have:(Zj G:List PV->PV)=Zj F:=funext fun ps=>(e (decL ps)).symm
 unfold Zq at h ⊢
 rw[this]
 exact h
def GZ(o:Option Tm):TS×Bool:=(Qf (a8e o).1,(a8e o).2)
theorem a9x{β:Type}[Enc β](t:Tm)(b:β):(enc ((t,b):Tm×β):PV)=enc ((Qf t,b):TS×β):=by
 show PV.tup [enc t,enc b]=PV.tup [enc (Qf t),enc b]
 rw[Gj]
def c9i:Str:=⟨[97,100,100]⟩
def Nr(s:Str):Tm:=.mk {nd0 with kind:=6,name:=c9i} [vT s,vT ⟨[118,49]⟩]
def FI(s:Str)(a b:Tm):Tm:=.mk {nd0 with kind:=5,name:=s} [a,b]
def eS(y:TS):PV:=.agg [enc y.n.kind,enc y.n.line,enc y.n.name,enc y.n.num,enc y.n.elem,enc y.n.dims,enc y.n.data,enc y.n.sizes,enc y.n.ranks,enc y.k]
theorem Cg(t:Tm):eS (Qf t)=enc t:=Gj t
def bS(y:TS):List AV:=[.pv (enc y.n.kind),.pv (enc y.n.line),.pv (enc y.n.name),.pv (enc y.n.num),.pv (enc y.n.elem),.pv (enc y.n.dims),.pv (enc y.n.data),.pv (enc y.n.sizes),.pv (enc y.n.ranks),.pv (enc y.k)]
structure P2 where
 a:List Int
 b:List Int
instance:Enc P2 where
 sz:=2
 enc x:=.agg [enc x.a,enc x.b]
 dec | .agg [a,b]=>⟨dec a,dec b⟩|_=>⟨[],[]⟩
 is | .agg [a,b]=>is (List Int) a&&is (List Int) b|_=>false
 is_enc v:=by simp
 dec_enc v:=by simp
 sub p h:=by
  cases p with
  | agg xs=>
   match xs,h with
   | [a,b],h=>
    simp only[Bool.and_eq_true]at h
    exact .agg (.cons (Enc.sub a h.1).2 (.cons (Enc.sub b h.2).2 .nil))
  | _=>cases h
end Go.Pl
namespace Go.Pl
open Go.RowKit
abbrev a7u(l:List Str):Prop:=l.Pairwise fun x y:Str=>x.s<y.s
theorem NB{l:List Str}{s x:Str}:x∈C8 l s ↔ x∈l∨x=s:=by
 induction l with
 | nil=>simp[C8]
 | cons a r ih=>
  rw[C8]
  split
  ·rw[List.mem_cons,ih,List.mem_cons,or_assoc]
  ·split
   ·rename_i h
    subst h
    simp only[List.mem_cons]
    exact⟨fun h=>.inl h,fun h=>h.elim id .inl⟩
   ·simp only[List.mem_cons]
    constructor
    ·rintro(h|h|h)
     ·exact .inr h
     ·exact .inl (.inl h)
     ·exact .inl (.inr h)
    ·rintro((h|h)|h)
     ·exact .inr (.inl h)
     ·exact .inr (.inr h)
     ·exact .inl h
theorem Sm: ∀ (l m:List Str) (x:Str),x∈l.foldl C8 m ↔ x∈m∨x∈l
 | [],m,x=>by simp
 | s::l,m,x=>by rw[List.foldl_cons,Sm l,NB,List.mem_cons,or_assoc]
theorem Mc{s:Str}: ∀ {l:List Str},a7u l->a7u (C8 l s)
 | [],_=>by simp[C8]
 | t::r,h=>by
  have ht:=List.pairwise_cons.1 h
  rw[C8]
  split
  ·rename_i h1
   refine List.pairwise_cons.2 ⟨fun y hy=> ?_,Mc ht.2⟩
   rcases NB.1 hy with hy|rfl
   ·exact ht.1 y hy
   ·exact h1
  ·split
   ·exact h
   ·rename_i h1 h2
    have h3:s.s<t.s:=by
     rcases List.le_iff_lt_or_eq.1 (List.not_lt.1 h1)with h|h
     ·exact h
     ·exact absurd (by cases s;cases t;simpa using h.symm) h2
    refine List.pairwise_cons.2 ⟨fun y hy=> ?_,h⟩
    rcases List.mem_cons.1 hy with rfl|hy
    ·exact h3
    ·exact List.lt_trans h3 (ht.1 y hy)
theorem AO: ∀ (l m:List Str),a7u m->a7u (l.foldl C8 m)
 | [],m,h=>h
 | s::l,m,h=>AO l _ (Mc h)
theorem Mg{l:List Str}{x:Str}:x∈Wn l ↔ x∈l:=by
 have : ∀ (l m:List Str),x∈l.foldl Y1 m ↔ x∈m∨x∈l:=by
  intro l
  induction l with
  | nil=>intro m;simp
  | cons s l ih=>intro m;rw[List.foldl_cons,ih,CS,List.mem_cons,or_assoc]
 have h:=this l []
 simp only[List.not_mem_nil,false_or]at h
 exact h
theorem a2o{l:List Str}{x:Str}:x∈Qz l ↔ x∈l:=by
 unfold Qz YU
 rw[List.mem_map]
 constructor
 ·rintro⟨b,hb,rfl⟩
  rw[List.mem_mergeSort,List.mem_map]at hb
  obtain⟨a,ha,rfl⟩:=hb
  exact Mg.1 ha
 ·intro h
  exact⟨x.s,by rw[List.mem_mergeSort];exact List.mem_map.2 ⟨x,Mg.2 h,rfl⟩,rfl⟩
theorem a2d(l:List Str):a7u (Qz l):=by
 unfold Qz YU
 have tr : ∀ x y z:List UInt8,decide (x<=y)=true->decide (y<=z)=true->decide (x<=z)=true:=fun x y z h k=>by simp only[decide_eq_true_eq]at *;exact List.le_trans h k
 have to : ∀ x y:List UInt8,(decide (x<=y)||decide (y<=x))=true:=fun x y=>by simp only[Bool.or_eq_true,decide_eq_true_eq];exact List.le_total x y
 have h0:((Wn l).map (·.s)).Nodup:=by
  refine List.Pairwise.map _ (fun a b h e=>h ?_) (QE l [] List.nodup_nil)
  cases a;cases b;simp at e;rw[e]
 have h1:=List.pairwise_mergeSort tr to ((Wn l).map (·.s))
 have h2:=(List.mergeSort_perm ((Wn l).map (·.s)) fun x y=>decide (x<=y)).nodup_iff.2 h0
 refine List.Pairwise.map _ (fun a b h=>h) ((h1.and h2).imp fun {a b} hab=> ?_)
 have h3:a<=b:=by simpa using hab.1
 exact Decidable.byContradiction fun hn=>hab.2 (List.le_antisymm h3 (List.not_lt.1 hn))
theorem La: ∀ {a b:List Str},(a.Pairwise fun x y:Str=>x.s<y.s)->(b.Pairwise fun x y:Str=>x.s<y.s)->(∀ x,x∈a ↔ x∈b)->a=b
 | [],[],_,_,_=>rfl
 | [],y::b,_,_,h=>absurd ((h y).2 (by simp)) (by simp)
 | x::a,[],_,_,h=>absurd ((h x).1 (by simp)) (by simp)
 | x::a,y::b,ha,hb,h=>by
  have ha':=List.pairwise_cons.1 ha
  have hb':=List.pairwise_cons.1 hb
  have e:x=y:=by
   rcases List.mem_cons.1 ((h x).1 (by simp))with e|h1
   ·exact e
   ·rcases List.mem_cons.1 ((h y).2 (by simp))with e|h2
    ·exact e.symm
    ·exact absurd (List.lt_trans (hb'.1 x h1) (ha'.1 y h2)) (List.lt_irrefl _)
  subst e
  rw[La ha'.2 hb'.2 fun z=> ?_]
  constructor
  ·intro hz
   rcases List.mem_cons.1 ((h z).1 (by simp[hz]))with e|h1
   ·subst e;exact absurd (ha'.1 z hz) (List.lt_irrefl _)
   ·exact h1
  ·intro hz
   rcases List.mem_cons.1 ((h z).2 (by simp[hz]))with e|h1
   ·subst e;exact absurd (hb'.1 z hz) (List.lt_irrefl _)
   ·exact h1
theorem b1a(l:List Str):Qz l=l.foldl C8 []:=La (a2d l) (AO l [] List.Pairwise.nil) fun x=>by rw[a2o,Sm];simp
end Go.Pl
namespace Go.Pl
open Go.RowKit
set_option maxRecDepth 100000
def QS:Tm:=FI ⟨[97]⟩ (vT ⟨[120]⟩) (FI ⟨[98]⟩ (vT ⟨[97]⟩) (Nr ⟨[98]⟩))
def RJ:Tm:=FI ⟨[118,50]⟩ (vT ⟨[120]⟩) (FI ⟨[118,51]⟩ (vT ⟨[118,50]⟩) (Nr ⟨[118,51]⟩))
def c8k(t:Tm):Tm:=(UG ((XF [] t).foldl C8 []) [] 0 t).1
theorem c1t(t:Tm):Y0 t=c8k t:=by unfold Y0 c8k XX;rw[b1a]
theorem Tn:Y0 QS=RJ:=by rw[c1t];kernel_rfl
theorem EM:Y0 RJ=RJ:=by rw[c1t];kernel_rfl
theorem a4y:Vy QS=true:=by kernel_rfl
theorem c2q:KC RJ RJ=true:=by kernel_rfl
theorem c0m:Zr QS=7:=by kernel_rfl
theorem a9h:(KO QS).length=1:=by kernel_rfl
theorem a7a:tW QS=true:=by kernel_rfl
theorem c2n:tW RJ=true:=by kernel_rfl
end Go.Pl
namespace Go.Pl
open Go.RowKit
open Enc (enc dec is)
open EncL (encL decL isL)
set_option maxRecDepth 100000
noncomputable def b0u:IC:=Wo Proofs.Tryz.f50
def a6d:List IRes:=[(.cell true 10 2)]
abbrev c6j:Nat:=8
noncomputable def c1r:Zz:=YG [(51,.pure (preT (fun _:Str×Unit=>true)) (Zj (fun x:Str×Unit=>vT x.1)))]
theorem c8t{G:PV->Prop}(s:List UInt8)(h : ∃ y0:Tm,AV.pv (Zj (fun(x:Str×Unit)=>vT x.1) [(.str s)])=AV.pv (enc y0)∧(∃ y1:Tm,AV.pv (Zj (fun(x:Str×Unit)=>vT x.1) [(.str [(118:UInt8),(49:UInt8)])])=AV.pv (enc y1)∧((List.all [enc y0,enc y1] fun(x:PV)=>List.length (PV.cells x)==10&&PV.cellsOk x)=true∧(G ((.agg [(.int .i64 6),(.int .i64 0),(.str [(97:UInt8),(100:UInt8),(100:UInt8)]),(.int .i64 0),(.str []),(.sl 0 true []),(.sl 0 true []),(.sl 0 true []),(.sl 0 true []),(.sl 10 false [enc y0,enc y1])])))))):Zd c1r 0 (Zb a6d G) b0u [] (Ya 8 [.str s]):=Zd.tp (dm [dv Tm] 8 0x215252) h
noncomputable def a5k:IC:=Wo Proofs.Tryz.f12
def a6t:List IRes:=[(.tmp 0)]
abbrev c5l:Nat:=39
noncomputable def c2g:Zz:=YG [(51,.pure (preT (fun _:Str×Unit=>true)) (Zj (fun x:Str×Unit=>vT x.1))),(16,.pure (preT (fun _:Str×Tm×Tm×Unit=>true)) (Zj (fun x:Str×Tm×Tm×Unit=>Qf (FI x.1 x.2.1 x.2.2.1)))),(50,.pure (preT (fun _:Str×Unit=>true)) (Zj (fun x:Str×Unit=>Qf (Nr x.1)))),(22,.pure (preT (fun x:Tm×Unit=>tW x.1)) (Zj (fun x:Tm×Unit=>Vy x.1))),(25,.pure (preT (fun x:Tm×Tm×Unit=>tW x.1&&tW x.2.1)) (Zj (fun x:Tm×Tm×Unit=>KC x.1 x.2.1))),(30,.pure (preT (fun x:Tm×Unit=>tW x.1)) (Zj (fun x:Tm×Unit=>Y0 x.1))),(21,.pure (preT (fun x:Tm×Unit=>tW x.1)) (Zj (fun x:Tm×Unit=>XN x.1))),(18,.pure (preT (fun x:Tm×Tm×Unit=>tW x.1&&tW x.2.1&&tW (Y0 x.1)&&tW (Y0 x.2.1))) (Zj (fun x:Tm×Tm×Unit=>Rf x.1 x.2.1))),(32,.pure (preT (fun x:Tm×Unit=>tW x.1)) (Zj (fun x:Tm×Unit=>KO x.1)))]
theorem c8s{G:PV->Prop}(h : ∃ y0:TS,AV.pv (Zj (fun(x:Str×Unit)=>Qf (Nr x.1)) [(.str [(98:UInt8)])])=AV.pv (enc y0)∧(∃ y1:Tm,AV.pv (Zj (fun(x:Str×Unit)=>vT x.1) [(.str [(120:UInt8)])])=AV.pv (enc y1)∧(∃ y2:Tm,AV.pv (Zj (fun(x:Str×Unit)=>vT x.1) [(.str [(97:UInt8)])])=AV.pv (enc y2)∧((Go.Pl.preT (fun(x:Str×Tm×Tm×Unit)=>true) [(.str [(98:UInt8)]),enc y2,(eS y0)])=true∧(∃ y3:TS,AV.pv (Zj (fun(x:Str×Tm×Tm×Unit)=>Qf (FI x.1 x.2.1 x.2.2.1)) [(.str [(98:UInt8)]),enc y2,(eS y0)])=AV.pv (enc y3)∧((Go.Pl.preT (fun(x:Str×Tm×Tm×Unit)=>true) [(.str [(97:UInt8)]),enc y1,(eS y3)])=true∧(∃ y4:TS,AV.pv (Zj (fun(x:Str×Tm×Tm×Unit)=>Qf (FI x.1 x.2.1 x.2.2.1)) [(.str [(97:UInt8)]),enc y1,(eS y3)])=AV.pv (enc y4)∧(∃ y5:Tm,AV.pv (Zj (fun(x:Str×Unit)=>vT x.1) [(.str [(120:UInt8)])])=AV.pv (enc y5)∧(∃ y6:Tm,AV.pv (Zj (fun(x:Str×Unit)=>vT x.1) [(.str [(118:UInt8),(50:UInt8)])])=AV.pv (enc y6)∧(∃ y7:TS,AV.pv (Zj (fun(x:Str×Unit)=>Qf (Nr x.1)) [(.str [(118:UInt8),(51:UInt8)])])=AV.pv (enc y7)∧((Go.Pl.preT (fun(x:Str×Tm×Tm×Unit)=>true) [(.str [(118:UInt8),(51:UInt8)]),enc y6,(eS y7)])=true∧(∃ y8:TS,AV.pv (Zj (fun(x:Str×Tm×Tm×Unit)=>Qf (FI x.1 x.2.1 x.2.2.1)) [(.str [(118:UInt8),(51:UInt8)]),enc y6,(eS y7)])=AV.pv (enc y8)∧((Go.Pl.preT (fun(x:Str×Tm×Tm×Unit)=>true) [(.str [(118:UInt8),(50:UInt8)]),enc y5,(eS y8)])=true∧(∃ y9:TS,AV.pv (Zj (fun(x:Str×Tm×Tm×Unit)=>Qf (FI x.1 x.2.1 x.2.2.1)) [(.str [(118:UInt8),(50:UInt8)]),enc y5,(eS y8)])=AV.pv (enc y9)∧((Go.Pl.preT (fun(x:Tm×Unit)=>tW x.1) [(eS y4)])=true∧(∃ y10:Bool,AV.pv (Zj (fun(x:Tm×Unit)=>Vy x.1) [(eS y4)])=AV.pv (enc y10)∧(if (y10)=true then(Go.Pl.preT (fun(x:Tm×Unit)=>tW x.1) [(eS y4)])=true∧(∃ y11:Tm,AV.pv (Zj (fun(x:Tm×Unit)=>Y0 x.1) [(eS y4)])=AV.pv (enc y11)∧((Go.Pl.preT (fun(x:Tm×Tm×Unit)=>tW x.1&&tW x.2.1) [enc y11,(eS y9)])=true∧(∃ y12:Bool,AV.pv (Zj (fun(x:Tm×Tm×Unit)=>KC x.1 x.2.1) [enc y11,(eS y9)])=AV.pv (enc y12)∧(if (y12)=true then(Go.Pl.preT (fun(x:Tm×Unit)=>tW x.1) [(eS y4)])=true∧(∃ y13:Int,AV.pv (Zj (fun(x:Tm×Unit)=>XN x.1) [(eS y4)])=AV.pv (enc y13)∧(if (y13==7)=true then(Go.Pl.preT (fun(x:Tm×Tm×Unit)=>tW x.1&&tW x.2.1&&tW (Y0 x.1)&&tW (Y0 x.2.1)) [(eS y4),(eS y9)])=true∧(∃ y14:Bool,AV.pv (Zj (fun(x:Tm×Tm×Unit)=>Rf x.1 x.2.1) [(eS y4),(eS y9)])=AV.pv (enc y14)∧(if (y14)=true then(Go.Pl.preT (fun(x:Tm×Unit)=>tW x.1) [(eS y4)])=true∧(∃ y15:List Str,AV.pv (Zj (fun(x:Tm×Unit)=>KO x.1) [(eS y4)])=AV.pv (enc y15)∧(G ((.bool ((↑(List.length (List.map enc y15)):Int)==1)))))else(G ((.bool false)))))else(G ((.bool false)))))else(G ((.bool false)))))))else(G ((.bool false)))))))))))))))))))):Zd c2g 0 (Zb a6t G) a5k [] (Ya 39 []):=Zd.tp (dm [dv TS,dv Tm,dv Bool,dv Int,dv (List Str)] 111 0x2222222222222222202222222222220222222220222202222912008427122016422281202942712261204247151515262625151626252) h
end Go.Pl
namespace Go.Pl
open Go.RowKit
open Enc (enc dec is)
open EncL (encL decL isL)
theorem a1S(t:Tm):([eS (Qf t)]:List PV)=encL (t,()):=by rw[Cg];rfl
theorem c9r(s t:Tm):([eS (Qf s),eS (Qf t)]:List PV)=encL (s,t,()):=by rw[Cg,Cg];rfl
theorem c8x(s t:Tm):([enc s,eS (Qf t)]:List PV)=encL (s,t,()):=by rw[Cg];rfl
theorem Ms(n:Str)(s t:Tm):([.str n.s,enc s,eS (Qf t)]:List PV)=encL (n,s,t,()):=by rw[Cg];rfl
theorem c6v{t x:Tm}{i:Int}(h:tW t=true)(e:Vv t i=some x):tW x=true:=by
 unfold Vv at e
 split at e
 ·have:=List.mem_of_getElem? e
  unfold ZZ at this
  obtain⟨q,hq,rfl⟩:=List.mem_map.1 this
  exact Qv h hq
 ·cases e
mutual
theorem Bi: ∀ t:Tm,Ri t t=true
 | .mk n ks=>by rw[Ri,decide_eq_true rfl,Az ks];rfl
theorem Az: ∀ ts:List Tm,De ts ts=true
 | []=>rfl
 | k::ks=>by rw[De,Bi k,Az ks];rfl
end
mutual
theorem b4j: ∀ (t:Tm) {i:Nat} {x:Tm},(ZZ t)[i]? = some x-> ∃ r,(ZZ t).drop i=ZZ x++r
 | .mk n ks,i,x,h=>by
  cases i with
  | zero=>
   rw[Qa]at h
   obtain rfl:Tm.mk n ks=x:=by simpa using h
   exact⟨[],by simp⟩
  | succ i=>
   rw[Qa,List.getElem?_cons_succ]at h
   obtain⟨r,hr⟩:=OD ks h
   exact⟨r,by rw[Qa,List.drop_succ_cons];exact hr⟩
theorem OD: ∀ (ks:List Tm) {i:Nat} {x:Tm},(ks.flatMap ZZ)[i]? = some x-> ∃ r,(ks.flatMap ZZ).drop i=ZZ x++r
 | [],i,x,h=>by simp at h
 | k::ks,i,x,h=>by
  rw[List.flatMap_cons]at h ⊢
  by_cases hi:i<(ZZ k).length
  ·rw[List.getElem?_append_left hi]at h
   obtain⟨r,hr⟩:=b4j k h
   exact⟨r++ks.flatMap ZZ,by rw[List.drop_append_of_le_length (by omega),hr,List.append_assoc]⟩
  ·rw[List.getElem?_append_right (by omega)]at h
   obtain⟨r,hr⟩:=OD ks h
   exact⟨r,by rw[List.drop_append,List.drop_of_length_le (by omega),List.nil_append];exact hr⟩
end
theorem c3r{t:Tm}{i:Nat}{n:Nd}{ks:List Tm}(h:(ZZ t)[i]? = some (.mk n ks)){j:Nat}(hj:j<ks.length):(ZZ t)[i+1+Zk (ks.take j)]? = some ks[j]:=by
 obtain⟨r,hr⟩:=b4j t h
 have e:(ZZ t)[i+1+Zk (ks.take j)]? = ((ZZ t).drop i)[1+Zk (ks.take j)]? :=by rw[List.getElem?_drop];congr 1;omega
 rw[e,hr,Qa,Nat.add_comm 1,List.cons_append,List.getElem?_cons_succ]
 have hs:ks=ks.take j++ks[j]::ks.drop (j+1):=by rw[<- List.drop_eq_getElem_cons hj,List.take_append_drop]
 have hm:ks.flatMap ZZ=(ks.take j).flatMap ZZ++(ZZ ks[j]++(ks.drop (j+1)).flatMap ZZ):=by
  conv=>lhs;rw[hs]
  rw[List.flatMap_append,List.flatMap_cons]
 rw[hm,List.append_assoc,List.getElem?_append_right (by rw[U4];exact Nat.le_refl _),U4,Nat.sub_self]
 cases ks[j]with
 | mk a b=>rw[Qa];rfl
theorem SN: ∀ (ks:List Tm) {j:Nat} (hj:j<ks.length),Zk (ks.take (j+1))=Zk (ks.take j)+Zr ks[j]
 | [],j,h=>by simp at h
 | k::ks,0,h=>by simp[Zk]
 | k::ks,j+1,h=>by
  have:=SN ks (j:=j) (by simpa using h)
  rw[List.take_succ_cons,List.take_succ_cons,Zk,Zk,this,List.getElem_cons_succ];omega
theorem Ck: ∀ (ks:List Tm) (j:Nat),Zk (ks.take j)<=Zk ks
 | [],j=>by simp
 | k::ks,0=>by simp[Zk]
 | k::ks,j+1=>by have:=Ck ks j;rw[List.take_succ_cons,Zk,Zk];omega
end Go.Pl
namespace Go.Pl
open Go.RowKit
open Enc (enc dec is)
open EncL (encL decL isL)
theorem b7j: ∀ x:Str×Unit,true=true->Zd c1r 0 (Zb a6d (Zo (Nr x.1))) b0u [] (Ya c6j (encL x)):=by
 rintro⟨s,⟨⟩⟩ _
 refine c8t s.s (Zg (s,()) rfl (Zg (⟨[118,49]⟩,()) rfl ⟨?_,?_⟩))
 ·simp only[List.all_cons,List.all_nil,vT,Zy]
  rfl
 ·have h:is (List Tm) (.sl 10 false [enc (vT s),enc (vT ⟨[118,49]⟩)])=true:=Enc.is_enc [vT s,vT ⟨[118,49]⟩]
  have h2:(dec (.sl 10 false [enc (vT s),enc (vT ⟨[118,49]⟩)]):List Tm)=[vT s,vT ⟨[118,49]⟩]:=Enc.dec_enc [vT s,vT ⟨[118,49]⟩]
  refine⟨?_,?_⟩
  ·simp[h]
  ·rw[b4g _ _ _ _ _ _ _ _ _ _ h,h2]
   simp[Nr,nd0,c9i]
theorem b8z: ∀ x:Unit,true=true->Zd c2g 0 (Zb a6t (Zo true)) a5k [] (Ya c5l (encL x)):=by
 rintro⟨⟩ _
 refine c8s (Zg (⟨[98]⟩,()) rfl (Zg (⟨[120]⟩,()) rfl (Zg (⟨[97]⟩,()) rfl ?_)))
 refine⟨Ze (⟨[98]⟩,vT ⟨[97]⟩,Nr ⟨[98]⟩,()) (Ms _ _ _) rfl,Zg (⟨[98]⟩,vT ⟨[97]⟩,Nr ⟨[98]⟩,()) (Ms _ _ _) ?_⟩
 refine⟨Ze (⟨[97]⟩,vT ⟨[120]⟩,FI ⟨[98]⟩ (vT ⟨[97]⟩) (Nr ⟨[98]⟩),()) (Ms _ _ _) rfl,Zg (⟨[97]⟩,vT ⟨[120]⟩,FI ⟨[98]⟩ (vT ⟨[97]⟩) (Nr ⟨[98]⟩),()) (Ms _ _ _) ?_⟩
 refine Zg (⟨[120]⟩,()) rfl (Zg (⟨[118,50]⟩,()) rfl (Zg (⟨[118,51]⟩,()) rfl ?_))
 refine⟨Ze (⟨[118,51]⟩,vT ⟨[118,50]⟩,Nr ⟨[118,51]⟩,()) (Ms _ _ _) rfl,Zg (⟨[118,51]⟩,vT ⟨[118,50]⟩,Nr ⟨[118,51]⟩,()) (Ms _ _ _) ?_⟩
 refine⟨Ze (⟨[118,50]⟩,vT ⟨[120]⟩,FI ⟨[118,51]⟩ (vT ⟨[118,50]⟩) (Nr ⟨[118,51]⟩),()) (Ms _ _ _) rfl,Zg (⟨[118,50]⟩,vT ⟨[120]⟩,FI ⟨[118,51]⟩ (vT ⟨[118,50]⟩) (Nr ⟨[118,51]⟩),()) (Ms _ _ _) ?_⟩
 refine⟨Ze (QS,()) (a1S QS) a7a,Zg (QS,()) (a1S QS) (XH a4y ?_)⟩
 refine⟨Ze (QS,()) (a1S QS) a7a,Zg (QS,()) (a1S QS) ?_⟩
 refine⟨Ze (Y0 QS,RJ,()) (c8x _ RJ) (by show(tW (Y0 QS)&&tW RJ)=true;rw[Tn,c2n];rfl),Zg (Y0 QS,RJ,()) (c8x _ RJ) (XH (by show KC (Y0 QS) RJ=true;rw[Tn];exact c2q) ?_)⟩
 refine⟨Ze (QS,()) (a1S QS) a7a,Zg (QS,()) (a1S QS) (XH (by show(XN QS==7)=true;unfold XN;rw[c0m];rfl) ?_)⟩
 refine⟨Ze (QS,RJ,()) (c9r QS RJ) (by show(tW QS&&tW RJ&&tW (Y0 QS)&&tW (Y0 RJ))=true;rw[Tn,EM,a7a,c2n];rfl),Zg (QS,RJ,()) (c9r QS RJ) (XH (by show KC (Y0 QS) (Y0 RJ)=true;rw[Tn,EM];exact c2q) ?_)⟩
 refine⟨Ze (QS,()) (a1S QS) a7a,Zg (QS,()) (a1S QS) (ZC ?_)⟩
 show(((List.map (enc:Str->PV) (KO QS)).length:Int)==1)=true
 rw[List.length_map,a9h];rfl
theorem nd1(n:Nd)(ks:List Tm):([ndC n ks]:List PV)=encL (Tm.mk n ks,()):=by rw[Vz];rfl
end Go.Pl
namespace Go.Pl
open Go.RowKit
open Enc (enc dec is)
open EncL (encL decL isL)
set_option maxRecDepth 100000
noncomputable def Ue:IC:=Wo Proofs.Tryz.f7
def V7:List IRes:=[(.tmp 2)]
abbrev c4h:Nat:=92
noncomputable def Kg:Zz:=YG [(12,.pure (preT (fun _:Unit=>true)) (Zj (fun _:Unit=>true))),(13,.pure (preT (fun x:Tm×Int×Unit=>tW x.1)) (Zj (fun x:Tm×Int×Unit=>K4 x.1 x.2.1))),(21,.pure (preT (fun x:Tm×Unit=>tW x.1)) (Zj (fun x:Tm×Unit=>XN x.1))),(35,.pure (preT (fun x:Tm×Int×Unit=>tW x.1)) (Zj (fun x:Tm×Int×Unit=>GZ (Vv x.1 x.2.1)))),(31,.pure (preT (fun x:Tm×Tm×Unit=>tW x.1&&tW x.2.1)) (Zj (fun x:Tm×Tm×Unit=>Ri x.1 x.2.1)))]
theorem c8v{G:PV->Prop}(n:Nd)(ks:List Tm)(h : ∃ y0:Bool,AV.pv (Zj (fun(x:Unit)=>true) [])=AV.pv (enc y0)∧(if (!y0)=true then G ((.bool false))else((Go.Pl.preT (fun(x:Tm×Int×Unit)=>tW x.1) [(ndC n ks),(.int .i64 30)])=true∧(∃ y1:Bool,AV.pv (Zj (fun(x:Tm×Int×Unit)=>K4 x.1 x.2.1) [(ndC n ks),(.int .i64 30)])=AV.pv (enc y1)∧(if (!y1)=true then G ((.bool true))else((Go.Pl.preT (fun(x:Tm×Unit)=>tW x.1) (Lf n ks))=true∧(∃ y2:Int,AV.pv (Zj (fun(x:Tm×Unit)=>XN x.1) (Lf n ks))=AV.pv (enc y2)∧((Go.Pl.preT (fun(x:Tm×Int×Unit)=>tW x.1) [(ndC n ks),(.int .i64 0)])=true∧(∃ y3:TS×Bool,AV.pv (Zj (fun(x:Tm×Int×Unit)=>GZ (Vv x.1 x.2.1)) [(ndC n ks),(.int .i64 0)])=AV.pv (enc y3)∧((Go.Pl.preT (fun(x:Tm×Int×Unit)=>tW x.1) [(ndC n ks),(.int .i64 y2)])=true∧(∃ y4:TS×Bool,AV.pv (Zj (fun(x:Tm×Int×Unit)=>GZ (Vv x.1 x.2.1)) [(ndC n ks),(.int .i64 y2)])=AV.pv (enc y4)∧(if (!Prod.snd y3)=true then G ((.bool false))else(if y4.2=true then G ((.bool false))else((Go.Pl.preT (fun(x:Tm×Tm×Unit)=>tW x.1&&tW x.2.1) [(eS y3.1),(ndC n ks)])=true∧(∃ y5:Bool,AV.pv (Zj (fun(x:Tm×Tm×Unit)=>Ri x.1 x.2.1) [(eS y3.1),(ndC n ks)])=AV.pv (enc y5)∧(if (!y5)=true then G ((.bool false))else(At Kg 0 (Zb V7 G) Ue 0 92 [(1,(.ptr 0 0)),(3,(.pv (.int .i64 y2))),(8,(.pv (.int .i64 0)))] [(.obj (.box (Yb n ks)))]))))))))))))))))):Zd Kg 0 (Zb V7 G) Ue [] (Ya 92 [.agg [enc n.kind,enc n.line,enc n.name,enc n.num,enc n.elem,enc n.dims,enc n.data,enc n.sizes,enc n.ranks,enc ks]]):=Zd.tp (dm [dv Bool,dv Int,dv (TS×Bool)] 56 0x142251220222220064202222222008471716100014510001452) h
theorem a6r{G:PV->Prop}(n:Nd)(ks:List Tm)(c i:Int)(h:if (decide (i<c))=true then(Go.Pl.preT (fun(x:Tm×Int×Unit)=>tW x.1) [(ndC n ks),(.int .i64 i)])=true∧(∃ y0:TS×Bool,AV.pv (Zj (fun(x:Tm×Int×Unit)=>GZ (Vv x.1 x.2.1)) [(ndC n ks),(.int .i64 i)])=AV.pv (enc y0)∧(At Kg 0 (Zb V7 G) Ue 1 92 [(1,(.ptr 0 0)),(3,(.pv (.int .i64 c))),(8,(.pv (.int .i64 i))),(9,(.ptr 1 0)),(10,(.pv (.bool y0.2))),(11,(.pv (.int .i64 (IntKind.wrap IntKind.i64 (i+1))))),(12,(.pv (.int .i64 0)))] [(.obj (.box (Yb n ks))),(.obj (.box (bS y0.1)))]))else(G ((.bool true)))):At Kg 0 (Zb V7 G) Ue 0 92 [(1,.ptr 0 0),(3,.pv (.int .i64 c)),(8,.pv (.int .i64 i))] [.obj (.box [.pv (enc n.kind),.pv (enc n.line),.pv (enc n.name),.pv (enc n.num),.pv (enc n.elem),.pv (enc n.dims),.pv (enc n.data),.pv (enc n.sizes),.pv (enc n.ranks),.pv (enc ks)])]:=At.tp (dm [dv (TS×Bool)] 11 0x25100442) h
theorem a6s{G:PV->Prop}(n:Nd)(ks:List Tm)(c i k a:Int)(x:TS)(b:Bool)(h:if (decide (k<(↑(List.length (List.map enc (TS.k x))):Int)))=true then(Go.Pl.preT (fun(x:Tm×Int×Unit)=>tW x.1) [(ndC n ks),(.int .i64 a)])=true∧(∃ y0:TS×Bool,AV.pv (Zj (fun(x:Tm×Int×Unit)=>GZ (Vv x.1 x.2.1)) [(ndC n ks),(.int .i64 a)])=AV.pv (enc y0)∧(if (!Prod.snd y0)=true then G ((.bool false))else((decide (0<=k)&&decide (Int.toNat k<List.length (List.map enc (TS.k x)))&&Enc.sz Tm==10)=true∧(∃ y1:Tm,AV.pv (PV.rptr (PV.cells (List.getD (List.map enc (TS.k x)) (Int.toNat k) default)))=AV.pv (PV.rptr (PV.cells ((enc) y1)))∧(shT y1=true∧((Go.Pl.preT (fun(x:Tm×Tm×Unit)=>tW x.1&&tW x.2.1) [(eS y0.1),BO y1])=true∧(∃ y2:Bool,AV.pv (Zj (fun(x:Tm×Tm×Unit)=>Ri x.1 x.2.1) [(eS y0.1),BO y1])=AV.pv (enc y2)∧(if (!y2)=true then G ((.bool false))else((decide (0<=k)&&decide (Int.toNat k<List.length (List.map enc (TS.k x)))&&Enc.sz Tm==10)=true∧(∃ y3:Tm,AV.pv (PV.rptr (PV.cells (List.getD (List.map enc (TS.k x)) (Int.toNat k) default)))=AV.pv (PV.rptr (PV.cells ((enc) y3)))∧(shT y3=true∧((Go.Pl.preT (fun(x:Tm×Unit)=>tW x.1) (agT y3))=true∧(∃ y4:Int,AV.pv (Zj (fun(x:Tm×Unit)=>XN x.1) (agT y3))=AV.pv (enc y4)∧(At Kg 0 (Zb V7 G) Ue 1 92 [(1,(.ptr 0 0)),(3,(.pv (.int .i64 c))),(8,(.pv (.int .i64 i))),(9,(.ptr 1 0)),(10,(.pv (.bool b))),(11,(.pv (.int .i64 (IntKind.wrap IntKind.i64 (a+y4))))),(12,(.pv (.int .i64 (IntKind.wrap IntKind.i64 (k+1)))))] [(.obj (.box (Yb n ks))),(.obj (.box (bS x)))]))))))))))))))else(if (!b)=true then G ((.bool false))else(At Kg 0 (Zb V7 G) Ue 0 92 [(1,(.ptr 0 0)),(3,(.pv (.int .i64 c))),(8,(.pv (.int .i64 (IntKind.wrap IntKind.i64 (i+1)))))] [(.obj (.box (Yb n ks)))]))):At Kg 0 (Zb V7 G) Ue 1 92 [(1,.ptr 0 0),(3,.pv (.int .i64 c)),(8,.pv (.int .i64 i)),(9,.ptr 1 0),(10,.pv (.bool b)),(11,.pv (.int .i64 a)),(12,.pv (.int .i64 k))] [.obj (.box [.pv (enc n.kind),.pv (enc n.line),.pv (enc n.name),.pv (enc n.num),.pv (enc n.elem),.pv (enc n.dims),.pv (enc n.data),.pv (enc n.sizes),.pv (enc n.ranks),.pv (enc ks)]),.obj (.box [.pv (enc x.n.kind),.pv (enc x.n.line),.pv (enc x.n.name),.pv (enc x.n.num),.pv (enc x.n.elem),.pv (enc x.n.dims),.pv (enc x.n.data),.pv (enc x.n.sizes),.pv (enc x.n.ranks),.pv (enc x.k)])]:=At.tp (dm [dv (TS×Bool),dr Tm,dv Bool,dv Int] 55 0x20001402281161000142271212612222022222222200a45102a42) h
end Go.Pl
namespace Go.Pl
open Go.RowKit
open Enc (enc dec is)
open EncL (encL decL isL)
theorem a1A(t:Tm):(agT t:List PV)=encL (t,()):=KQ t
theorem d0m(s t:Tm):([eS (Qf s),BO t]:List PV)=encL (s,t,()):=by rw[Cg,Tp];rfl
theorem d1h(s:Tm)(n:Nd)(ks:List Tm):([eS (Qf s),ndC n ks]:List PV)=encL (s,Tm.mk n ks,()):=by rw[Cg,Vz];rfl
theorem Bg{t x:Tm}{i:Nat}(h:(ZZ t)[i]? = some x):GZ (Vv t (i:Int))=(Qf x,true):=by
 have:Vv t (i:Int)=some x:=(if_pos (by omega)).trans (by rw[Int.toNat_natCast];exact h)
 rw[this];rfl
theorem a8o{t:Tm}{i:Nat}(h:(ZZ t).length<=i):(GZ (Vv t (i:Int))).2=false:=by
 have:Vv t (i:Int)=none:=(if_pos (by omega)).trans (by rw[Int.toNat_natCast];exact List.getElem?_eq_none h)
 rw[this];rfl
abbrev ndO(n:Nd)(ks:List Tm)(c i:Int):Prop:=At Kg 0 (Zb V7 (Zo true)) Ue 0 92 [(1,.ptr 0 0),(3,.pv (.int .i64 c)),(8,.pv (.int .i64 i))] [.obj (.box (Yb n ks))]
theorem c4i(n:Nd)(ks:List Tm)(c i:Int)(hw:tW (.mk n ks)=true)(x:Tm)(i':Nat)(hx:(ZZ (.mk n ks))[i']? = some x)(cont:ndO n ks c (IntKind.i64.wrap (i+1))): ∀ (d j:Nat),d+j=x.ks.length ->
  At Kg 0 (Zb V7 (Zo true)) Ue 1 92 [(1,.ptr 0 0),(3,.pv (.int .i64 c)),(8,.pv (.int .i64 i)),(9,.ptr 1 0),(10,.pv (.bool true)),(11,.pv (.int .i64 ((i'+1+Zk (x.ks.take j):Nat):Int))),(12,.pv (.int .i64 j))] [.obj (.box (Yb n ks)),.obj (.box (bS (Qf x)))]:=by
 obtain⟨xn,xk⟩:=x
 have hxw:tW (.mk xn xk)=true:=c6v (i:=(i':Int)) hw ((if_pos (by omega)).trans (by rw[Int.toNat_natCast];exact hx))
 have hsz:=Va hw
 have hlen:i'<(ZZ (.mk n ks)).length:=(List.getElem?_eq_some_iff.1 hx).1
 rw[WF]at hlen
 have hsx:=Va hxw
 intro d
 induction d with
 | zero=>
  intro j hj
  exact a6s n ks c i j _ (Qf (.mk xn xk)) true (XW (Vu (l:=xk) (by have:0+j=xk.length:=hj;omega)) (Ve (fun h=>nomatch h) fun _=>cont))
 | succ d ih=>
  intro j hj
  have hj:d+1+j=xk.length:=hj
  have h1:j<xk.length:=by omega
  have hk:=c3r hx h1
  have hkw:tW xk[j]=true:=(Yj hxw).2 _ (List.getElem_mem h1)
  have hxl:=(Yj hxw).1
  have e:=Bg hk
  have hkl:i'+1+Zk (xk.take j)<1048577:=by
   have:=(List.getElem?_eq_some_iff.1 hk).1
   rw[WF]at this
   omega
  have hst:=SN xk h1
  have hle:=Ck xk (j+1)
  have hs2:Zk xk<1048576:=by rw[Zr]at hsx;omega
  refine a6s n ks c i j _ (Qf (.mk xn xk)) true (XH (WR (l:=xk) h1) ?_)
  refine⟨Ze (Tm.mk n ks,((i'+1+Zk (xk.take j):Nat):Int),()) (ndT n ks ((i'+1+Zk (xk.take j):Nat):Int)).symm hw,Zg (Tm.mk n ks,((i'+1+Zk (xk.take j):Nat):Int),()) (ndT n ks ((i'+1+Zk (xk.take j):Nat):Int)).symm ?_⟩
  have e':GZ (Vv (Tm.mk n ks,((i'+1+Zk (xk.take j):Nat):Int),()).1 (Tm.mk n ks,((i'+1+Zk (xk.take j):Nat):Int),()).2.1)=(Qf xk[j],true):=e
  rw[e']
  refine Ve (fun h=>nomatch h) fun _=>⟨ZQ (l:=xk) h1 rfl,Yf (l:=xk) h1 ⟨WM _,?_⟩⟩
  refine⟨Ze (xk[j],xk[j],()) (d0m _ _) (by show(tW _&&tW _)=true;rw[hkw];rfl),Zg (xk[j],xk[j],()) (d0m _ _) (Ve (fun h=> ?_) fun _=> ?_)⟩
  ·have h:Ri xk[j] xk[j]=false:=h
   rw[Bi]at h
   cases h
  refine⟨ZQ (l:=xk) h1 rfl,Yf (l:=xk) h1 ⟨WM _,Ze (xk[j],()) (a1A _) hkw,Zg (xk[j],()) (a1A _) ?_⟩⟩
  have e2:IntKind.wrap IntKind.i64 (((i'+1+Zk (xk.take j):Nat):Int)+XN xk[j])=((i'+1+Zk (xk.take (j+1)):Nat):Int):=by
   unfold XN
   rw[hst,show((i'+1+Zk (xk.take j):Nat):Int)+(Zr xk[j]:Int)=((i'+1+(Zk (xk.take j)+Zr xk[j]):Nat):Int) by omega]
   exact TY (by omega) (by omega)
  show At _ _ _ _ 1 92 [_,_,_,_,_,(11,.pv (.int .i64 (IntKind.wrap IntKind.i64 (((i'+1+Zk (xk.take j):Nat):Int)+XN xk[j])))),_] _
  rw[e2,next (by omega)]
  exact ih (j+1) (by show d+(j+1)=xk.length;omega)
theorem b5p(n:Nd)(ks:List Tm)(hw:tW (.mk n ks)=true): ∀ (d i:Nat),d+i=Zr (.mk n ks)->ndO n ks (Zr (.mk n ks):Int) i:=by
 have hsz:=Va hw
 intro d
 induction d with
 | zero=>
  intro i hi
  exact a6r n ks _ i (XW (by simp;omega) (ZC rfl))
 | succ d ih=>
  intro i hi
  have h1:i<(ZZ (.mk n ks)).length:=by rw[WF];omega
  have hx:(ZZ (.mk n ks))[i]? = some (ZZ (.mk n ks))[i]:=List.getElem?_eq_getElem h1
  refine a6r n ks _ i (XH (by simp;omega) ⟨Ze (Tm.mk n ks,(i:Int),()) (ndT n ks (i:Int)).symm hw,Zg (Tm.mk n ks,(i:Int),()) (ndT n ks (i:Int)).symm ?_⟩)
  have e':GZ (Vv (Tm.mk n ks,(i:Int),()).1 (Tm.mk n ks,(i:Int),()).2.1)=(Qf (ZZ (.mk n ks))[i],true):=Bg hx
  rw[e',next (by omega)]
  exact c4i n ks _ i hw _ i hx (by rw[next (by omega)];exact ih (i+1) (by omega)) (ZZ (.mk n ks))[i].ks.length 0 (Nat.add_zero _)
theorem b6h: ∀ x:Tm×Unit,tW x.1=true->Zd Kg 0 (Zb V7 (Zo true)) Ue [] (Ya c4h (encL x)):=by
 rintro⟨⟨n,ks⟩,⟨⟩⟩ hw
 rw[<- nd1]
 refine c8v n ks (Zg () rfl (Ve (fun h=>nomatch h) fun _=> ?_))
 refine⟨Ze (Tm.mk n ks,(30:Int),()) (ndT n ks (30:Int)).symm hw,Zg (Tm.mk n ks,(30:Int),()) (ndT n ks (30:Int)).symm (Ve (fun _=>ZC rfl) fun _=> ?_)⟩
 refine⟨Ze (Tm.mk n ks,()) (XD n ks) hw,Zg (Tm.mk n ks,()) (XD n ks) ?_⟩
 refine⟨Ze (Tm.mk n ks,(0:Int),()) (ndT n ks (0:Int)).symm hw,Zg (Tm.mk n ks,(0:Int),()) (ndT n ks (0:Int)).symm ?_⟩
 refine⟨Ze (Tm.mk n ks,XN (.mk n ks),()) (ndT n ks (XN (.mk n ks))).symm hw,Zg (Tm.mk n ks,XN (.mk n ks),()) (ndT n ks (XN (.mk n ks))).symm ?_⟩
 have e0:GZ (Vv (Tm.mk n ks,(0:Int),()).1 (Tm.mk n ks,(0:Int),()).2.1)=(Qf (.mk n ks),true):=Bg (t:=.mk n ks) (i:=0) (by rw[Qa];rfl)
 rw[e0]
 have e1:(GZ (Vv (Tm.mk n ks,XN (.mk n ks),()).1 (Tm.mk n ks,XN (.mk n ks),()).2.1)).2=false:=a8o (t:=.mk n ks) (i:=Zr (.mk n ks)) (by rw[WF];exact Nat.le_refl _)
 refine Ve (fun h=>nomatch h) fun _=>Vf (fun h=>by rw[e1]at h;cases h) fun _=> ?_
 refine⟨Ze (Tm.mk n ks,Tm.mk n ks,()) (d1h _ n ks) (by show(tW _&&tW _)=true;have hw:tW (.mk n ks)=true:=hw;rw[hw];rfl),Zg (Tm.mk n ks,Tm.mk n ks,()) (d1h _ n ks) (Ve (fun h=> ?_) fun _=> ?_)⟩
 ·have h:Ri (.mk n ks) (.mk n ks)=false:=h
  rw[Bi]at h
  cases h
 ·exact b5p n ks hw (Zr (.mk n ks)) 0 (by omega)
end Go.Pl
namespace Go.Pl
open Go.RowKit
open Enc (enc dec is)
open EncL (encL decL isL)
set_option maxRecDepth 100000
def Xy:IC:=(WN [ZB 1 (.box 10 (.t 0)) 0,ZB 2 (.alloc (.agg [(.int .i64 0),(.int .i64 0),(.str []),(.int .i64 0),(.str []),(.sl 0 true []),(.sl 0 true []),(.sl 0 true []),(.sl 0 true []),(.sl 0 true [])])) 1] (.seq (.reg [ZB 5 (.faddr 4 (.t 1)) 0,ZB 6 (.faddr 0 (.t 5)) 0,ZB 7 (.load false [.str] (.t 6)) 0,ZB 8 (.faddr 4 (.t 1)) 0,ZB 9 (.faddr 1 (.t 8)) 0,ZB 10 (Dz [(.sl 1)] (.t 9)) 0,ZB 11 (c'' 93 [(.t 10)]) 0,ZB 12 (.faddr 4 (.t 1)) 2,ZB 13 (.faddr 2 (.t 12)) 2,ZB 14 (Dz [(.sl 1)] (.t 13)) 2,ZB 15 (c'' 93 [(.t 14)]) 2,ZB 16 (.build [(.str []),(.sl 0 true []),(.sl 0 true [])] [(0,(1,(.t 7))),(1,(1,(.t 11))),(2,(1,(.t 15)))]) 4,ZB 17 (.faddr 4 (.t 1)) 4,CL (.store 3 (.t 17) (.t 16)) 4] (some [[],[0],[1,0],[],[3],[4,3],[5,4,3],[],[7],[8,7],[9,6,8,7,5,4,3],[2,6,10,1,0,5,4,3,9,8,7],[0,1,2,3,4,5,6,7,8,9,10,11],[12,11,10,0,1,2,3,4,5,6,7,8,9]])) (WN [ZB 18 (.faddr 8 (.t 1)) 0,ZB 19 (Dz [(.sl 1)] (.t 18)) 0,ZB 20 (c'' 93 [(.t 19)]) 0,ZB 21 (.faddr 8 (.t 1)) 2,CL (.store 1 (.t 21) (.t 20)) 2] (WN [ZB 22 (.faddr 7 (.t 1)) 0,ZB 23 (Dz [(.sl 2)] (.t 22)) 0,ZB 24 (c'' 94 [(.t 23)]) 0,ZB 25 (.faddr 7 (.t 1)) 2,CL (.store 1 (.t 25) (.t 24)) 2] (.seq (WN [ZB 26 (.faddr 7 (.t 1)) 0,ZB 27 (Dz [(.sl 2)] (.t 26)) 0,ZB 28 (.len 1 (.t 27)) 0,ZB 29 (.mv (U3 0)) 0] (.block 0 (.loop [29,28,1,49,50,52,51,53,54,55,4,58,59,60,61,62,56,57,64,63,65,2,66] (WN [ZB 30 (Hl .lss (.t 29) (.t 28)) 0] (.seq (.cond (.t 30) .skip (.exit 0)) (.seq (.block 1 (WN [ZB 31 (Wj 29) 0,ZB 3 (Wj 31) 0] (.reg [ZB 32 (.faddr 7 (.t 1)) 0,ZB 33 (Dz [(.sl 2)] (.t 32)) 0,ZB 34 (Wj 3) 0,ZB 35 (.faddr 7 (.t 1)) 0,ZB 36 (Dz [(.sl 2)] (.t 35)) 0,ZB 37 (Wj 3) 0,ZB 38 (.iaddr 2 (.t 36) (.t 37)) 0,ZB 39 (.faddr 1 (.t 38)) 0,ZB 40 (Dz [(.sl 2)] (.t 39)) 0,ZB 41 (c'' 95 [(.t 40)]) 0,ZB 42 (.iaddr 2 (.t 33) (.t 34)) 2,ZB 43 (.faddr 1 (.t 42)) 2,CL (.store 1 (.t 43) (.t 41)) 2] (some [[],[0],[],[],[3],[],[4,5,3],[6,4,5,3],[7,6,4,5,3],[8,7,6,4,5,3],[1,2,0,3,4,5,6,7,8,9],[10,0,1,2,3,4,5,6,7,8,9],[11,9,0,1,2,3,4,5,6,7,8,10]])))) (.reg [ZB 44 (Hl .add (.t 29) (U3 1)) 0,ZB 29 (Wj 44) 0] none))))))) (WN [ZB 45 (.faddr 9 (.t 1)) 0,ZB 46 (Dz [(.sl 10)] (.t 45)) 0,ZB 47 (c'' 96 [(.t 46)]) 0,ZB 48 (.faddr 9 (.t 1)) 2,CL (.store 1 (.t 48) (.t 47)) 2] (.ext 0 [1,49,50,52,51,53,54,55,4,58,59,60,61,62,56,57,64,63,65,2,66])))))))
def U8:Zz:=YG [(93,.pure (preT (fun x:List Int×Unit=>decide (x.1.length<=2000000))) (Zj (fun x:List Int×Unit=>x.1))),(94,.own (Yd 2) (Xc 62 2)),(95,.pure (preT (fun x:List Coef×Unit=>decide (x.1.length<=2000000))) (Zj (fun x:List Coef×Unit=>x.1))),(96,.own (Yd 10) (Xc 28 10))]
theorem c8c{G:Zm->Prop}(RR:Nat->St->Prop)(n:Nd)(ks:List Tm)(h:(Go.Pl.preT (fun(x:List Int×Unit)=>decide (List.length x.1<=2000000)) [(.sl 1 false (List.map enc (Nd.dims n)))])=true∧(∃ y0:List Int,AV.pv (Zj (fun(x:List Int×Unit)=>x.1) [(.sl 1 false (List.map enc (Nd.dims n)))])=AV.pv (enc y0)∧((Go.Pl.preT (fun(x:List Int×Unit)=>decide (List.length x.1<=2000000)) [(.sl 1 false (List.map enc (Nd.data n)))])=true∧(∃ y1:List Int,AV.pv (Zj (fun(x:List Int×Unit)=>x.1) [(.sl 1 false (List.map enc (Nd.data n)))])=AV.pv (enc y1)∧((Go.Pl.preT (fun(x:List Int×Unit)=>decide (List.length x.1<=2000000)) [(.sl 1 false (List.map enc (Nd.ranks n)))])=true∧(∃ y2:List Int,AV.pv (Zj (fun(x:List Int×Unit)=>x.1) [(.sl 1 false (List.map enc (Nd.ranks n)))])=AV.pv (enc y2)∧((Yd 2 [(.pv (.sl 2 false (List.map enc (Nd.sizes n))))] [])=true∧(OZ U8 (Wz RR) 0 (fun st=>G st.heap) Xy 0 67 [(1,(.ptr 0 0)),(2,(.ptr 1 0)),(4,.undef),(28,(.pv (.int .i64 (↑(List.length (List.map enc (Nd.sizes n)) - 0):Int)))),(29,(.pv (.int .i64 0))),(49,.undef),(50,.undef),(51,.undef),(52,.undef),(53,.undef),(54,.undef),(55,.undef),(56,.undef),(57,.undef),(58,.undef),(59,.undef),(60,.undef),(61,.undef),(62,.undef),(63,.undef),(64,.undef),(65,.undef),(66,.undef)] [(.obj (.box [(.pv (.int .i64 (Nd.kind n))),(.pv (.int .i64 (Nd.line n))),(.pv (.str (Str.s (Nd.name n)))),(.pv (.int .i64 (Nd.num n))),(.pv (.str (Str.s (Nd.elem n)))),(.pv (.sl 1 false (List.map enc y0))),(.pv (.sl 1 false (List.map enc y1))),(.row 2 (List.length (List.map enc (Nd.sizes n))) 0 (List.length (List.map enc (Nd.sizes n)))),(.pv (.sl 1 false (List.map enc y2))),(.pv (.sl 10 false (List.map enc ks)))])),(.obj (.box [(.pv (.int .i64 0)),(.pv (.int .i64 0)),(.pv (.str [])),(.pv (.int .i64 0)),(.pv (.str [])),(.pv (.sl 0 true [])),(.pv (.sl 0 true [])),(.pv (.sl 0 true [])),(.pv (.sl 0 true [])),(.pv (.sl 0 true []))])),(.obj (.row false 62 2 (List.map enc (Nd.sizes n))))])))))))):Zw U8 (Wz RR) 0 (fun st=>G st.heap) (.inl Xy) [] (XQ 67 [.pv (.agg [enc n.kind,enc n.line,enc n.name,enc n.num,enc n.elem,enc n.dims,enc n.data,enc n.sizes,enc n.ranks,enc ks])] []):=Zw.mh (dm [dv (List Int)] 10 0x31515151) h
theorem a0c{G:Zm->Prop}(RR:Nat->St->Prop)(n:Nd)(ks:List Tm)(m:Nat)(L:List Lin)(i:Int)(h:if (decide (i<(↑m:Int)))=true then(decide (0<=i)&&decide (0+Int.toNat i<m)&&List.length (List.map enc L)==m)=true∧((List.length (List.map enc L)==m&&decide (0+Int.toNat i<List.length (List.map enc L)))=true∧((decide (0+1+List.length [Sh.sl 2]<=List.length (PV.cells (List.getD (List.map enc L) (0+Int.toNat i) default)))&&Yn (PV.cells (List.getD (List.map enc L) (0+Int.toNat i) default)) (0+1) [Sh.sl 2])=true∧((Go.Pl.preT (fun(x:List Coef×Unit)=>decide (List.length x.1<=2000000)) [(.sl 2 (PV.asT (List.getD (PV.cells (List.getD (List.map enc L) (0+Int.toNat i) default)) (0+1) default)) (PV.asXs (List.getD (PV.cells (List.getD (List.map enc L) (0+Int.toNat i) default)) (0+1) default)))])=true∧(∃ y0:List Coef,AV.pv (Zj (fun(x:List Coef×Unit)=>x.1) [(.sl 2 (PV.asT (List.getD (PV.cells (List.getD (List.map enc L) (0+Int.toNat i) default)) (0+1) default)) (PV.asXs (List.getD (PV.cells (List.getD (List.map enc L) (0+Int.toNat i) default)) (0+1) default)))])=AV.pv (enc y0)∧((decide (0<=i)&&decide (0+Int.toNat i<m)&&List.length (List.map enc L)==m)=true∧((List.length (List.map enc L)==m&&decide (0+Int.toNat i<List.length (List.map enc L))&&List.length (PV.cells (enc y0))==1&&decide (0+1+1<=List.length (PV.cells (List.getD (List.map enc L) (0+Int.toNat i) default)))&&PV.cellsOk (enc y0))=true∧(OZ U8 (Wz RR) 0 (fun st=>G st.heap) Xy 0 67 [(1,(.ptr 0 0)),(2,(.ptr 1 0)),(4,.undef),(28,(.pv (.int .i64 (↑m:Int)))),(29,(.pv (.int .i64 (IntKind.wrap IntKind.i64 (i+1))))),(49,.undef),(50,.undef),(51,.undef),(52,.undef),(53,.undef),(54,.undef),(55,.undef),(56,.undef),(57,.undef),(58,.undef),(59,.undef),(60,.undef),(61,.undef),(62,.undef),(63,.undef),(64,.undef),(65,.undef),(66,.undef)] [(.obj (.box [(.pv (.int .i64 (Nd.kind n))),(.pv (.int .i64 (Nd.line n))),(.pv (.str (Str.s (Nd.name n)))),(.pv (.int .i64 (Nd.num n))),(.pv (.str (Str.s (Nd.elem n)))),(.pv (.sl 1 false (List.map enc (Nd.dims n)))),(.pv (.sl 1 false (List.map enc (Nd.data n)))),(.row 2 m 0 m),(.pv (.sl 1 false (List.map enc (Nd.ranks n)))),(.pv (.sl 10 false (List.map enc ks)))])),(.obj (.box [(.pv (.int .i64 0)),(.pv (.int .i64 0)),(.pv (.str [])),(.pv (.int .i64 0)),(.pv (.str [])),(.pv (.sl 0 true [])),(.pv (.sl 0 true [])),(.pv (.sl 0 true [])),(.pv (.sl 0 true [])),(.pv (.sl 0 true []))])),(.obj (.row false 62 2 (List.set (List.map enc L) (0+Int.toNat i) (PV.withCells (List.getD (List.map enc L) (0+Int.toNat i) default) (splice (PV.cells (List.getD (List.map enc L) (0+Int.toNat i) default)) (0+1) (PV.cells (enc y0)))))))])))))))else((Yd 10 [(.pv (.sl 10 false (List.map enc ks)))] [])=true∧((Wz RR) 0 ⟨ZI 67 0 [(1,(.ptr 0 0)),(2,(.ptr 1 0)),(4,.undef),(49,.undef),(50,.undef),(51,.undef),(52,.undef),(53,.undef),(54,.undef),(55,.undef),(56,.undef),(57,.undef),(58,.undef),(59,.undef),(60,.undef),(61,.undef),(62,.undef),(63,.undef),(64,.undef),(65,.undef),(66,.undef)],[(.obj (.box [(.pv (.int .i64 (Nd.kind n))),(.pv (.int .i64 (Nd.line n))),(.pv (.str (Str.s (Nd.name n)))),(.pv (.int .i64 (Nd.num n))),(.pv (.str (Str.s (Nd.elem n)))),(.pv (.sl 1 false (List.map enc (Nd.dims n)))),(.pv (.sl 1 false (List.map enc (Nd.data n)))),(.row 2 m 0 m),(.pv (.sl 1 false (List.map enc (Nd.ranks n)))),(.row 3 (List.length (List.map enc ks)) 0 (List.length (List.map enc ks)))])),(.obj (.box [(.pv (.int .i64 0)),(.pv (.int .i64 0)),(.pv (.str [])),(.pv (.int .i64 0)),(.pv (.str [])),(.pv (.sl 0 true [])),(.pv (.sl 0 true [])),(.pv (.sl 0 true [])),(.pv (.sl 0 true [])),(.pv (.sl 0 true []))])),(.obj (.row false 62 2 (List.map enc L))),(.obj (.row false 28 10 (List.map enc ks)))]⟩ (fun x S'=>Qo U8 (Wz RR) 0 (fun st=>G st.heap) Xy 0 x S')))):OZ U8 (Wz RR) 0 (fun st=>G st.heap) Xy 0 67 [(1,.ptr 0 0),(2,.ptr 1 0),(4,.undef),(28,.pv (.int .i64 m)),(29,.pv (.int .i64 i)),(49,.undef),(50,.undef),(51,.undef),(52,.undef),(53,.undef),(54,.undef),(55,.undef),(56,.undef),(57,.undef),(58,.undef),(59,.undef),(60,.undef),(61,.undef),(62,.undef),(63,.undef),(64,.undef),(65,.undef),(66,.undef)] [.obj (.box [.pv (enc n.kind),.pv (enc n.line),.pv (enc n.name),.pv (enc n.num),.pv (enc n.elem),.pv (enc n.dims),.pv (enc n.data),.row 2 m 0 m,.pv (enc n.ranks),.pv (enc ks)]),.obj (.box [.pv (.int .i64 0),.pv (.int .i64 0),.pv (.str []),.pv (.int .i64 0),.pv (.str []),.pv (.sl 0 true []),.pv (.sl 0 true []),.pv (.sl 0 true []),.pv (.sl 0 true []),.pv (.sl 0 true [])]),.obj (.row false 62 2 (L.map enc))]:=Zw.mh (dm [dv (List Coef)] 20 0x310213151113100b42) h
def Q6:IC:=Xy
def JY:Zz:=YG [(93,.pure (preT (fun x:List Int×Unit=>decide (x.1.length<=2000000))) (Zj (fun x:List Int×Unit=>x.1))),(94,.pure (preT (fun x:List Lin×Unit=>x.1.isEmpty)) (Zj (fun x:List Lin×Unit=>x.1))),(95,.pure (preT (fun x:List Coef×Unit=>decide (x.1.length<=2000000))) (Zj (fun x:List Coef×Unit=>x.1))),(96,.own (Yd 10) (Xc 28 10))]
theorem c5i{G:Zm->Prop}(RR:Nat->St->Prop)(n:Nd)(ks:List Tm)(h:(Go.Pl.preT (fun(x:List Int×Unit)=>decide (List.length x.1<=2000000)) [(.sl 1 false (List.map enc (Nd.dims n)))])=true∧(∃ y0:List Int,AV.pv (Zj (fun(x:List Int×Unit)=>x.1) [(.sl 1 false (List.map enc (Nd.dims n)))])=AV.pv (enc y0)∧((Go.Pl.preT (fun(x:List Int×Unit)=>decide (List.length x.1<=2000000)) [(.sl 1 false (List.map enc (Nd.data n)))])=true∧(∃ y1:List Int,AV.pv (Zj (fun(x:List Int×Unit)=>x.1) [(.sl 1 false (List.map enc (Nd.data n)))])=AV.pv (enc y1)∧((Go.Pl.preT (fun(x:List Int×Unit)=>decide (List.length x.1<=2000000)) [(.sl 1 false (List.map enc (Nd.ranks n)))])=true∧(∃ y2:List Int,AV.pv (Zj (fun(x:List Int×Unit)=>x.1) [(.sl 1 false (List.map enc (Nd.ranks n)))])=AV.pv (enc y2)∧((Go.Pl.preT (fun(x:List Lin×Unit)=>List.isEmpty x.1) [(.sl 2 false (List.map enc (Nd.sizes n)))])=true∧(∃ y3:List Lin,AV.pv (Zj (fun(x:List Lin×Unit)=>x.1) [(.sl 2 false (List.map enc (Nd.sizes n)))])=AV.pv (enc y3)∧(OZ JY (Wz RR) 0 (fun st=>G st.heap) Q6 0 67 [(1,(.ptr 0 0)),(2,(.ptr 1 0)),(4,.undef),(28,(.pv (.int .i64 (↑(List.length (List.map enc y3)):Int)))),(29,(.pv (.int .i64 0))),(49,.undef),(50,.undef),(51,.undef),(52,.undef),(53,.undef),(54,.undef),(55,.undef),(56,.undef),(57,.undef),(58,.undef),(59,.undef),(60,.undef),(61,.undef),(62,.undef),(63,.undef),(64,.undef),(65,.undef),(66,.undef)] [(.obj (.box [(.pv (.int .i64 (Nd.kind n))),(.pv (.int .i64 (Nd.line n))),(.pv (.str (Str.s (Nd.name n)))),(.pv (.int .i64 (Nd.num n))),(.pv (.str (Str.s (Nd.elem n)))),(.pv (.sl 1 false (List.map enc y0))),(.pv (.sl 1 false (List.map enc y1))),(.pv (.sl 2 false (List.map enc y3))),(.pv (.sl 1 false (List.map enc y2))),(.pv (.sl 10 false (List.map enc ks)))])),(.obj (.box [(.pv (.int .i64 0)),(.pv (.int .i64 0)),(.pv (.str [])),(.pv (.int .i64 0)),(.pv (.str [])),(.pv (.sl 0 true [])),(.pv (.sl 0 true [])),(.pv (.sl 0 true [])),(.pv (.sl 0 true [])),(.pv (.sl 0 true []))]))]))))))))):Zw JY (Wz RR) 0 (fun st=>G st.heap) (.inl Q6) [] (XQ 67 [.pv (.agg [enc n.kind,enc n.line,enc n.name,enc n.num,enc n.elem,enc n.dims,enc n.data,enc n.sizes,enc n.ranks,enc ks])] []):=Zw.mh (dm [dv (List Int),dv (List Lin)] 10 0x61515151) h
-- BAD 1 in ER
theorem ER{G:Zm->Prop}(RR:Nat->St->Prop)(n:Nd)(ks:List Tm)(m i:Int)(h:if (decide (i<m))=true then(decide (0<=i)&&decide (Int.toNat i<List.length (List.map enc (Nd.sizes n)))&&Enc.sz Lin==2)=true∧(∃ y0:Lin,AV.pv (PV.rptr (PV.cells (List.getD (List.map enc (Nd.sizes n)) (Int.toNat i) default)))=AV.pv (PV.rptr (PV.cells ((enc) y0)))∧((Go.Pl.preT (fun(x:List Coef×Unit)=>decide (List.length x.1<=2000000)) [(.sl 2 false (PV.asXs (List.getD (List.drop 1 (PV.cells (enc y0))) 0 default)))])=true∧(∃ y1:List Coef,AV.pv (Zj (fun(x:List Coef×Unit)=>x.1) [(.sl 2 false (PV.asXs (List.getD (List.drop 1 (PV.cells (enc y0))) 0 default)))])=AV.pv (enc y1)∧((decide (0<=i)&&decide (Int.toNat i<List.length (List.map enc (Nd.sizes n)))&&Enc.sz Lin==2)=true∧(∃ y2:Lin,AV.pv (PV.rptr (PV.cells (List.getD (List.map enc (Nd.sizes n)) (Int.toNat i) default)))=AV.pv (PV.rptr (PV.cells ((enc) y2)))∧(False))))))else((Yd 10 [(.pv (.sl 10 false (List.map enc ks)))] [])=true∧((Wz RR) 0 ⟨ZI 67 0 [(1,(.ptr 0 0)),(2,(.ptr 1 0)),(4,.undef),(49,.undef),(50,.undef),(51,.undef),(52,.undef),(53,.undef),(54,.undef),(55,.undef),(56,.undef),(57,.undef),(58,.undef),(59,.undef),(60,.undef),(61,.undef),(62,.undef),(63,.undef),(64,.undef),(65,.undef),(66,.undef)],[(.obj (.box [(.pv (.int .i64 (Nd.kind n))),(.pv (.int .i64 (Nd.line n))),(.pv (.str (Str.s (Nd.name n)))),(.pv (.int .i64 (Nd.num n))),(.pv (.str (Str.s (Nd.elem n)))),(.pv (.sl 1 false (List.map enc (Nd.dims n)))),(.pv (.sl 1 false (List.map enc (Nd.data n)))),(.pv (.sl 2 false (List.map enc (Nd.sizes n)))),(.pv (.sl 1 false (List.map enc (Nd.ranks n)))),(.row 2 (List.length (List.map enc ks)) 0 (List.length (List.map enc ks)))])),(.obj (.box [(.pv (.int .i64 0)),(.pv (.int .i64 0)),(.pv (.str [])),(.pv (.int .i64 0)),(.pv (.str [])),(.pv (.sl 0 true [])),(.pv (.sl 0 true [])),(.pv (.sl 0 true [])),(.pv (.sl 0 true [])),(.pv (.sl 0 true []))])),(.obj (.row false 28 10 (List.map enc ks)))]⟩ (fun x S'=>Qo JY (Wz RR) 0 (fun st=>G st.heap) Q6 0 x S')))):OZ JY (Wz RR) 0 (fun st=>G st.heap) Q6 0 67 [(1,.ptr 0 0),(2,.ptr 1 0),(4,.undef),(28,.pv (.int .i64 m)),(29,.pv (.int .i64 i)),(49,.undef),(50,.undef),(51,.undef),(52,.undef),(53,.undef),(54,.undef),(55,.undef),(56,.undef),(57,.undef),(58,.undef),(59,.undef),(60,.undef),(61,.undef),(62,.undef),(63,.undef),(64,.undef),(65,.undef),(66,.undef)] [.obj (.box [.pv (enc n.kind),.pv (enc n.line),.pv (enc n.name),.pv (enc n.num),.pv (enc n.elem),.pv (enc n.dims),.pv (enc n.data),.pv (enc n.sizes),.pv (enc n.ranks),.pv (enc ks)]),.obj (.box [.pv (.int .i64 0),.pv (.int .i64 0),.pv (.str []),.pv (.int .i64 0),.pv (.str []),.pv (.sl 0 true []),.pv (.sl 0 true []),.pv (.sl 0 true []),.pv (.sl 0 true []),.pv (.sl 0 true [])])]:=Zw.mh (dm [dr Lin,dv (List Coef)] 17 0x310516125100842) h
def WY:IC:=Xy
def UU:Zz:=YG [(93,.pure (preT (fun x:List Int×Unit=>decide (x.1.length<=2000000))) (Zj (fun x:List Int×Unit=>x.1))),(94,.own (Yd 2) (Xc 62 2)),(95,.pure (preT (fun x:List Coef×Unit=>decide (x.1.length<=2000000))) (Zj (fun x:List Coef×Unit=>x.1))),(96,.pure (preT (fun x:List Tm×Unit=>x.1.isEmpty)) (Zj (fun x:List Tm×Unit=>x.1)))]
theorem c3k{G:Zm->Prop}(RR:Nat->St->Prop)(n:Nd)(ks:List Tm)(h:(Go.Pl.preT (fun(x:List Int×Unit)=>decide (List.length x.1<=2000000)) [(.sl 1 false (List.map enc (Nd.dims n)))])=true∧(∃ y0:List Int,AV.pv (Zj (fun(x:List Int×Unit)=>x.1) [(.sl 1 false (List.map enc (Nd.dims n)))])=AV.pv (enc y0)∧((Go.Pl.preT (fun(x:List Int×Unit)=>decide (List.length x.1<=2000000)) [(.sl 1 false (List.map enc (Nd.data n)))])=true∧(∃ y1:List Int,AV.pv (Zj (fun(x:List Int×Unit)=>x.1) [(.sl 1 false (List.map enc (Nd.data n)))])=AV.pv (enc y1)∧((Go.Pl.preT (fun(x:List Int×Unit)=>decide (List.length x.1<=2000000)) [(.sl 1 false (List.map enc (Nd.ranks n)))])=true∧(∃ y2:List Int,AV.pv (Zj (fun(x:List Int×Unit)=>x.1) [(.sl 1 false (List.map enc (Nd.ranks n)))])=AV.pv (enc y2)∧((Yd 2 [(.pv (.sl 2 false (List.map enc (Nd.sizes n))))] [])=true∧(OZ UU (Wz RR) 0 (fun st=>G st.heap) WY 0 67 [(1,(.ptr 0 0)),(2,(.ptr 1 0)),(4,.undef),(28,(.pv (.int .i64 (↑(List.length (List.map enc (Nd.sizes n)) - 0):Int)))),(29,(.pv (.int .i64 0))),(49,.undef),(50,.undef),(51,.undef),(52,.undef),(53,.undef),(54,.undef),(55,.undef),(56,.undef),(57,.undef),(58,.undef),(59,.undef),(60,.undef),(61,.undef),(62,.undef),(63,.undef),(64,.undef),(65,.undef),(66,.undef)] [(.obj (.box [(.pv (.int .i64 (Nd.kind n))),(.pv (.int .i64 (Nd.line n))),(.pv (.str (Str.s (Nd.name n)))),(.pv (.int .i64 (Nd.num n))),(.pv (.str (Str.s (Nd.elem n)))),(.pv (.sl 1 false (List.map enc y0))),(.pv (.sl 1 false (List.map enc y1))),(.row 2 (List.length (List.map enc (Nd.sizes n))) 0 (List.length (List.map enc (Nd.sizes n)))),(.pv (.sl 1 false (List.map enc y2))),(.pv (.sl 10 false (List.map enc ks)))])),(.obj (.box [(.pv (.int .i64 0)),(.pv (.int .i64 0)),(.pv (.str [])),(.pv (.int .i64 0)),(.pv (.str [])),(.pv (.sl 0 true [])),(.pv (.sl 0 true [])),(.pv (.sl 0 true [])),(.pv (.sl 0 true [])),(.pv (.sl 0 true []))])),(.obj (.row false 62 2 (List.map enc (Nd.sizes n))))])))))))):Zw UU (Wz RR) 0 (fun st=>G st.heap) (.inl WY) [] (XQ 67 [.pv (.agg [enc n.kind,enc n.line,enc n.name,enc n.num,enc n.elem,enc n.dims,enc n.data,enc n.sizes,enc n.ranks,enc ks])] []):=Zw.mh (dm [dv (List Int)] 10 0x31515151) h
theorem a0d{G:Zm->Prop}(RR:Nat->St->Prop)(n:Nd)(ks:List Tm)(m:Nat)(L:List Lin)(i:Int)(h:if (decide (i<(↑m:Int)))=true then(decide (0<=i)&&decide (0+Int.toNat i<m)&&List.length (List.map enc L)==m)=true∧((List.length (List.map enc L)==m&&decide (0+Int.toNat i<List.length (List.map enc L)))=true∧((decide (0+1+List.length [Sh.sl 2]<=List.length (PV.cells (List.getD (List.map enc L) (0+Int.toNat i) default)))&&Yn (PV.cells (List.getD (List.map enc L) (0+Int.toNat i) default)) (0+1) [Sh.sl 2])=true∧((Go.Pl.preT (fun(x:List Coef×Unit)=>decide (List.length x.1<=2000000)) [(.sl 2 (PV.asT (List.getD (PV.cells (List.getD (List.map enc L) (0+Int.toNat i) default)) (0+1) default)) (PV.asXs (List.getD (PV.cells (List.getD (List.map enc L) (0+Int.toNat i) default)) (0+1) default)))])=true∧(∃ y0:List Coef,AV.pv (Zj (fun(x:List Coef×Unit)=>x.1) [(.sl 2 (PV.asT (List.getD (PV.cells (List.getD (List.map enc L) (0+Int.toNat i) default)) (0+1) default)) (PV.asXs (List.getD (PV.cells (List.getD (List.map enc L) (0+Int.toNat i) default)) (0+1) default)))])=AV.pv (enc y0)∧((decide (0<=i)&&decide (0+Int.toNat i<m)&&List.length (List.map enc L)==m)=true∧((List.length (List.map enc L)==m&&decide (0+Int.toNat i<List.length (List.map enc L))&&List.length (PV.cells (enc y0))==1&&decide (0+1+1<=List.length (PV.cells (List.getD (List.map enc L) (0+Int.toNat i) default)))&&PV.cellsOk (enc y0))=true∧(OZ UU (Wz RR) 0 (fun st=>G st.heap) WY 0 67 [(1,(.ptr 0 0)),(2,(.ptr 1 0)),(4,.undef),(28,(.pv (.int .i64 (↑m:Int)))),(29,(.pv (.int .i64 (IntKind.wrap IntKind.i64 (i+1))))),(49,.undef),(50,.undef),(51,.undef),(52,.undef),(53,.undef),(54,.undef),(55,.undef),(56,.undef),(57,.undef),(58,.undef),(59,.undef),(60,.undef),(61,.undef),(62,.undef),(63,.undef),(64,.undef),(65,.undef),(66,.undef)] [(.obj (.box [(.pv (.int .i64 (Nd.kind n))),(.pv (.int .i64 (Nd.line n))),(.pv (.str (Str.s (Nd.name n)))),(.pv (.int .i64 (Nd.num n))),(.pv (.str (Str.s (Nd.elem n)))),(.pv (.sl 1 false (List.map enc (Nd.dims n)))),(.pv (.sl 1 false (List.map enc (Nd.data n)))),(.row 2 m 0 m),(.pv (.sl 1 false (List.map enc (Nd.ranks n)))),(.pv (.sl 10 false (List.map enc ks)))])),(.obj (.box [(.pv (.int .i64 0)),(.pv (.int .i64 0)),(.pv (.str [])),(.pv (.int .i64 0)),(.pv (.str [])),(.pv (.sl 0 true [])),(.pv (.sl 0 true [])),(.pv (.sl 0 true [])),(.pv (.sl 0 true [])),(.pv (.sl 0 true []))])),(.obj (.row false 62 2 (List.set (List.map enc L) (0+Int.toNat i) (PV.withCells (List.getD (List.map enc L) (0+Int.toNat i) default) (splice (PV.cells (List.getD (List.map enc L) (0+Int.toNat i) default)) (0+1) (PV.cells (enc y0)))))))])))))))else((Go.Pl.preT (fun(x:List Tm×Unit)=>List.isEmpty x.1) [(.sl 10 false (List.map enc ks))])=true∧(∃ y1:List Tm,AV.pv (Zj (fun(x:List Tm×Unit)=>x.1) [(.sl 10 false (List.map enc ks))])=AV.pv (enc y1)∧((Wz RR) 0 ⟨ZI 67 0 [(1,(.ptr 0 0)),(2,(.ptr 1 0)),(4,.undef),(49,.undef),(50,.undef),(51,.undef),(52,.undef),(53,.undef),(54,.undef),(55,.undef),(56,.undef),(57,.undef),(58,.undef),(59,.undef),(60,.undef),(61,.undef),(62,.undef),(63,.undef),(64,.undef),(65,.undef),(66,.undef)],[(.obj (.box [(.pv (.int .i64 (Nd.kind n))),(.pv (.int .i64 (Nd.line n))),(.pv (.str (Str.s (Nd.name n)))),(.pv (.int .i64 (Nd.num n))),(.pv (.str (Str.s (Nd.elem n)))),(.pv (.sl 1 false (List.map enc (Nd.dims n)))),(.pv (.sl 1 false (List.map enc (Nd.data n)))),(.row 2 m 0 m),(.pv (.sl 1 false (List.map enc (Nd.ranks n)))),(.pv (.sl 10 false (List.map enc y1)))])),(.obj (.box [(.pv (.int .i64 0)),(.pv (.int .i64 0)),(.pv (.str [])),(.pv (.int .i64 0)),(.pv (.str [])),(.pv (.sl 0 true [])),(.pv (.sl 0 true [])),(.pv (.sl 0 true [])),(.pv (.sl 0 true [])),(.pv (.sl 0 true []))])),(.obj (.row false 62 2 (List.map enc L)))]⟩ (fun x S'=>Qo UU (Wz RR) 0 (fun st=>G st.heap) WY 0 x S'))))):OZ UU (Wz RR) 0 (fun st=>G st.heap) WY 0 67 [(1,.ptr 0 0),(2,.ptr 1 0),(4,.undef),(28,.pv (.int .i64 m)),(29,.pv (.int .i64 i)),(49,.undef),(50,.undef),(51,.undef),(52,.undef),(53,.undef),(54,.undef),(55,.undef),(56,.undef),(57,.undef),(58,.undef),(59,.undef),(60,.undef),(61,.undef),(62,.undef),(63,.undef),(64,.undef),(65,.undef),(66,.undef)] [.obj (.box [.pv (enc n.kind),.pv (enc n.line),.pv (enc n.name),.pv (enc n.num),.pv (enc n.elem),.pv (enc n.dims),.pv (enc n.data),.row 2 m 0 m,.pv (enc n.ranks),.pv (enc ks)]),.obj (.box [.pv (.int .i64 0),.pv (.int .i64 0),.pv (.str []),.pv (.int .i64 0),.pv (.str []),.pv (.sl 0 true []),.pv (.sl 0 true []),.pv (.sl 0 true []),.pv (.sl 0 true []),.pv (.sl 0 true [])]),.obj (.row false 62 2 (L.map enc))]:=Zw.mh (dm [dv (List Coef),dv (List Tm)] 20 0x610213151113100b42) h
def QM:IC:=Xy
def Hz:Zz:=YG [(93,.pure (preT (fun x:List Int×Unit=>decide (x.1.length<=2000000))) (Zj (fun x:List Int×Unit=>x.1))),(94,.pure (preT (fun x:List Lin×Unit=>x.1.isEmpty)) (Zj (fun x:List Lin×Unit=>x.1))),(95,.pure (preT (fun x:List Coef×Unit=>decide (x.1.length<=2000000))) (Zj (fun x:List Coef×Unit=>x.1))),(96,.pure (preT (fun x:List Tm×Unit=>x.1.isEmpty)) (Zj (fun x:List Tm×Unit=>x.1)))]
theorem c8d{G:Zm->Prop}(RR:Nat->St->Prop)(n:Nd)(ks:List Tm)(h:(Go.Pl.preT (fun(x:List Int×Unit)=>decide (List.length x.1<=2000000)) [(.sl 1 false (List.map enc (Nd.dims n)))])=true∧(∃ y0:List Int,AV.pv (Zj (fun(x:List Int×Unit)=>x.1) [(.sl 1 false (List.map enc (Nd.dims n)))])=AV.pv (enc y0)∧((Go.Pl.preT (fun(x:List Int×Unit)=>decide (List.length x.1<=2000000)) [(.sl 1 false (List.map enc (Nd.data n)))])=true∧(∃ y1:List Int,AV.pv (Zj (fun(x:List Int×Unit)=>x.1) [(.sl 1 false (List.map enc (Nd.data n)))])=AV.pv (enc y1)∧((Go.Pl.preT (fun(x:List Int×Unit)=>decide (List.length x.1<=2000000)) [(.sl 1 false (List.map enc (Nd.ranks n)))])=true∧(∃ y2:List Int,AV.pv (Zj (fun(x:List Int×Unit)=>x.1) [(.sl 1 false (List.map enc (Nd.ranks n)))])=AV.pv (enc y2)∧((Go.Pl.preT (fun(x:List Lin×Unit)=>List.isEmpty x.1) [(.sl 2 false (List.map enc (Nd.sizes n)))])=true∧(∃ y3:List Lin,AV.pv (Zj (fun(x:List Lin×Unit)=>x.1) [(.sl 2 false (List.map enc (Nd.sizes n)))])=AV.pv (enc y3)∧(OZ Hz (Wz RR) 0 (fun st=>G st.heap) QM 0 67 [(1,(.ptr 0 0)),(2,(.ptr 1 0)),(4,.undef),(28,(.pv (.int .i64 (↑(List.length (List.map enc y3)):Int)))),(29,(.pv (.int .i64 0))),(49,.undef),(50,.undef),(51,.undef),(52,.undef),(53,.undef),(54,.undef),(55,.undef),(56,.undef),(57,.undef),(58,.undef),(59,.undef),(60,.undef),(61,.undef),(62,.undef),(63,.undef),(64,.undef),(65,.undef),(66,.undef)] [(.obj (.box [(.pv (.int .i64 (Nd.kind n))),(.pv (.int .i64 (Nd.line n))),(.pv (.str (Str.s (Nd.name n)))),(.pv (.int .i64 (Nd.num n))),(.pv (.str (Str.s (Nd.elem n)))),(.pv (.sl 1 false (List.map enc y0))),(.pv (.sl 1 false (List.map enc y1))),(.pv (.sl 2 false (List.map enc y3))),(.pv (.sl 1 false (List.map enc y2))),(.pv (.sl 10 false (List.map enc ks)))])),(.obj (.box [(.pv (.int .i64 0)),(.pv (.int .i64 0)),(.pv (.str [])),(.pv (.int .i64 0)),(.pv (.str [])),(.pv (.sl 0 true [])),(.pv (.sl 0 true [])),(.pv (.sl 0 true [])),(.pv (.sl 0 true [])),(.pv (.sl 0 true []))]))]))))))))):Zw Hz (Wz RR) 0 (fun st=>G st.heap) (.inl QM) [] (XQ 67 [.pv (.agg [enc n.kind,enc n.line,enc n.name,enc n.num,enc n.elem,enc n.dims,enc n.data,enc n.sizes,enc n.ranks,enc ks])] []):=Zw.mh (dm [dv (List Int),dv (List Lin)] 10 0x61515151) h
-- BAD 1 in Ew
theorem Ew{G:Zm->Prop}(RR:Nat->St->Prop)(n:Nd)(ks:List Tm)(m i:Int)(h:if (decide (i<m))=true then(decide (0<=i)&&decide (Int.toNat i<List.length (List.map enc (Nd.sizes n)))&&Enc.sz Lin==2)=true∧(∃ y0:Lin,AV.pv (PV.rptr (PV.cells (List.getD (List.map enc (Nd.sizes n)) (Int.toNat i) default)))=AV.pv (PV.rptr (PV.cells ((enc) y0)))∧((Go.Pl.preT (fun(x:List Coef×Unit)=>decide (List.length x.1<=2000000)) [(.sl 2 false (PV.asXs (List.getD (List.drop 1 (PV.cells (enc y0))) 0 default)))])=true∧(∃ y1:List Coef,AV.pv (Zj (fun(x:List Coef×Unit)=>x.1) [(.sl 2 false (PV.asXs (List.getD (List.drop 1 (PV.cells (enc y0))) 0 default)))])=AV.pv (enc y1)∧((decide (0<=i)&&decide (Int.toNat i<List.length (List.map enc (Nd.sizes n)))&&Enc.sz Lin==2)=true∧(∃ y2:Lin,AV.pv (PV.rptr (PV.cells (List.getD (List.map enc (Nd.sizes n)) (Int.toNat i) default)))=AV.pv (PV.rptr (PV.cells ((enc) y2)))∧(False))))))else((Go.Pl.preT (fun(x:List Tm×Unit)=>List.isEmpty x.1) [(.sl 10 false (List.map enc ks))])=true∧(∃ y3:List Tm,AV.pv (Zj (fun(x:List Tm×Unit)=>x.1) [(.sl 10 false (List.map enc ks))])=AV.pv (enc y3)∧((Wz RR) 0 ⟨ZI 67 0 [(1,(.ptr 0 0)),(2,(.ptr 1 0)),(4,.undef),(49,.undef),(50,.undef),(51,.undef),(52,.undef),(53,.undef),(54,.undef),(55,.undef),(56,.undef),(57,.undef),(58,.undef),(59,.undef),(60,.undef),(61,.undef),(62,.undef),(63,.undef),(64,.undef),(65,.undef),(66,.undef)],[(.obj (.box [(.pv (.int .i64 (Nd.kind n))),(.pv (.int .i64 (Nd.line n))),(.pv (.str (Str.s (Nd.name n)))),(.pv (.int .i64 (Nd.num n))),(.pv (.str (Str.s (Nd.elem n)))),(.pv (.sl 1 false (List.map enc (Nd.dims n)))),(.pv (.sl 1 false (List.map enc (Nd.data n)))),(.pv (.sl 2 false (List.map enc (Nd.sizes n)))),(.pv (.sl 1 false (List.map enc (Nd.ranks n)))),(.pv (.sl 10 false (List.map enc y3)))])),(.obj (.box [(.pv (.int .i64 0)),(.pv (.int .i64 0)),(.pv (.str [])),(.pv (.int .i64 0)),(.pv (.str [])),(.pv (.sl 0 true [])),(.pv (.sl 0 true [])),(.pv (.sl 0 true [])),(.pv (.sl 0 true [])),(.pv (.sl 0 true []))]))]⟩ (fun x S'=>Qo Hz (Wz RR) 0 (fun st=>G st.heap) QM 0 x S'))))):OZ Hz (Wz RR) 0 (fun st=>G st.heap) QM 0 67 [(1,.ptr 0 0),(2,.ptr 1 0),(4,.undef),(28,.pv (.int .i64 m)),(29,.pv (.int .i64 i)),(49,.undef),(50,.undef),(51,.undef),(52,.undef),(53,.undef),(54,.undef),(55,.undef),(56,.undef),(57,.undef),(58,.undef),(59,.undef),(60,.undef),(61,.undef),(62,.undef),(63,.undef),(64,.undef),(65,.undef),(66,.undef)] [.obj (.box [.pv (enc n.kind),.pv (enc n.line),.pv (enc n.name),.pv (enc n.num),.pv (enc n.elem),.pv (enc n.dims),.pv (enc n.data),.pv (enc n.sizes),.pv (enc n.ranks),.pv (enc ks)]),.obj (.box [.pv (.int .i64 0),.pv (.int .i64 0),.pv (.str []),.pv (.int .i64 0),.pv (.str []),.pv (.sl 0 true []),.pv (.sl 0 true []),.pv (.sl 0 true []),.pv (.sl 0 true []),.pv (.sl 0 true [])])]:=Zw.mh (dm [dr Lin,dv (List Coef),dv (List Tm)] 17 0x710516125100842) h
end Go.Pl
namespace Go.Pl
open Go.RowKit
open Enc (enc dec is)
open EncL (encL decL isL)
def d1x:List (Nat×AV):=[(1,.ptr 0 0),(2,.ptr 1 0),(4,.undef),(49,.undef),(50,.undef),(51,.undef),(52,.undef),(53,.undef),(54,.undef),(55,.undef),(56,.undef),(57,.undef),(58,.undef),(59,.undef),(60,.undef),(61,.undef),(62,.undef),(63,.undef),(64,.undef),(65,.undef),(66,.undef)]
def cpZ:List AV:=[.pv (.int .i64 0),.pv (.int .i64 0),.pv (.str []),.pv (.int .i64 0),.pv (.str []),.pv (.sl 0 true []),.pv (.sl 0 true []),.pv (.sl 0 true []),.pv (.sl 0 true []),.pv (.sl 0 true [])]
def a7r(n:Nd)(SZ:AV):List AV:=[.pv (enc n.kind),.pv (enc n.line),.pv (enc n.name),.pv (enc n.num),.pv (enc n.elem),.pv (enc n.dims),.pv (enc n.data),SZ,.pv (enc n.ranks)]
def cpR(n:Nd)(ks:List Tm)(m:Nat)(S:St):Prop:=m=0∧S.env=ZI 67 0 d1x∧ ∃ (SZ KD:AV) (b:Bool) (rest:Zm),S.heap = .obj (.box (a7r n SZ++[KD])):: .obj (.box cpZ)::rest ∧
 ((b=false∧SZ = .pv (enc n.sizes))∨(b=true∧SZ = .row 2 n.sizes.length 0 n.sizes.length∧S.heap[2]? = some (.obj (.row false 62 2 (n.sizes.map enc))))) ∧
 ((ks=[]∧KD = .pv (enc ks))∨(ks≠[]∧KD = .row (if b=true then 3 else 2) ks.length 0 ks.length∧S.heap[if b=true then 3 else 2]? = some (.obj (.row false 28 10 (ks.map enc)))))
theorem Ti{α:Type}[Enc α]{l:List α}{s:Nat}(h:l≠[])(hl:l.length<=2000000):Yd s [(.pv (.sl s false (List.map enc l)))] []=true:=by
 simp[Yd,h,hl]
theorem b2x{RR:Nat->St->Prop}{n:Nd}{ks:List Tm}(hne:ks≠[])(hk:ks.length<=2000000)(hl:n.sizes.length<=2000000)(ht : ∀ l∈n.sizes,l.t.length<=2000000){m:Nat}(hm:m=n.sizes.length)(hR : ∀ S,cpR n ks 0 S->RR 0 S): ∀ (d i:Nat),d+i=n.sizes.length ->
  OZ U8 (Wz RR) 0 (fun _=>False) Xy 0 67 [(1,.ptr 0 0),(2,.ptr 1 0),(4,.undef),(28,.pv (.int .i64 m)),(29,.pv (.int .i64 i)),(49,.undef),(50,.undef),(51,.undef),(52,.undef),(53,.undef),(54,.undef),(55,.undef),(56,.undef),(57,.undef),(58,.undef),(59,.undef),(60,.undef),(61,.undef),(62,.undef),(63,.undef),(64,.undef),(65,.undef),(66,.undef)]
   [.obj (.box [.pv (enc n.kind),.pv (enc n.line),.pv (enc n.name),.pv (enc n.num),.pv (enc n.elem),.pv (enc n.dims),.pv (enc n.data),.row 2 m 0 m,.pv (enc n.ranks),.pv (enc ks)]),.obj (.box cpZ),.obj (.row false 62 2 (n.sizes.map enc))]:=by
 subst hm
 intro d
 induction d with
 | zero=>
  intro i hi
  refine a0c (G:=fun _=>False) RR n ks n.sizes.length n.sizes i (XW (U2 (by omega)) ⟨Ti hne hk,hR _ ⟨rfl,rfl,_,_,true,_,rfl,.inr ⟨rfl,rfl,rfl⟩,.inr ⟨hne,by simp,rfl⟩⟩⟩)
 | succ d ih=>
  intro i hi
  have h1:i<n.sizes.length:=by omega
  refine a0c (G:=fun _=>False) RR n ks n.sizes.length n.sizes i (XH (Qj h1) ?_)
  have e:List.getD (List.map (enc:Lin->PV) n.sizes) (0+Int.toNat (i:Int)) default=enc n.sizes[i]:=by rw[Nat.zero_add];exact Jp enc h1
  have e2:(enc n.sizes[i]:PV) = .agg [.int .i64 n.sizes[i].k,.sl 2 false (n.sizes[i].t.map enc)]:=rfl
  have e3:List.set (n.sizes.map (enc:Lin->PV)) (0+Int.toNat (i:Int)) (.agg [.int .i64 n.sizes[i].k,.sl 2 false (n.sizes[i].t.map enc)])=n.sizes.map enc:=by
   rw[Nat.zero_add,Int.toNat_natCast,<- e2]
   apply List.ext_getElem?
   intro j
   rw[List.getElem?_set]
   split
   ·rename_i h;subst h;rw[if_pos (by simpa using h1),List.getElem?_map,List.getElem?_eq_getElem h1];rfl
   ·rfl
  have hc:=ht _ (List.getElem_mem h1)
  simp only[e,e2]
  refine⟨by simp[h1],by simp[h1],by simp[PV.cells,Yn,Sh.fit],Ze (n.sizes[i].t,()) rfl (decide_eq_true hc),Zg (n.sizes[i].t,()) rfl ⟨by simp[h1],?_,?_⟩⟩
  ·simp[h1,PV.cells,PV.cellsOk,enc]
  ·show OZ U8 (Wz RR) 0 (fun _=>False) Xy 0 67 _ [_,_,.obj (.row false 62 2 (List.set (n.sizes.map (enc:Lin->PV)) (0+Int.toNat (i:Int)) (.agg [.int .i64 n.sizes[i].k,.sl 2 false (n.sizes[i].t.map enc)])))]
   rw[e3,next (by omega)]
   exact ih (i+1) (by omega)
theorem b2p{RR:Nat->St->Prop}{n:Nd}(hl:n.sizes.length<=2000000)(ht : ∀ l∈n.sizes,l.t.length<=2000000){m:Nat}(hm:m=n.sizes.length)(hR : ∀ S,cpR n [] 0 S->RR 0 S): ∀ (d i:Nat),d+i=n.sizes.length ->
  OZ UU (Wz RR) 0 (fun _=>False) WY 0 67 [(1,.ptr 0 0),(2,.ptr 1 0),(4,.undef),(28,.pv (.int .i64 m)),(29,.pv (.int .i64 i)),(49,.undef),(50,.undef),(51,.undef),(52,.undef),(53,.undef),(54,.undef),(55,.undef),(56,.undef),(57,.undef),(58,.undef),(59,.undef),(60,.undef),(61,.undef),(62,.undef),(63,.undef),(64,.undef),(65,.undef),(66,.undef)]
   [.obj (.box [.pv (enc n.kind),.pv (enc n.line),.pv (enc n.name),.pv (enc n.num),.pv (enc n.elem),.pv (enc n.dims),.pv (enc n.data),.row 2 m 0 m,.pv (enc n.ranks),.pv (enc ([]:List Tm))]),.obj (.box cpZ),.obj (.row false 62 2 (n.sizes.map enc))]:=by
 subst hm
 intro d
 induction d with
 | zero=>
  intro i hi
  refine a0d (G:=fun _=>False) RR n [] n.sizes.length n.sizes i (XW (U2 (by omega)) ⟨Ze (([]:List Tm),()) rfl rfl,Zg (([]:List Tm),()) rfl (hR _ ⟨rfl,rfl,_,_,true,_,rfl,.inr ⟨rfl,rfl,rfl⟩,.inl ⟨rfl,rfl⟩⟩)⟩)
 | succ d ih=>
  intro i hi
  have h1:i<n.sizes.length:=by omega
  refine a0d (G:=fun _=>False) RR n [] n.sizes.length n.sizes i (XH (Qj h1) ?_)
  have e:List.getD (List.map (enc:Lin->PV) n.sizes) (0+Int.toNat (i:Int)) default=enc n.sizes[i]:=by rw[Nat.zero_add];exact Jp enc h1
  have e2:(enc n.sizes[i]:PV) = .agg [.int .i64 n.sizes[i].k,.sl 2 false (n.sizes[i].t.map enc)]:=rfl
  have e3:List.set (n.sizes.map (enc:Lin->PV)) (0+Int.toNat (i:Int)) (.agg [.int .i64 n.sizes[i].k,.sl 2 false (n.sizes[i].t.map enc)])=n.sizes.map enc:=by
   rw[Nat.zero_add,Int.toNat_natCast,<- e2]
   apply List.ext_getElem?
   intro j
   rw[List.getElem?_set]
   split
   ·rename_i h;subst h;rw[if_pos (by simpa using h1),List.getElem?_map,List.getElem?_eq_getElem h1];rfl
   ·rfl
  have hc:=ht _ (List.getElem_mem h1)
  simp only[e,e2]
  refine⟨by simp[h1],by simp[h1],by simp[PV.cells,Yn,Sh.fit],Ze (n.sizes[i].t,()) rfl (decide_eq_true hc),Zg (n.sizes[i].t,()) rfl ⟨by simp[h1],?_,?_⟩⟩
  ·simp[h1,PV.cells,PV.cellsOk,enc]
  ·show OZ UU (Wz RR) 0 (fun _=>False) WY 0 67 _ [_,_,.obj (.row false 62 2 (List.set (n.sizes.map (enc:Lin->PV)) (0+Int.toNat (i:Int)) (.agg [.int .i64 n.sizes[i].k,.sl 2 false (n.sizes[i].t.map enc)])))]
   rw[e3,next (by omega)]
   exact ih (i+1) (by omega)
abbrev F8(n:Nd)(ks:List Tm):St:=XQ 67 [.pv (.agg [enc n.kind,enc n.line,enc n.name,enc n.num,enc n.elem,enc n.dims,enc n.data,enc n.sizes,enc n.ranks,enc ks])] []
theorem d1q{RR:Nat->St->Prop}{n:Nd}{ks:List Tm}(hw:tW (.mk n ks)=true)(hs:n.sizes≠[])(hne:ks≠[])(hR : ∀ S,cpR n ks 0 S->RR 0 S):Zw U8 (Wz RR) 0 (fun _=>False) (.inl Xy) [] (F8 n ks):=by
 have hb:=Fe hw
 have hk:=(Yj hw).1
 have h1:=hb.dims;have h2:=hb.data;have h3:=hb.ranks;have hsz:=hb.sizes
 refine c8c (G:=fun _=>False) RR n ks ⟨Ze (n.dims,()) rfl (decide_eq_true (show n.dims.length<=2000000 by omega)),Zg (n.dims,()) rfl ⟨Ze (n.data,()) rfl (decide_eq_true (show n.data.length<=2000000 by omega)),Zg (n.data,()) rfl
  ⟨Ze (n.ranks,()) rfl (decide_eq_true (show n.ranks.length<=2000000 by omega)),Zg (n.ranks,()) rfl ⟨Ti hs (by omega),b2x hne (by omega) (by omega) (fun l hl=>by have:=hb.lens l hl;omega) (List.length_map _) hR n.sizes.length 0 (by omega)⟩⟩⟩⟩
theorem d0n{RR:Nat->St->Prop}{n:Nd}{ks:List Tm}(hw:tW (.mk n ks)=true)(hs:n.sizes≠[])(hz:ks=[])(hR : ∀ S,cpR n ks 0 S->RR 0 S):Zw UU (Wz RR) 0 (fun _=>False) (.inl WY) [] (F8 n ks):=by
 have hb:=Fe hw
 have hk:=(Yj hw).1
 have h1:=hb.dims;have h2:=hb.data;have h3:=hb.ranks;have hsz:=hb.sizes
 subst hz
 refine c3k (G:=fun _=>False) RR n [] ⟨Ze (n.dims,()) rfl (decide_eq_true (show n.dims.length<=2000000 by omega)),Zg (n.dims,()) rfl ⟨Ze (n.data,()) rfl (decide_eq_true (show n.data.length<=2000000 by omega)),Zg (n.data,()) rfl
  ⟨Ze (n.ranks,()) rfl (decide_eq_true (show n.ranks.length<=2000000 by omega)),Zg (n.ranks,()) rfl ⟨Ti hs (by omega),b2p (by omega) (fun l hl=>by have:=hb.lens l hl;omega) (List.length_map _) hR n.sizes.length 0 (by omega)⟩⟩⟩⟩
theorem d2o{RR:Nat->St->Prop}{n:Nd}{ks:List Tm}(hw:tW (.mk n ks)=true)(hs:n.sizes=[])(hne:ks≠[])(hR : ∀ S,cpR n ks 0 S->RR 0 S):Zw JY (Wz RR) 0 (fun _=>False) (.inl Q6) [] (F8 n ks):=by
 have hb:=Fe hw
 have hk:=(Yj hw).1
 have h1:=hb.dims;have h2:=hb.data;have h3:=hb.ranks;have hsz:=hb.sizes
 refine c5i (G:=fun _=>False) RR n ks ⟨Ze (n.dims,()) rfl (decide_eq_true (show n.dims.length<=2000000 by omega)),Zg (n.dims,()) rfl ⟨Ze (n.data,()) rfl (decide_eq_true (show n.data.length<=2000000 by omega)),Zg (n.data,()) rfl
  ⟨Ze (n.ranks,()) rfl (decide_eq_true (show n.ranks.length<=2000000 by omega)),Zg (n.ranks,()) rfl ⟨Ze (n.sizes,()) rfl (by rw[hs];rfl),Zg (n.sizes,()) rfl (ER (G:=fun _=>False) RR n ks (List.length (List.map (enc:Lin->PV) n.sizes)) 0 (XW (by rw[hs];decide) ⟨Ti hne (by omega),hR _ ⟨rfl,rfl,_,_,false,_,rfl,.inl ⟨rfl,rfl⟩,.inr ⟨hne,by simp,rfl⟩⟩⟩))⟩⟩⟩⟩
theorem d0e{RR:Nat->St->Prop}{n:Nd}{ks:List Tm}(hw:tW (.mk n ks)=true)(hs:n.sizes=[])(hz:ks=[])(hR : ∀ S,cpR n ks 0 S->RR 0 S):Zw Hz (Wz RR) 0 (fun _=>False) (.inl QM) [] (F8 n ks):=by
 have hb:=Fe hw
 have hk:=(Yj hw).1
 have h1:=hb.dims;have h2:=hb.data;have h3:=hb.ranks;have hsz:=hb.sizes
 subst hz
 refine c8d (G:=fun _=>False) RR n [] ⟨Ze (n.dims,()) rfl (decide_eq_true (show n.dims.length<=2000000 by omega)),Zg (n.dims,()) rfl ⟨Ze (n.data,()) rfl (decide_eq_true (show n.data.length<=2000000 by omega)),Zg (n.data,()) rfl
  ⟨Ze (n.ranks,()) rfl (decide_eq_true (show n.ranks.length<=2000000 by omega)),Zg (n.ranks,()) rfl ⟨Ze (n.sizes,()) rfl (by rw[hs];rfl),Zg (n.sizes,()) rfl (Ew (G:=fun _=>False) RR n [] (List.length (List.map (enc:Lin->PV) n.sizes)) 0 (XW (by rw[hs];decide) ⟨Ze (([]:List Tm),()) rfl rfl,Zg (([]:List Tm),()) rfl (hR _ ⟨rfl,rfl,_,_,false,_,rfl,.inl ⟨rfl,rfl⟩,.inl ⟨rfl,rfl⟩⟩)⟩))⟩⟩⟩⟩
end Go.Pl
namespace Go.Pl
open Go.RowKit
open Enc (enc dec is)
open EncL (encL decL isL)
set_option maxRecDepth 100000
def LC:IC:=(WN [ZB 1 (.box 10 (.t 0)) 0,ZB 2 (.alloc (.agg [(.int .i64 0),(.int .i64 0),(.str []),(.int .i64 0),(.str []),(.sl 0 true []),(.sl 0 true []),(.sl 0 true []),(.sl 0 true []),(.sl 0 true [])])) 1] (WN [ZB 6 (.load true [(.int .i64),(.int .i64),.str,(.int .i64),.str,(.sl 1),(.sl 1),(.sl 2),(.sl 1),(.sl 10)] (.t 1)) 0,ZB 7 (c'' 20 [(.t 6)]) 0,ZB 3 (.alloc (.sl 0 true [])) 2,CL (.store 1 (.t 3) (.t 7)) 3] (WN [ZB 4 (.alloc (.int .i64 0)) 0,CL (.store 1 (.t 4) (U3 0)) 1] (WN [ZB 8 (.mkfn 67 [] [(.t 4),(.t 3)]) 0,ZB 5 (Wj 8) 0] (.ext 0 [1,9,5,10,11,12,2,13])))))
def b1q:Zz:=YG [(20,.pure (preT (fun x:Tm×Unit=>tW x.1)) (Zj (fun x:Tm×Unit=>XX x.1)))]
theorem d2j{G:Zm->Prop}(RR:Nat->St->Prop)(n:Nd)(ks:List Tm)(h:(Go.Pl.preT (fun(x:Tm×Unit)=>tW x.1) (Lf n ks))=true∧(∃ y0:List Str,AV.pv (Zj (fun(x:Tm×Unit)=>XX x.1) (Lf n ks))=AV.pv (enc y0)∧((Wz RR) 0 ⟨ZI 14 0 [(1,(.ptr 0 0)),(2,(.ptr 1 0)),(5,(.fn 67 [] [(.ptr 2 0),(.ptr 3 0)])),(9,.undef),(10,.undef),(11,.undef),(12,.undef),(13,.undef)],[(.obj (.box (Yb n ks))),(.obj (.box [(.pv (.int .i64 0)),(.pv (.int .i64 0)),(.pv (.str [])),(.pv (.int .i64 0)),(.pv (.str [])),(.pv (.sl 0 true [])),(.pv (.sl 0 true [])),(.pv (.sl 0 true [])),(.pv (.sl 0 true [])),(.pv (.sl 0 true []))])),(.obj (.box [(.pv (.int .i64 0))])),(.obj (.box [(.pv (.sl 1 false (List.map enc y0)))]))]⟩ (fun x S'=>Qo b1q (Wz RR) 0 (fun st=>G st.heap) LC 0 x S')))):Zw b1q (Wz RR) 0 (fun st=>G st.heap) (.inl LC) [] (XQ 14 [.pv (.agg [enc n.kind,enc n.line,enc n.name,enc n.num,enc n.elem,enc n.dims,enc n.data,enc n.sizes,enc n.ranks,enc ks])] []):=Zw.mh (.req (.abs (List Str) (fun YY=>AV.pv (enc YY)) (.nil))) h
end Go.Pl
namespace Go.Pl
open Go.RowKit
open Enc (enc dec is)
open EncL (encL decL isL)
set_option maxRecDepth 100000
end Go.Pl
namespace Go.Pl
open Go.RowKit
open Enc (enc dec is)
open EncL (encL decL isL)
end Go.Pl
namespace Go.Pl
open Go.RowKit
open Enc (enc dec is)
open EncL (encL decL isL)
set_option maxRecDepth 100000
end Go.Pl
