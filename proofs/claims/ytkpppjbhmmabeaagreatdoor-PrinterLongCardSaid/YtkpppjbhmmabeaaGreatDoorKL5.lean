/-
  Texts of mine that belong together (packed by pack.py), for every input: QQa, GQb, QQb, QQc, GTx, QTx, QTy, QTz, TyMd, TyMp, TyMq, TyMb, GQe, GQd, QQd, QQe, QVs, GQf.
-/
import Derived.Test.YtkpppjbhmmabeaaGreatDoorChecked
import Derived.Test.YtkpppjbhmmabeaaGreatDoorKL2
import Derived.Test.YtkpppjbhmmabeaaGreatDoorKL3
import Derived.Test.YtkpppjbhmmabeaaGreatDoorKL4
import Derived.KernelRfl
set_option linter.unusedVariables false
set_option linter.unusedSimpArgs false
namespace Go.Pl
open Go.RowKit
open Enc (enc dec is)
open EncL (encL decL isL)
theorem a8d: ∀ x:UInt8×Unit,(fun _:UInt8×Unit=>true) x=true->Zd a5x 0 (Za ME (Zf (lowB x.1))) Me [] (Zx b8j (encL x)):=by
 rintro⟨c,⟨⟩⟩ _
 refine c6c c (Dz (fun h=>Zl ?_) fun h=>Zl ?_)
 ·have h:(97:Int)<=c.toNat:=by simpa using h
  have h1:(97:UInt8)<=c:=by rw[UInt8.le_iff_toNat_le];exact Int.ofNat_le.1 h
  unfold lowB
  rw[decide_eq_true h1,Bool.true_and]
  exact decide_eq_decide.2 ⟨fun h=>UInt8.le_iff_toNat_le.2 (Int.ofNat_le.1 h),fun h=>Int.ofNat_le.2 (UInt8.le_iff_toNat_le.1 h)⟩
 ·have h : ¬ (97:Int)<=c.toNat:=by simpa using h
  have h1 : ¬ (97:UInt8)<=c:=by rw[UInt8.le_iff_toNat_le];exact fun k=>h (Int.ofNat_le.2 k)
  unfold lowB
  rw[decide_eq_false h1]
  rfl
theorem b0c: ∀ x:UInt8×Unit,(fun _:UInt8×Unit=>true) x=true->Zd EH 0 (Za MX (Zf (digB x.1))) NR [] (Zx c2t (encL x)):=by
 rintro⟨c,⟨⟩⟩ _
 refine c4f c (Dz (fun h=>Zl ?_) fun h=>Zl ?_)
 ·have h:(48:Int)<=c.toNat:=by simpa using h
  have h1:(48:UInt8)<=c:=by rw[UInt8.le_iff_toNat_le];exact Int.ofNat_le.1 h
  unfold digB
  rw[decide_eq_true h1,Bool.true_and]
  exact decide_eq_decide.2 ⟨fun h=>UInt8.le_iff_toNat_le.2 (Int.ofNat_le.1 h),fun h=>Int.ofNat_le.2 (UInt8.le_iff_toNat_le.1 h)⟩
 ·have h : ¬ (48:Int)<=c.toNat:=by simpa using h
  have h1 : ¬ (48:UInt8)<=c:=by rw[UInt8.le_iff_toNat_le];exact fun k=>h (Int.ofNat_le.2 k)
  unfold digB
  rw[decide_eq_false h1]
  rfl
theorem c6d: ∀ x:Str×Unit,(fun _:Str×Unit=>true) x=true->Zd c9i 0 (Za b6v (Zf (QL.contains x.1.s))) b5c [] (Zx e1d (encL x)):=by
 rintro⟨⟨s⟩,⟨⟩⟩ _
 refine f7c s ?_
 iterate 14 (refine Zy (fun h=>Zl (by subst h;rfl)) fun h=> ?_)
 refine Zl ?_
 show false=QL.contains s
 rw[eq_comm,<- Bool.not_eq_true,List.contains_iff_mem]
 simp only[QL,List.mem_cons,List.not_mem_nil,or_false,not_or]
 refine⟨?_,?_,?_,?_,?_,?_,?_,?_,?_,?_,?_,?_,?_,?_⟩ <;> assumption
theorem c8t{c:UInt8}{F:UInt8->Bool}{ps:List PV}{P:Bool->Prop}(e:ps=encL (c,()))(h:P (F c)):preT (fun x:UInt8×Unit=>true) ps=true∧ ∃ y:Bool,AV.pv (Zi (fun x:UInt8×Unit=>F x.1) ps)=AV.pv (enc y)∧P y:=⟨Zc (c,()) e rfl,Zb (c,()) e h⟩
theorem a6z(s:List UInt8)(hl:s.length<=1048576)(h1:1<=s.length)(R:Bool): ∀ (d i:Nat),d+i=s.length->1<=i->R=((s.drop i).all EA&&(decide (s.length<=30)&& !QL.contains s)) ->
  At QV 0 (Za UL (Zf R)) UH 0 39 [(0,.pv (.str s)),(3,.pv (.int .i64 i))] []:=by
 intro d
 induction d with
 | zero=>
  intro i hi g b
  rw[List.drop_eq_nil_of_le (by omega),List.all_nil,Bool.true_and]at b
  refine CZ s i (ZV (YD (by omega)) (ZN (decide_eq_true (by omega)) (ZU (fun h=>Zb (⟨s⟩,()) rfl (Zl ?_)) fun h=>Zl ?_)))
  ·rw[b,decide_eq_true (show s.length<=30 by omega)];rfl
  ·rw[b,decide_eq_false (show ¬ s.length<=30 by omega)];rfl
 | succ d ih=>
  intro i hi g b
  have a:i<s.length:=by omega
  have e:(decide (0<=(i:Int))&&decide (Int.toNat (i:Int)<List.length s))=true:=by simp[a]
  rw[List.drop_eq_getElem_cons a,List.all_cons]at b
  have k:=fun h=>ih (i+1) (by omega) (by omega) h
  refine CZ s i (ZN (Yw a) ⟨e,c8t (PO a) (Y8 (fun hs=>ZV (by simp;omega) ⟨e,c8t (PO a) (Y8 (fun hd=>Zl ?_) fun hd=> ?_)⟩) fun hs=> ?_)⟩)
  ·rw[b];unfold EA;rw[hs,hd];rfl
  ·rw[next (by omega)]
   exact k (by rw[b];unfold EA;rw[hd];rfl)
  ·rw[next (by omega)]
   exact k (by rw[b];unfold EA;rw[hs,Bool.or_true,Bool.true_and])
theorem b8v: ∀ x:Str×Unit,decide (x.1.s.length<=1048576)=true->Zd QV 0 (Za UL (Zf (nameI x.1.s))) UH [] (Zx d1j (encL x)):=by
 rintro⟨⟨s⟩,⟨⟩⟩ h
 have e:s.length<=1048576:=of_decide_eq_true h
 refine e0d s ?_
 show At QV 0 (Za UL (Zf (nameI s))) UH 0 39 [(0,.pv (.str s)),(3,.pv (.int .i64 ((0:Nat):Int)))] []
 cases s with
 | nil=>exact CZ [] 0 (ZV (by simp) (ZV (by simp) (Zl rfl)))
 | cons c r=>
  have a:0<(c::r).length:=by simp
  have b:(decide (0<=((0:Nat):Int))&&decide (Int.toNat ((0:Nat):Int)<List.length (c::r)))=true:=by simp
  refine CZ (c::r) (0:Nat) (ZN (Yw a) ⟨b,c8t (PO a) (Y8 (fun hs=>ZN (by simp) (Zl ?_)) fun hs=> ?_)⟩)
  ·have hs:lowB c=false:=hs
   show false=(lowB c&&r.all EA&&decide (r.length<=29)&& !QL.contains (c::r))
   rw[hs];rfl
  ·have hs:lowB c=true:=hs
   rw[next (by omega)]
   refine a6z (c::r) e (by simp) _ r.length 1 (by rw[List.length_cons]) (by omega) ?_
   show(lowB c&&r.all EA&&decide (r.length<=29)&& !QL.contains (c::r))=(r.all EA&&(decide (r.length+1<=30)&& !QL.contains (c::r)))
   rw[hs,Bool.true_and,Bool.and_assoc,show decide (r.length<=29)=decide (r.length+1<=30)from decide_eq_decide.2 (by omega)]
theorem KU{s:List UInt8}{P:Bool->Prop}(a:s.length<=1048576)(h:P (nameI s)):preT (fun x:Str×Unit=>decide (x.1.s.length<=1048576)) [.str s]=true∧ ∃ y:Bool,AV.pv (Zi (fun x:Str×Unit=>nameI x.1.s) [.str s])=AV.pv (enc y)∧P y:=⟨Zc (⟨s⟩,()) rfl (decide_eq_true a),Zb (⟨s⟩,()) rfl h⟩
theorem f8v{s:List UInt8}{P:Bool->Prop}(a:s.length<=1048576)(h:P (fullI s)):preT (fun x:Str×Unit=>decide (x.1.s.length<=1048576)) [.str s]=true∧ ∃ y:Bool,AV.pv (Zi (fun x:Str×Unit=>fullI x.1.s) [.str s])=AV.pv (enc y)∧P y:=⟨Zc (⟨s⟩,()) rfl (decide_eq_true a),Zb (⟨s⟩,()) rfl h⟩
theorem c8u{s:List UInt8}{P:Bool->Prop}(a:s.length<=1048576)(h:P (Ci s)):preT (fun x:Str×Unit=>decide (x.1.s.length<=1048576)) [.str s]=true∧ ∃ y:Bool,AV.pv (Zi (fun x:Str×Unit=>Ci x.1.s) [.str s])=AV.pv (enc y)∧P y:=⟨Zc (⟨s⟩,()) rfl (decide_eq_true a),Zb (⟨s⟩,()) rfl h⟩
theorem g4y{s:List UInt8}{i:Nat}(h:i<s.length)(ha : ∀ x∈s.take i,(x != 46)=true)(hb:s[i]=46):fullI s=(nameI (s.take i)&&nameI (s.drop (i+1))):=by
 have e:s=s.take i++s[i]::s.drop (i+1):=by rw[<- List.drop_eq_getElem_cons h,List.take_append_drop]
 have a:(s.takeWhile fun c=>c != 46)=s.take i:=by
  have h2:((s.take i++s[i]::s.drop (i+1)).takeWhile fun c=>c != 46)=s.take i:=by
   rw[List.takeWhile_append_of_pos ha,hb,List.takeWhile_cons,if_neg (by decide),List.append_nil]
  rw[<- e]at h2
  exact h2
 have b:(s.dropWhile fun c=>c != 46)=s[i]::s.drop (i+1):=by
  have h2:((s.take i++s[i]::s.drop (i+1)).dropWhile fun c=>c != 46)=s[i]::s.drop (i+1):=by
   rw[List.dropWhile_append_of_pos ha,hb,List.dropWhile_cons,if_neg (by decide)]
  rw[<- e]at h2
  exact h2
 unfold fullI
 rw[a,b]
theorem g5c{s:List UInt8}(ha : ∀ x∈s,(x != 46)=true):fullI s=false:=by
 have a:(s.dropWhile fun c=>c != 46)=[]:=by
  have h2:((s++[]).dropWhile fun c=>c != 46)=[]:=by rw[List.dropWhile_append_of_pos ha];rfl
  rwa [List.append_nil]at h2
 unfold fullI
 rw[a]
theorem a6y(s:List UInt8)(hl:s.length<=1048576): ∀ (d i:Nat),d+i=s.length->(∀ x∈s.take i,(x != 46)=true) ->
  At Ht 0 (Za Kn (Zf (fullI s))) KJ 0 25 [(0,.pv (.str s)),(3,.pv (.int .i64 i))] []:=by
 intro d
 induction d with
 | zero=>
  intro i hi ha
  rw[List.take_of_length_le (by omega)]at ha
  exact a5a s i (ZV (YD (by omega)) (Zl (g5c ha).symm))
 | succ d ih=>
  intro i hi ha
  have a:i<s.length:=by omega
  have g:(decide (0<=(i:Int))&&decide (Int.toNat (i:Int)<List.length s))=true:=by simp[a]
  have j:s.getD (Int.toNat (i:Int)) 0=s[i]:=by rw[Int.toNat_natCast,List.getD_eq_getElem?_getD,List.getElem?_eq_getElem a];rfl
  refine a5a s i (ZN (Yw a) ⟨g,Zy (fun h=> ?_) fun h=> ?_⟩)
  ·rw[j]at h
   have hb:s[i]=46:=UInt8.toNat_inj.1 (by show s[i].toNat=46;omega)
   have e:=g4y a ha hb
   rw[Int.toNat_natCast,List.drop_zero,next (by omega),Int.toNat_natCast,List.take_of_length_le (Nat.le_refl s.length)]
   refine⟨by simp;omega,KU (s:=s.take i) (by rw[List.length_take];omega) (YX (fun h1=>⟨by simp;omega,KU (s:=s.drop (i+1)) (by rw[List.length_drop];omega) (Zl ?_)⟩) fun h1=>Zl ?_)⟩
   ·have h1:nameI (s.take i)=true:=h1
    rw[e,h1];rfl
   ·have h1:nameI (s.take i)=false:=h1
    rw[e,h1];rfl
  ·rw[j]at h
   rw[next (by omega)]
   refine ih (i+1) (by omega) fun x b=> ?_
   rw[Qk a,List.mem_append]at b
   rcases b with b|b
   ·exact ha x b
   ·rw[List.mem_singleton]at b
    subst b
    have:s[i]≠46:=fun e=>h (by rw[e];rfl)
    simpa using this
theorem c2q: ∀ x:Str×Unit,decide (x.1.s.length<=1048576)=true->Zd Ht 0 (Za Kn (Zf (fullI x.1.s))) KJ [] (Zx d4c (encL x)):=by
 rintro⟨⟨s⟩,⟨⟩⟩ h
 exact e5l s (a6y s (of_decide_eq_true h) s.length 0 (by omega) (by simp))
theorem d3l: ∀ x:Str×Unit,decide (x.1.s.length<=1048576)=true->Zd d9j 0 (Za b7l (Zf (Ci x.1.s))) b6z [] (Zx e1u (encL x)):=by
 rintro⟨⟨s⟩,⟨⟩⟩ h
 have a:s.length<=1048576:=of_decide_eq_true h
 refine f3s s (KU a (YX (fun h1=>Zl ?_) fun h1=>f8v a (Zl ?_)))
 ·have h1:nameI s=true:=h1
  show true=(nameI s||fullI s)
  rw[h1];rfl
 ·have h1:nameI s=false:=h1
  show fullI s=(nameI s||fullI s)
  rw[h1];rfl
theorem g4j{n:Nat}:((n:Int)==0)=decide (n=0):=by rw[Bool.eq_iff_iff];simp
theorem b2a: ∀ x:Tm×Bool×Bool×Bool×Bool×Bool×Unit,tW x.1=true->Zd a2z 0 (Za Gz (Zf (Yx x.1.nd x.2.1 x.2.2.1 x.2.2.2.1 x.2.2.2.2.1 x.2.2.2.2.2.1))) Lh [] (Zx c0d (encL x)):=by
 rintro⟨⟨n,ks⟩,a,b,c,d,e,⟨⟩⟩ hw
 have g:=ndB hw
 have h1:=g.dims
 have h2:=g.data
 rw[<- FJ]
 have hb:Yx n a b c d e=((a||decide (n.name.s=[]))&&(b||decide (n.num=0))&&(c||(decide (n.elem.s=[])&&decide (n.dims.length+n.data.length=0)))&&(d||decide (n.sizes.length=0))&&(e||decide (n.ranks.length=0))):=rfl
 show Zd _ 0 (Za Gz (Zf (Yx n a b c d e))) _ _ _
 rw[hb]
 have hb:Yx n a b c d e=((a||decide (n.name.s=[]))&&(b||decide (n.num=0))&&(c||(decide (n.elem.s=[])&&decide (n.dims.length+n.data.length=0)))&&(d||decide (n.sizes.length=0))&&(e||decide (n.ranks.length=0))):=rfl
 show Zd _ 0 (Za Gz (Zf (Yx n a b c d e))) _ _ _
 rw[hb]
 refine c8i n ks a b c d e ?_
 simp only[List.length_map,Rb (show n.dims.length+n.data.length<=4611686018427387904 by omega),g4j]
 generalize decide (n.dims.length+n.data.length=0)=X
 generalize decide (n.sizes.length=0)=Y
 generalize decide (n.ranks.length=0)=Z
 clear hb h1 h2 g hw
 repeat' (first|refine Zy (fun _=> ?_) fun _=> ?_|refine YX (fun _=> ?_) fun _=> ?_|refine Zl ?_)
 all_goals simp_all
theorem c3c(l:List Lin)(hl:l.length<=1048576)(ho : ∀ x∈l,XK x=true)(R:Bool): ∀ (d i:Nat),d+i=l.length->R=(l.drop i).all Zg ->
  At AO 0 (Za Gb (Zf R)) GH 0 16 [(0,.pv (enc l)),(3,.pv (.int .i64 i))] []:=by
 intro d
 induction d with
 | zero=>
  intro i hi b
  rw[List.drop_eq_nil_of_le (by omega)]at b
  exact b4b l i (ZV (X7 (by omega)) (Zl b.symm))
 | succ d ih=>
  intro i hi b
  have a:i<l.length:=by omega
  rw[List.drop_eq_getElem_cons a,List.all_cons]at b
  refine b4b l i (ZN (XY a) ⟨Zt a rfl,ZK a ⟨Zc (l[i],()) rfl (ho _ (List.getElem_mem a)),Zb (l[i],()) rfl (Y8 (fun h=>Zl ?_) fun h=> ?_)⟩⟩)
  ·have h:Zg l[i]=false:=h
   rw[b,h];rfl
  ·have h:Zg l[i]=true:=h
   rw[next (by omega)]
   exact ih (i+1) (by omega) (by rw[b,h];rfl)
theorem d0k: ∀ x:List Lin×Unit,(decide (x.1.length<=1048576)&&x.1.all XK)=true->Zd AO 0 (Za Gb (Zf (x.1.all Zg))) GH [] (Zx e1e (encL x)):=by
 rintro⟨l,⟨⟩⟩ h
 simp only[Bool.and_eq_true,decide_eq_true_eq,List.all_eq_true]at h
 exact f5c l (c3c l h.1 h.2 _ l.length 0 (by omega) rfl)
theorem d8h: ∀ x:Str×Bool×Unit,true=true->Zd c6p 0 (Za b4n (Zf (Vb x.1 x.2.1))) b6r [] (Zx d9y (encL x)):=by
 rintro⟨⟨s⟩,u,⟨⟩⟩ _
 refine f6d s u (YX (fun hu=> ?_) fun hu=> ?_)
 ·subst hu
  iterate 2 (refine Zy (fun h=>by subst h;exact⟨rfl,rfl⟩) fun h=> ?_)
  refine Zh (x:=(⟨⟨[]⟩,0,false⟩:R3 Str Int Bool)) ?_
  have e:a6a s true=none:=by
   unfold a6a
   rw[List.find?_eq_none]
   intro x a
   simp only[XN,List.mem_cons,List.not_mem_nil,or_false]at a
   rcases a with rfl|rfl|rfl|rfl|rfl|rfl|rfl|rfl|rfl|rfl|rfl|rfl|rfl|rfl|rfl <;> simp <;> intro e <;> simp_all
  show _=Vb ⟨s⟩ true
  unfold Vb
  rw[show a6a (⟨s⟩:Str).s true=none from e]
 ·subst hu
  iterate 13 (refine Zy (fun h=>by subst h;exact⟨rfl,rfl⟩) fun h=> ?_)
  refine Zh (x:=(⟨⟨[]⟩,0,false⟩:R3 Str Int Bool)) ?_
  have e:a6a s false=none:=by
   unfold a6a
   rw[List.find?_eq_none]
   intro x a
   simp only[XN,List.mem_cons,List.not_mem_nil,or_false]at a
   rcases a with rfl|rfl|rfl|rfl|rfl|rfl|rfl|rfl|rfl|rfl|rfl|rfl|rfl|rfl|rfl <;> simp <;> intro e <;> simp_all
  show _=Vb ⟨s⟩ false
  unfold Vb
  rw[show a6a (⟨s⟩:Str).s false=none from e]
theorem g0x{n:List UInt8}{r:OpR}(h:Cc n=some r):Jn ⟨n⟩=⟨⟨r.s⟩,r.u,true⟩:=by unfold Jn;rw[show Cc (⟨n⟩:Str).s=some r from h]
theorem d1y: ∀ x:Str×Unit,true=true->Zd YF 0 (Za Yd (Zf (Jn x.1))) Ye [] (Zx e0j (encL x)):=by
 rintro⟨⟨s⟩,⟨⟩⟩ _
 refine f6q s ?_
 refine c7w s (Zb (⟨[124,124]⟩,false,()) rfl ?_)
 refine ZN rfl (Zy (fun h=>by subst h;exact⟨rfl,rfl⟩) fun y=>Zb (⟨[124,124]⟩,true,()) rfl ?_)
 refine ZV (by decide) ?_
 refine c4k s (Zb (⟨[38,38]⟩,false,()) rfl ?_)
 refine ZN rfl (Zy (fun h=>by subst h;exact⟨rfl,rfl⟩) fun b1=>Zb (⟨[38,38]⟩,true,()) rfl ?_)
 refine ZV (by decide) ?_
 refine d4b s (Zb (⟨[61,61]⟩,false,()) rfl ?_)
 refine ZN rfl (Zy (fun h=>by subst h;exact⟨rfl,rfl⟩) fun l=>Zb (⟨[61,61]⟩,true,()) rfl ?_)
 refine ZV (by decide) ?_
 refine d5a s (Zb (⟨[33,61]⟩,false,()) rfl ?_)
 refine ZN rfl (Zy (fun h=>by subst h;exact⟨rfl,rfl⟩) fun k=>Zb (⟨[33,61]⟩,true,()) rfl ?_)
 refine ZV (by decide) ?_
 refine c9s s (Zb (⟨[60]⟩,false,()) rfl ?_)
 refine ZN rfl (Zy (fun h=>by subst h;exact⟨rfl,rfl⟩) fun u=>Zb (⟨[60]⟩,true,()) rfl ?_)
 refine ZV (by decide) ?_
 refine d4m s (Zb (⟨[60,61]⟩,false,()) rfl ?_)
 refine ZN rfl (Zy (fun h=>by subst h;exact⟨rfl,rfl⟩) fun z=>Zb (⟨[60,61]⟩,true,()) rfl ?_)
 refine ZV (by decide) ?_
 refine d4h s (Zb (⟨[62]⟩,false,()) rfl ?_)
 refine ZN rfl (Zy (fun h=>by subst h;exact⟨rfl,rfl⟩) fun r=>Zb (⟨[62]⟩,true,()) rfl ?_)
 refine ZV (by decide) ?_
 refine d7u s (Zb (⟨[62,61]⟩,false,()) rfl ?_)
 refine ZN rfl (Zy (fun h=>by subst h;exact⟨rfl,rfl⟩) fun B=>Zb (⟨[62,61]⟩,true,()) rfl ?_)
 refine ZV (by decide) ?_
 refine d8d s (Zb (⟨[43]⟩,false,()) rfl ?_)
 refine ZN rfl (Zy (fun h=>by subst h;exact⟨rfl,rfl⟩) fun A=>Zb (⟨[43]⟩,true,()) rfl ?_)
 refine ZV (by decide) ?_
 refine d9m s (Zb (⟨[45]⟩,false,()) rfl ?_)
 refine ZN rfl (Zy (fun h=>by subst h;exact⟨rfl,rfl⟩) fun m=>Zb (⟨[45]⟩,true,()) rfl ?_)
 refine ZN rfl (Zy (fun h=>by subst h;exact⟨rfl,rfl⟩) fun q=> ?_)
 refine d5m s (Zb (⟨[42]⟩,false,()) rfl ?_)
 refine ZN rfl (Zy (fun h=>by subst h;exact⟨rfl,rfl⟩) fun g=>Zb (⟨[42]⟩,true,()) rfl ?_)
 refine ZV (by decide) ?_
 refine d4r s (Zb (⟨[47]⟩,false,()) rfl ?_)
 refine ZN rfl (Zy (fun h=>by subst h;exact⟨rfl,rfl⟩) fun b=>Zb (⟨[47]⟩,true,()) rfl ?_)
 refine ZV (by decide) ?_
 refine c8b s (Zb (⟨[37]⟩,false,()) rfl ?_)
 refine ZN rfl (Zy (fun h=>by subst h;exact⟨rfl,rfl⟩) fun i=>Zb (⟨[37]⟩,true,()) rfl ?_)
 refine ZV (by decide) ?_
 refine c7n s (Zb (⟨[33]⟩,false,()) rfl ?_)
 refine ZV (by decide) (Zb (⟨[33]⟩,true,()) rfl ?_)
 refine ZN rfl (Zy (fun h=>by subst h;exact⟨rfl,rfl⟩) fun a=> ?_)
 refine c5q s (Zh (x:=(⟨⟨[]⟩,false,false⟩:R3 Str Bool Bool)) ?_)
 have e:Cc s=none:=by
  unfold Cc
  rw[List.find?_eq_none]
  intro x j
  simp only[XN,List.mem_cons,List.not_mem_nil,or_false]at j
  rcases j with rfl|rfl|rfl|rfl|rfl|rfl|rfl|rfl|rfl|rfl|rfl|rfl|rfl|rfl|rfl
  ·exact fun e=>y (eq_of_beq e)
  ·exact fun e=>b1 (eq_of_beq e)
  ·exact fun e=>l (eq_of_beq e)
  ·exact fun e=>k (eq_of_beq e)
  ·exact fun e=>u (eq_of_beq e)
  ·exact fun e=>z (eq_of_beq e)
  ·exact fun e=>r (eq_of_beq e)
  ·exact fun e=>B (eq_of_beq e)
  ·exact fun e=>A (eq_of_beq e)
  ·exact fun e=>m (eq_of_beq e)
  ·exact fun e=>g (eq_of_beq e)
  ·exact fun e=>b (eq_of_beq e)
  ·exact fun e=>i (eq_of_beq e)
  ·exact fun e=>q (eq_of_beq e)
  ·exact fun e=>a (eq_of_beq e)
 show _=Jn ⟨s⟩
 unfold Jn
 rw[show Cc (⟨s⟩:Str).s=none from e]
theorem U8(n:Nd):Pt n=(decide (n.elem.s=[])&&decide (n.dims.length+n.data.length=0)):=by
 unfold Pt
 have a:decide (n.elem=⟨[]⟩)=decide (n.elem.s=[]):=decide_eq_decide.2 ⟨fun h=>by rw[h],fun h=>by cases hn:n.elem;rw[hn]at h;simp only at h;rw[h]⟩
 rw[a,Bool.and_assoc]
 congr 1
 cases n.dims <;> cases n.data <;> simp
theorem Jj(n:Nd):decide (n.name=⟨[]⟩)=decide (n.name.s=[]):=decide_eq_decide.2 ⟨fun h=>by rw[h],fun h=>by cases hn:n.name;rw[hn]at h;simp only at h;rw[h]⟩
theorem VZ{α:Type}(l:List α):l.isEmpty=decide (l.length=0):=by cases l <;> simp
theorem U9(n:Nd):TT n=(decide (n.sizes.length=0)&&decide (n.ranks.length=0)):=by unfold TT;rw[VZ,VZ]
def GN(n:Nd):Bool:=(decide (n.name.s=Xb)&&decide (n.num ≥ -2147483648)&&decide (n.num<=2147483647))||(decide (n.name.s=YM)&&(decide (n.num=0)||decide (n.num=1)))
theorem U3(n:Nd):UB n=GN n:=by
 unfold UB GN
 rw[show decide (n.num<=2147483647)=decide (n.num<2147483648)from decide_eq_decide.2 (by omega)]
 by_cases h:n.name.s=YM
 ·rw[if_pos h,h]
  simp[Xb,YM]
 ·rw[if_neg h,decide_eq_false h]
  simp
theorem lQ1{n:Nd}(h1:n.name.s=[105,110,116])(h2:n.num ≥ -2147483648)(h3:n.num<=2147483647):GN n=true:=by unfold GN;rw[decide_eq_true (show n.name.s=Xb from h1),decide_eq_true h2,decide_eq_true h3];rfl
theorem lQ2{n:Nd}(h1:n.name.s=[98,111,111,108])(h2:n.num=0):GN n=true:=by unfold GN;rw[decide_eq_true (show n.name.s=YM from h1),decide_eq_true h2];simp
theorem lQ3{n:Nd}(h1:n.name.s=[98,111,111,108])(h2:n.num=1):GN n=true:=by unfold GN;rw[decide_eq_true (show n.name.s=YM from h1),decide_eq_true h2];simp
theorem lQ0{n:Nd}(h1 : ¬ (n.name.s=[105,110,116]∧n.num ≥ -2147483648∧n.num<=2147483647))(h2:n.name.s=[98,111,111,108]->n.num≠0∧n.num≠1):GN n=false:=by
 rw[<- Bool.not_eq_true]
 intro h
 unfold GN at h
 simp only[Bool.or_eq_true,Bool.and_eq_true,decide_eq_true_eq]at h
 rcases h with h|h
 ·exact h1 ⟨h.1.1,h.1.2,h.2⟩
 ·have:=h2 h.1
  rcases h.2 with h|h
  ·exact this.1 h
  ·exact this.2 h
theorem kB1{n:Nd}{k:Nat}(h:n.kind=1):YJ n k=(decide (k=0)&&nameI n.name.s&&Yx n true false false false false):=by
 unfold YJ Yx
 simp only[h,U8,Jj,U9,VZ,U3,Bool.true_or,Bool.false_or,Bool.true_and,Bool.and_true,if_true,if_false,Int.reduceEq]
 ac_rfl
theorem kB2{n:Nd}{k:Nat}(h:n.kind=2):YJ n k=(decide (k=0)&&GN n&&Yx n true true false false false):=by
 unfold YJ Yx
 simp only[h,U8,Jj,U9,VZ,U3,Bool.true_or,Bool.false_or,Bool.true_and,Bool.and_true,if_true,if_false,Int.reduceEq]
 ac_rfl
theorem kB3{n:Nd}{k:Nat}(h:n.kind=3):YJ n k=(decide (k=0)&&WF (UU n)&&Yx n false false true false false):=by
 unfold YJ Yx
 simp only[h,U8,Jj,U9,VZ,U3,Bool.true_or,Bool.false_or,Bool.true_and,Bool.and_true,if_true,if_false,Int.reduceEq]
 ac_rfl
theorem kB4{n:Nd}{k:Nat}(h:n.kind=4):YJ n k=(decide (k=0)&&decide (n.sizes.length=1)&&n.sizes.all Zg&&Yx n false false false true false):=by
 unfold YJ Yx
 simp only[h,U8,Jj,U9,VZ,U3,Bool.true_or,Bool.false_or,Bool.true_and,Bool.and_true,if_true,if_false,Int.reduceEq]
 ac_rfl
theorem kB5{n:Nd}{k:Nat}(h:n.kind=5):YJ n k=(decide (k=2)&&nameI n.name.s&&Yx n true false false false false):=by
 unfold YJ Yx
 simp only[h,U8,Jj,U9,VZ,U3,Bool.true_or,Bool.false_or,Bool.true_and,Bool.and_true,if_true,if_false,Int.reduceEq]
 ac_rfl
theorem kB6{n:Nd}{k:Nat}(h:n.kind=6):YJ n k=(XJ n k&&Yx n true true false true true):=by
 unfold YJ Yx
 simp only[h,U8,Jj,U9,VZ,U3,Bool.true_or,Bool.false_or,Bool.true_and,Bool.and_true,if_true,if_false,Int.reduceEq]
 ac_rfl
theorem kB7{n:Nd}{k:Nat}(h:n.kind=7):YJ n k=(decide (1<=k)&&decide (k<=16)&&Yx n false false false false false):=by
 unfold YJ Yx
 simp only[h,U8,Jj,U9,VZ,U3,Bool.true_or,Bool.false_or,Bool.true_and,Bool.and_true,if_true,if_false,Int.reduceEq]
 ac_rfl
theorem kB8{n:Nd}{k:Nat}(h:n.kind=8):YJ n k=(decide (k=2)&&Ci n.name.s&&Yx n true false false false false):=by
 unfold YJ Yx
 simp only[h,U8,Jj,U9,VZ,U3,Bool.true_or,Bool.false_or,Bool.true_and,Bool.and_true,if_true,if_false,Int.reduceEq]
 ac_rfl
theorem kB9{n:Nd}{k:Nat}(h:n.kind=9):YJ n k=(decide (k=1)&&Ci n.name.s&&Yx n true false false false false):=by
 unfold YJ Yx
 simp only[h,U8,Jj,U9,VZ,U3,Bool.true_or,Bool.false_or,Bool.true_and,Bool.and_true,if_true,if_false,Int.reduceEq]
 ac_rfl
theorem kB0{n:Nd}{k:Nat}(h1:n.kind≠1)(h2:n.kind≠2)(h3:n.kind≠3)(h:n.kind≠4)(e:n.kind≠5)(a:n.kind≠6)(b:n.kind≠7)(g:n.kind≠8)(i:n.kind≠9):YJ n k=false:=by
 unfold YJ
 rw[if_neg h1,if_neg h2,if_neg h3,if_neg h,if_neg e,if_neg a,if_neg b,if_neg g,if_neg i]
theorem a3g{α:Type}[Enc α]{l:List α}{c:Int}{P Q:Prop}(h1:(l.length:Int)=c->P)(h2:(l.length:Int)≠c->Q):if ((↑(List.length (List.map (enc:α->PV) l)):Int)==c)=true then P else Q:=by
 rw[List.length_map];exact Zy h1 h2
theorem C9{n:Nd}{ks:List Tm}{a b c d e:Bool}{P:Bool->Prop}(g:tW (.mk n ks)=true)(h:P (Yx n a b c d e)):preT (fun x:Tm×Bool×Bool×Bool×Bool×Bool×Unit=>tW x.1) (K9 n ks a b c d e)=true∧ ∃ y:Bool,AV.pv (Zi (fun x:Tm×Bool×Bool×Bool×Bool×Bool×Unit=>Yx x.1.nd x.2.1 x.2.2.1 x.2.2.2.1 x.2.2.2.2.1 x.2.2.2.2.2.1) (K9 n ks a b c d e))=AV.pv (enc y)∧P y:=
 ⟨Zc (Tm.mk n ks,a,b,c,d,e,()) (FJ n ks a b c d e) g,Zb (Tm.mk n ks,a,b,c,d,e,()) (FJ n ks a b c d e) h⟩
theorem c9w{l:List Lin}{P:Bool->Prop}(a:l.length<=1048576)(h1 : ∀ x∈l,XK x=true)(h:P (l.all Zg)):preT (fun x:List Lin×Unit=>decide (x.1.length<=1048576)&&x.1.all XK) [.sl 2 false (l.map enc)]=true∧ ∃ y:Bool,AV.pv (Zi (fun x:List Lin×Unit=>x.1.all Zg) [.sl 2 false (l.map enc)])=AV.pv (enc y)∧P y:=
 ⟨Zc (l,()) rfl (by show(decide (l.length<=1048576)&&l.all XK)=true;rw[decide_eq_true a,List.all_eq_true.2 h1];rfl),Zb (l,()) rfl h⟩
theorem g0q{n:Nd}{P:Bool->Prop}(a:VF (UU n)=true)(h:P (WF (UU n))):preT (fun x:Arr×Unit=>VF x.1) [.agg [.str n.elem.s,.sl 1 false (n.dims.map enc),.sl 1 false (n.data.map enc)]]=true∧ ∃ y:Bool,AV.pv (Zi (fun x:Arr×Unit=>WF x.1) [.agg [.str n.elem.s,.sl 1 false (n.dims.map enc),.sl 1 false (n.data.map enc)]])=AV.pv (enc y)∧P y:=
 ⟨Zc (UU n,()) rfl a,Zb (UU n,()) rfl h⟩
theorem b1a(n:Nd)(ks:List Tm)(g:tW (.mk n ks)=true)(R:Bool): ∀ (d i:Nat),d+i=n.ranks.length->R=(X8 (n.ranks.drop i)&&Ci n.name.s&&Yx n true true false true true) ->
  At Jv 0 (Za UE (Zf R)) Qx 0 221 [(1,.ptr 0 0),(5,.pv (.int .i64 i))] [.obj (.box (ZX n ks))]:=by
 have j:=ndB g
 have hr:=j.ranks
 have e:=j.name
 intro d
 induction d with
 | zero=>
  intro i hi b
  rw[List.drop_eq_nil_of_le (by omega)]at b
  have b:R=(Ci n.name.s&&Yx n true true false true true):=b
  refine a1e n ks i (ZV (X7 (by omega)) (c8u e (YX (fun h=>C9 g (Zl ?_)) fun h=>Zl ?_)))
  ·rw[b,h];rfl
  ·rw[b,h];rfl
 | succ d ih=>
  intro i hi b
  have a:i<n.ranks.length:=by omega
  rw[List.drop_eq_getElem_cons a]at b
  have hc:X8 (n.ranks[i]::n.ranks.drop (i+1))=((decide (0<=n.ranks[i])&&decide (n.ranks[i]<=6))&&X8 (n.ranks.drop (i+1))):=rfl
  rw[hc]at b
  refine a1e n ks i (ZN (XY a) ⟨Zt a rfl,ZK a (ZU (fun h=>Zl ?_) fun h=>⟨Zt a rfl,ZK a (ZU (fun h2=>Zl ?_) fun h2=> ?_)⟩)⟩)
  ·have h:n.ranks[i]<0:=h
   rw[b,decide_eq_false (by omega)];rfl
  ·have h2:n.ranks[i]>6:=h2
   rw[b,decide_eq_false (show ¬ n.ranks[i]<=6 by omega),Bool.and_false];rfl
  ·have h : ¬ n.ranks[i]<0:=h
   have h2 : ¬ n.ranks[i]>6:=h2
   rw[next (by omega)]
   exact ih (i+1) (by omega) (by rw[b,decide_eq_true (by omega),decide_eq_true (show n.ranks[i]<=6 by omega)];rfl)
theorem b8x: ∀ x:Tm×Unit,tW x.1=true->Zd Jv 0 (Za UE (Zf (Hq x.1))) Qx [] (Zx c7o (encL x)):=by
 rintro⟨⟨n,ks⟩,⟨⟩⟩ hw
 have y:=ndB hw
 have k:=y.name
 have hkl:=(H7 hw).1
 have u : ∀ l∈n.sizes,XK l=true:=fun l F=>decide_eq_true (by have:=y.lens l F;omega)
 rw[<- ZY]
 show Zd _ 0 (Za UE (Zf (WC n ks.length))) _ _ _
 refine e7r n ks (ZU (fun h=>Zl ?_) fun h1=>ZU (fun h=>Zl ?_) fun h2=> ?_)
 ·unfold WC;rw[decide_eq_false (by omega)];rfl
 ·unfold WC;rw[decide_eq_false (show ¬ n.line<=10000 by omega),Bool.and_false];rfl
 have hn:WC n ks.length=YJ n ks.length:=by unfold WC;rw[decide_eq_true (by omega),decide_eq_true (by omega)];rfl
 rw[hn]
 refine Zy (fun g=> ?_) fun L=>Zy (fun g=> ?_) fun K=>Zy (fun g=> ?_) fun E=>Zy (fun g=> ?_) fun C=>Zy (fun g=> ?_) fun O=>Zy (fun g=> ?_) fun N=>Zy (fun g=> ?_) fun M=>Zy (fun g=> ?_) fun I=>Zy (fun g=> ?_) fun J=>Zl (kB0 L K E C O N M I J).symm
 ·rw[kB1 g]
  refine a3g (fun j=>KU k (YX (fun e=>C9 hw (Zl ?_)) fun e=>Zl ?_)) fun j=>Zl ?_
  ·rw[e,decide_eq_true (by omega)];rfl
  ·rw[e,Bool.and_false];rfl
  ·rw[decide_eq_false (by omega)];rfl
 ·rw[kB2 g]
  have i:GN n=true->(ks.length:Int)=0->Yx n true true false false false=(decide (ks.length=0)&&GN n&&Yx n true true false false false):=fun a b=>by rw[a,decide_eq_true (show ks.length=0 by omega)];rfl
  have m:GN n=false->false=(decide (ks.length=0)&&GN n&&Yx n true true false false false):=fun a=>by rw[a,Bool.and_false];rfl
  have q:(ks.length:Int)≠0->false=(decide (ks.length=0)&&GN n&&Yx n true true false false false):=fun a=>by rw[decide_eq_false (show ¬ ks.length=0 by omega)];rfl
  repeat' (first|refine a3g (fun _=> ?_) fun _=> ?_|refine Zy (fun _=> ?_) fun _=> ?_|refine ZU (fun _=> ?_) fun _=> ?_|refine C9 hw (Zl ?_)|refine Zl ?_)
  all_goals first
   | exact q ‹_›
   | exact i (lQ1 ‹_› ‹_› ‹_›) ‹_›
   | exact i (lQ2 ‹_› ‹_›) ‹_›
   | exact i (lQ3 ‹_› ‹_›) ‹_›
   | exact m (lQ0 (fun h=>by first|exact absurd h.1 ‹_› | exact absurd h.2.1 ‹_› | exact absurd h.2.2 ‹_›) (fun a=>by first|exact absurd a ‹_› | exact⟨‹_›,‹_›⟩))
 ·rw[kB3 g]
  refine a3g (fun j=>g0q (FH hw) (YX (fun e=>C9 hw (Zl ?_)) fun e=>Zl ?_)) fun j=>Zl ?_
  ·rw[e,decide_eq_true (by omega)];rfl
  ·rw[e,Bool.and_false];rfl
  ·rw[decide_eq_false (by omega)];rfl
 ·rw[kB4 g]
  refine a3g (fun j=>a3g (fun h3=>c9w y.sizes u (YX (fun e=>C9 hw (Zl ?_)) fun e=>Zl ?_)) fun h3=>Zl ?_) fun j=>Zl ?_
  ·rw[e,decide_eq_true (show ks.length=0 by omega),decide_eq_true (show n.sizes.length=1 by omega)];rfl
  ·rw[e,Bool.and_false];rfl
  ·rw[decide_eq_false (show ¬ n.sizes.length=1 by omega),Bool.and_false];rfl
  ·rw[decide_eq_false (show ¬ ks.length=0 by omega)];rfl
 ·rw[kB5 g]
  refine a3g (fun j=>KU k (YX (fun e=>C9 hw (Zl ?_)) fun e=>Zl ?_)) fun j=>Zl ?_
  ·rw[e,decide_eq_true (by omega)];rfl
  ·rw[e,Bool.and_false];rfl
  ·rw[decide_eq_false (by omega)];rfl
 ·rw[kB6 g]
  have hc:XJ n ks.length=(decide (ks.length<=8)&&decide (n.sizes.length<=4)&&n.sizes.all Zg&&decide (0<=n.num)&&decide (n.num<=64)&&(n.ranks.isEmpty||decide (n.ranks.length=ks.length))&&(X8 n.ranks&&Ci n.name.s)):=by unfold XJ;ac_rfl
  rw[hc]
  refine ZU (fun h3=>Zl ?_) fun h3=>ZU (fun r=>Zl ?_) fun r=>c9w y.sizes u (Y8 (fun e=>Zl ?_) fun e=>ZU (fun H=>Zl ?_) fun H=>ZU (fun B=>Zl ?_) fun B=> ?_)
  ·rw[List.length_map]at h3
   rw[decide_eq_false (show ¬ ks.length<=8 by omega)];simp
  ·rw[List.length_map]at r
   rw[decide_eq_false (show ¬ n.sizes.length<=4 by omega)];simp
  ·rw[e];simp
  ·rw[decide_eq_false (show ¬ 0<=n.num by omega)];simp
  ·rw[decide_eq_false (show ¬ n.num<=64 by omega)];simp
  ·rw[List.length_map]at h3 r
   have go:(n.ranks.isEmpty||decide (n.ranks.length=ks.length))=true->At Jv 0 (Za UE (Zf (decide (ks.length<=8)&&decide (n.sizes.length<=4)&&n.sizes.all Zg&&decide (0<=n.num)&&decide (n.num<=64)&&(n.ranks.isEmpty||decide (n.ranks.length=ks.length))&&(X8 n.ranks&&Ci n.name.s)&&Yx n true true false true true))) Qx 0 221 [(1,.ptr 0 0),(5,.pv (.int .i64 ((0:Nat):Int)))] [.obj (.box (ZX n ks))]:=fun D=>
    b1a n ks hw _ n.ranks.length 0 (by omega) (by rw[D,e,decide_eq_true (show ks.length<=8 by omega),decide_eq_true (show n.sizes.length<=4 by omega),decide_eq_true (show 0<=n.num by omega),decide_eq_true (show n.num<=64 by omega)];rfl)
   refine Aj (fun A=>Aj (fun z=>Zl ?_) fun z=> ?_) fun A=> ?_
   ·rw[List.length_map,List.length_map]at z
    rw[List.length_map]at A
    rw[VZ,decide_eq_false (show ¬ n.ranks.length=0 by omega),decide_eq_false (show ¬ n.ranks.length=ks.length by omega)];simp
   ·rw[List.length_map,List.length_map]at z
    exact go (by rw[decide_eq_true (show n.ranks.length=ks.length by omega),Bool.or_true])
   ·rw[List.length_map]at A
    exact go (by rw[VZ,decide_eq_true (show n.ranks.length=0 by omega),Bool.true_or])
 ·rw[kB7 g]
  refine ZU (fun h3=>ZU (fun r=>C9 hw (Zl ?_)) fun r=>Zl ?_) fun h3=>Zl ?_
  ·rw[List.length_map]at h3 r
   rw[decide_eq_true (show 1<=ks.length by omega),decide_eq_true (show ks.length<=16 by omega)];rfl
  ·rw[List.length_map]at r
   rw[decide_eq_false (show ¬ ks.length<=16 by omega),Bool.and_false];rfl
  ·rw[List.length_map]at h3
   rw[decide_eq_false (show ¬ 1<=ks.length by omega)];rfl
 ·rw[kB8 g]
  refine a3g (fun j=>c8u k (YX (fun e=>C9 hw (Zl ?_)) fun e=>Zl ?_)) fun j=>Zl ?_
  ·rw[e,decide_eq_true (by omega)];rfl
  ·rw[e,Bool.and_false];rfl
  ·rw[decide_eq_false (by omega)];rfl
 ·rw[kB9 g]
  refine a3g (fun j=>c8u k (YX (fun e=>C9 hw (Zl ?_)) fun e=>Zl ?_)) fun j=>Zl ?_
  ·rw[e,decide_eq_true (by omega)];rfl
  ·rw[e,Bool.and_false];rfl
  ·rw[decide_eq_false (by omega)];rfl
theorem e8i{n:Nd}{ks:List Tm}{β:Type}[Enc β]{F:Tm->β}{P:β->Prop}(a:tW (.mk n ks)=true)(h:P (F (.mk n ks))):preT (fun x:Tm×Unit=>tW x.1) (CO n ks)=true∧ ∃ y:β,AV.pv (Zi (fun x:Tm×Unit=>F x.1) (CO n ks))=AV.pv (enc y)∧P y:=
 ⟨Zc (Tm.mk n ks,()) (ZY n ks) a,Zb (Tm.mk n ks,()) (ZY n ks) h⟩
theorem c3o(N:Nat)(n:Nd)(ks:List Tm)(e:tW (.mk n ks)=true)(hd:Yc ks<N)(R:Bool): ∀ (d i:Nat),d+i=ks.length->R=(WC n ks.length&&(ks.drop i).all Z9) ->
  At (Ak N) 0 (Za HY (Zf R)) HZ 0 20 [(1,.ptr 0 0),(3,.pv (.int .i64 i))] [.obj (.box (ZX n ks))]:=by
 intro d
 induction d with
 | zero=>
  intro i hi b
  rw[List.drop_eq_nil_of_le (by omega),List.all_nil,Bool.and_true]at b
  refine b2d N n ks i (ZV (X7 (by omega)) (e8i e (Zl ?_)))
  rw[b];rfl
 | succ d ih=>
  intro i hi b
  have a:i<ks.length:=by omega
  have hkl:=(H7 e).1
  rw[List.drop_eq_getElem_cons a,List.all_cons]at b
  refine b2d N n ks i (ZN (XY a) ⟨Zt a rfl,ZK a ⟨Xy _,Zc (ks[i],()) (Yb _) (Tk e hd (List.getElem_mem a)),Zb (ks[i],()) (Yb _) (Y8 (fun h=>Zl ?_) fun h=> ?_)⟩⟩)
  ·have h:Z9 ks[i]=false:=h
   rw[b,h];simp
  ·have h:Z9 ks[i]=true:=h
   rw[next (by omega)]
   exact ih (i+1) (by omega) (by rw[b,h];rfl)
theorem d9o(N:Nat): ∀ x:Tm×Unit,(tW x.1&&decide (Z4 x.1<N+1))=true->Zd (Ak N) 0 (Za HY (Zf (Z9 x.1))) HZ [] (Zx e3v (encL x)):=by
 rintro⟨⟨n,ks⟩,⟨⟩⟩ h
 simp only[Bool.and_eq_true,decide_eq_true_eq]at h
 have hd:Z4 (.mk n ks)<N+1:=h.2
 rw[Z4]at hd
 rw[<- ZY]
 exact f6k N n ks (c3o N n ks h.1 (by omega) _ ks.length 0 (by omega) (by show Z9 (.mk n ks)=_;rw[Z9,Uk];rfl))
set_option maxRecDepth 20000 in
theorem a8k: ∀ x:Tm×Unit,tW x.1=true->Zd EB 0 (Za AR (Zf (Y6 x.1))) Mj [] (Zx b7v (encL x)):=by
 rintro⟨⟨n,ks⟩,⟨⟩⟩ hw
 have g : ∀ a b:Nat,(b:Int)=b->decide (a<=b)=decide ((a:Int)<=(b:Int)):=fun a b _=>decide_eq_decide.2 (by omega)
 have h:decide (Yt (.mk n ks)<=400)=decide (((Yt (.mk n ks):Nat):Int)<=400):=g _ 400 rfl
 have i:decide (Z4 (.mk n ks)<=40)=decide (((Z4 (.mk n ks):Nat):Int)<=40):=g _ 40 rfl
 have e:Y6 (.mk n ks)=(decide (((Yt (.mk n ks):Nat):Int)<=400)&&decide (((Z4 (.mk n ks):Nat):Int)<=40)&&Z9 (.mk n ks)):=by
  unfold Y6 XI
  rw[Dk,h,i]
 rw[<- ZY]
 show Zd _ 0 (Za AR (Zf (Y6 (.mk n ks)))) _ _ _
 rw[e]
 refine d4t n ks ⟨Zc (Tm.mk n ks,()) (ZY n ks) hw,Zb (Tm.mk n ks,()) (ZY n ks) (ZU (fun h1=>⟨Zc (Tm.mk n ks,()) (ZY n ks) hw,Zb (Tm.mk n ks,()) (ZY n ks) (ZU (fun h2=>e8i hw (Zl ?_)) fun h2=>Zl ?_)⟩) fun h1=>Zl ?_)⟩
 ·have h1:((Yt (.mk n ks):Nat):Int)<=400:=h1
  have h2:((Z4 (.mk n ks):Nat):Int)<=40:=h2
  rw[decide_eq_true h1,decide_eq_true h2];rfl
 ·have h2 : ¬ ((Z4 (.mk n ks):Nat):Int)<=40:=h2
  rw[decide_eq_false h2,Bool.and_false];rfl
 ·have h1 : ¬ ((Yt (.mk n ks):Nat):Int)<=400:=h1
  rw[decide_eq_false h1];rfl
end Go.Pl
namespace Go.Pl
open Go.RowKit
open Enc (enc dec is)
open EncL (encL decL isL)
set_option maxRecDepth 100000
abbrev g0b(ps:List PV)(k:Bool->Prop):Prop:=ceP (fun(x:Str×Int×Unit)=>X6 (Prod.fst x) (Prod.fst (Prod.snd x))) ps k
abbrev e7z(ps:List PV)(k:List Int->Prop):Prop:=Yn (fun(x:List Int×Unit)=>decide (List.length (Prod.fst x)<=2000000)) (fun(x:List Int×Unit)=>Prod.fst x) ps k
abbrev g3g(ps:List PV)(k:Arr×Int->Prop):Prop:=Yn (fun(x:Str×List Int×List Int×Unit)=>decide (List.length (Prod.fst (Prod.snd x))<=2000000)&&decide (List.length (Prod.fst (Prod.snd (Prod.snd x)))<=2000000)) (fun(x:Str×List Int×List Int×Unit)=>JG (Prod.fst x) (Prod.fst (Prod.snd x)) (Prod.fst (Prod.snd (Prod.snd x)))) ps k
abbrev c4d(N:Nat)(ps:List PV)(k:Str->Prop):Prop:=Yn (fun(x:Int×Unit)=>decide (Int.natAbs (Prod.fst x)<9223372036854775808)&&decide (Aa (Prod.fst x)<N)) (fun(x:Int×Unit)=>Zp (Prod.fst x)) ps k
abbrev g3c(ps:List PV)(k:Bool->Prop):Prop:=Yn (fun(x:Arr×Unit)=>VF (Prod.fst x)) (fun(x:Arr×Unit)=>WF (Prod.fst x)) ps k
abbrev d5l(ps:List PV)(k:Str->Prop):Prop:=Yn (fun(x:Int×Unit)=>decide (Int.natAbs (Prod.fst x)<9223372036854775808)) (fun(x:Int×Unit)=>Zp (Prod.fst x)) ps k
noncomputable def a2n:IC:=YR Proofs.Tryz.f169
def a1b:List IRes:=[(.tmp 2)]
abbrev d8o:Nat:=6
def b6k:ZB:=Yi []
theorem e7x{G:PV->Prop}(l:List Int)(h:(List.isEmpty (List.map enc l)||Enc.sz Int==1)=true∧((List.length ([]:List PV)==0&&0==0&&decide ((0+List.length (List.map enc l))*8<=1099511627776)&&decide (0+List.length (List.map enc l)<=1099511627776))=true∧((List.length (([]:List PV)++List.map enc l)==0+List.length (List.map enc l))=true∧(G ((.sl 1 false (List.drop 0 (List.take (0+List.length (List.map enc l)) (([]:List PV)++List.map enc l))))))))):Zd b6k 0 (Za a1b G) a2n [] (Zx 6 [enc l]):=Zd.tp (.lit (.req (.req (.req (.nil))))) h
noncomputable def b3h:IC:=YR Proofs.Tryz.f168
def b7f:List IRes:=[(.tmp 4)]
abbrev e6r:Nat:=23
def d1h:ZB:=Yi []
theorem f6c{G:PV->Prop}(e:List UInt8)(n:Int)(h:if (e==[(98:UInt8),(111:UInt8),(111:UInt8),(108:UInt8)])=true then if (n==0)=true then G ((.bool true))else(G ((.bool (n==1))))else(if (e==[(105:UInt8),(110:UInt8),(116:UInt8)])=true then if (decide (n ≥ (-2147483648:Int)))=true then G ((.bool (decide (n<=2147483647))))else(G ((.bool false)))else(G ((.bool false))))):Zd d1h 0 (Za b7f G) b3h [] (Zx 23 [.str e,.int .i64 n]):=Zd.tp (dm [] 43 0x222220220222004422200e4202220220034200c42) h
noncomputable def UR:IC:=YR Proofs.Tryz.f142
def UQ:List IRes:=[(.cell true 3 6),(.tmp 7)]
abbrev a0l:Nat:=52
def QT:ZB:=Yi [(167,.pure (preT (fun _:List Int×Unit=>true)) (Zi (fun x:List Int×Unit=>Y4 x.1))),(168,.pure (preT (fun _:Str×Int×Unit=>true)) (Zi (fun x:Str×Int×Unit=>X6 x.1 x.2.1))),(169,.pure (preT (fun x:List Int×Unit=>decide (x.1.length<=2000000))) (Zi (fun x:List Int×Unit=>x.1)))]
theorem d9r{G:PV->Prop}(e:List UInt8)(d x:List Int)(h:if (!e==[(105:UInt8),(110:UInt8),(116:UInt8)])=true then if (!e==[(98:UInt8),(111:UInt8),(111:UInt8),(108:UInt8)])=true then G ((.tup [(.agg [(.str []),(.sl 0 true []),(.sl 0 true [])]),(.int .i64 12)]))else((Go.Pl.preT (fun(x:List Int×Unit)=>true) [(.sl 1 false (List.map enc d))])=true∧(∃ a:Int×Int,AV.pv (Zi (fun(x:List Int×Unit)=>Y4 x.1) [(.sl 1 false (List.map enc d))])=AV.pv (enc a)∧(if (a.2 != 0)=true then G ((.tup [(.agg [(.str []),(.sl 0 true []),(.sl 0 true [])]),(.int .i64 a.2)]))else(if ((↑(List.length (List.map enc x)):Int) != a.1)=true then G ((.tup [(.agg [(.str []),(.sl 0 true []),(.sl 0 true [])]),(.int .i64 1)]))else(At QT 0 (Za UQ G) UR 0 52 [(0,(.pv (.str e))),(1,(.pv (.sl 1 false (List.map enc d)))),(2,(.pv (.sl 1 false (List.map enc x)))),(6,(.ptr 0 0)),(10,(.pv (.int .i64 0)))] [(.obj (.box [(.pv (.str [])),(.pv (.sl 0 true [])),(.pv (.sl 0 true []))]))])))))else((Go.Pl.preT (fun(x:List Int×Unit)=>true) [(.sl 1 false (List.map enc d))])=true∧(∃ b:Int×Int,AV.pv (Zi (fun(x:List Int×Unit)=>Y4 x.1) [(.sl 1 false (List.map enc d))])=AV.pv (enc b)∧(if (b.2 != 0)=true then G ((.tup [(.agg [(.str []),(.sl 0 true []),(.sl 0 true [])]),(.int .i64 b.2)]))else(if ((↑(List.length (List.map enc x)):Int) != b.1)=true then G ((.tup [(.agg [(.str []),(.sl 0 true []),(.sl 0 true [])]),(.int .i64 1)]))else(At QT 0 (Za UQ G) UR 0 52 [(0,(.pv (.str e))),(1,(.pv (.sl 1 false (List.map enc d)))),(2,(.pv (.sl 1 false (List.map enc x)))),(6,(.ptr 0 0)),(10,(.pv (.int .i64 0)))] [(.obj (.box [(.pv (.str [])),(.pv (.sl 0 true [])),(.pv (.sl 0 true []))]))])))))):Zd QT 0 (Za UQ G) UR [] (Zx 52 [.str e,enc d,enc x]):=Zd.tp (dm [dv (Int×Int)] 47 0x142000142512220000142000142510001422201742) h
theorem a1q{G:PV->Prop}(e:List UInt8)(d x:List Int)(i:Int)(h:if (Al x i)=true then(Xv x i 1 fun a=>(g0b [(.str e),(.int .i64 (PV.asInt (VC a)))] fun j=>(if (!j)=true then G ((.tup [(.agg [(.str []),(.sl 0 true []),(.sl 0 true [])]),(.int .i64 2)]))else(At QT 0 (Za UQ G) UR 0 52 [(0,(.pv (.str e))),(1,(.pv (.sl 1 false (List.map enc d)))),(2,(.pv (.sl 1 false (List.map enc x)))),(6,(.ptr 0 0)),(10,(.pv (.int .i64 (IntKind.wrap IntKind.i64 (i+1)))))] [(.obj (.box [(.pv (.str [])),(.pv (.sl 0 true [])),(.pv (.sl 0 true []))]))]))))else((e7z [(.sl 1 false (List.map enc d))] fun g=>((e7z [(.sl 1 false (List.map enc x))] fun b=>(G ((.tup [(.agg [(.str e),(.sl 1 false (List.map enc g)),(.sl 1 false (List.map enc b))]),(.int .i64 0)])))))))):At QT 0 (Za UQ G) UR 0 52 [(0,.pv (.str e)),(1,.pv (enc d)),(2,.pv (enc x)),(6,.ptr 0 0),(10,.pv (.int .i64 i))] [.obj (.box [.pv (.str []),.pv (.sl 0 true []),.pv (.sl 0 true [])])]:=At.tp (dm [dr Int,dv Bool,dv (List Int)] 23 0x717102000146225100c42) h
noncomputable def b7i:IC:=YR Proofs.Tryz.f114
def b2z:List IRes:=[(.tmp 2)]
abbrev e1o:Nat:=17
def c9v:ZB:=Yi [(142,.pure (preT (fun x:Str×List Int×List Int×Unit=>decide (x.2.1.length<=2000000)&&decide (x.2.2.1.length<=2000000))) (Zi (fun x:Str×List Int×List Int×Unit=>JG x.1 x.2.1 x.2.2.1)))]
theorem f4z{G:PV->Prop}(a:Arr)(h:(g3g [(.str (Str.s (Arr.e a))),(.sl 1 false (List.map enc (Arr.d a))),(.sl 1 false (List.map enc (Arr.x a)))] fun b=>(G ((.bool (b.2==0)))))):Zd c9v 0 (Za b2z G) b7i [] (Zx 17 [enc a]):=Zd.tp (.req (FV (Arr×Int) (.lit (.nil)))) h
noncomputable def b4i:IC:=YR Proofs.Tryz.f115
def b5w:List IRes:=[(.tmp 2)]
abbrev e2r:Nat:=24
def c8m(N:Nat):ZB:=Yi [(115,.pure (preT (fun x:Int×Unit=>(decide (x.1.natAbs<9223372036854775808))&&decide (Aa x.1<N))) (Zi (fun x:Int×Unit=>Zp x.1)))]
theorem f3a{G:PV->Prop}(N:Nat)(n:Int)(h:if (decide (n<0))=true then(c4d N [(.int .i64 (IntKind.wrap IntKind.i64 (-n)))] fun a=>(ZA [(45:UInt8)] (Str.s a)∧(G ((.str ([(45:UInt8)]++Str.s a))))))else((List.length [PV.int IntKind.u8 (IntKind.wrap IntKind.u8 (IntKind.wrap IntKind.i64 (48+Int.tmod n 10)))]==1&&List.all [PV.int IntKind.u8 (IntKind.wrap IntKind.u8 (IntKind.wrap IntKind.i64 (48+Int.tmod n 10)))] Dv&&1==1)=true∧(if (decide (n<10))=true then G ((.str (Y2 (List.drop 0 (List.take 1 [PV.int IntKind.u8 (IntKind.wrap IntKind.u8 (IntKind.wrap IntKind.i64 (48+Int.tmod n 10)))])))))else((c4d N [(.int .i64 (IntKind.wrap IntKind.i64 (Int.tdiv n 10)))] fun b=>(ZA (Str.s b) (Y2 (List.drop 0 (List.take 1 [PV.int IntKind.u8 (IntKind.wrap IntKind.u8 (IntKind.wrap IntKind.i64 (48+Int.tmod n 10)))])))∧(G ((.str (Str.s b++Y2 (List.drop 0 (List.take 1 [PV.int IntKind.u8 (IntKind.wrap IntKind.u8 (IntKind.wrap IntKind.i64 (48+Int.tmod n 10)))])))))))))))):Zd (c8m N) 0 (Za b5w G) b4i [] (Zx 24 [enc n]):=Zd.tp (dm [dv Str] 25 0x15120001421222015100442) h
noncomputable def WW:IC:=YR Proofs.Tryz.f80
def WT:List IRes:=[(.tmp 2),(.tmp 3)]
abbrev e2u:Nat:=52
def Ue:ZB:=Yi [(114,.pure (preT (fun x:Arr×Unit=>VF x.1)) (Zi (fun x:Arr×Unit=>WF x.1))),(115,.pure (preT (fun x:Int×Unit=>decide (x.1.natAbs<9223372036854775808))) (Zi (fun x:Int×Unit=>Zp x.1)))]
theorem f3e{G:PV->Prop}(a:Arr)(h:(g3c [(.agg [(.str (Str.s (Arr.e a))),(.sl 1 false (List.map enc (Arr.d a))),(.sl 1 false (List.map enc (Arr.x a)))])] fun b=>(if (!b)=true then G ((.tup [(.str []),(.int .i64 1)]))else(if (Str.s (Arr.e a)==[(98:UInt8),(111:UInt8),(111:UInt8),(108:UInt8)])=true then At Ue 0 (Za WT G) WW 0 52 [(1,(.ptr 0 0)),(4,(.pv (.str [(35:UInt8),(98:UInt8),(91:UInt8)]))),(5,(.pv (.int .i64 0)))] [(.obj (.box [(.pv (.str (Str.s (Arr.e a)))),(.pv (.sl 1 false (List.map enc (Arr.d a)))),(.pv (.sl 1 false (List.map enc (Arr.x a))))]))]else(At Ue 0 (Za WT G) WW 0 52 [(1,(.ptr 0 0)),(4,(.pv (.str [(35:UInt8),(91:UInt8)]))),(5,(.pv (.int .i64 0)))] [(.obj (.box [(.pv (.str (Str.s (Arr.e a)))),(.pv (.sl 1 false (List.map enc (Arr.d a)))),(.pv (.sl 1 false (List.map enc (Arr.x a))))]))]))))):Zd Ue 0 (Za WT G) WW [] (Zx 52 [enc a]):=Zd.tp (dm [dv Bool] 15 0x1420001451) h
theorem b3y{G:PV->Prop}(a:Arr)(o:List UInt8)(i:Int)(h:if (Al (Arr.d a) i)=true then if (decide (i>0))=true then ZA o [(32:UInt8)]∧((Xv (Arr.d a) i 1 fun j=>((d5l [(.int .i64 (PV.asInt (VC j)))] fun g=>(ZA (o++[(32:UInt8)]) (Str.s g)∧(At Ue 0 (Za WT G) WW 0 52 [(1,(.ptr 0 0)),(4,(.pv (.str (o++[(32:UInt8)]++Str.s g)))),(5,(.pv (.int .i64 (IntKind.wrap IntKind.i64 (i+1)))))] [(.obj (.box [(.pv (.str (Str.s (Arr.e a)))),(.pv (.sl 1 false (List.map enc (Arr.d a)))),(.pv (.sl 1 false (List.map enc (Arr.x a))))]))]))))))else((Xv (Arr.d a) i 1 fun k=>((d5l [(.int .i64 (PV.asInt (VC k)))] fun b=>(ZA o (Str.s b)∧(At Ue 0 (Za WT G) WW 0 52 [(1,(.ptr 0 0)),(4,(.pv (.str (o++Str.s b)))),(5,(.pv (.int .i64 (IntKind.wrap IntKind.i64 (i+1)))))] [(.obj (.box [(.pv (.str (Str.s (Arr.e a)))),(.pv (.sl 1 false (List.map enc (Arr.d a)))),(.pv (.sl 1 false (List.map enc (Arr.x a))))]))]))))))else(ZA o [(58:UInt8)]∧(At Ue 0 (Za WT G) WW 1 52 [(1,(.ptr 0 0)),(4,(.pv (.str (o++[(58:UInt8)])))),(6,(.pv (.int .i64 0)))] [(.obj (.box [(.pv (.str (Str.s (Arr.e a)))),(.pv (.sl 1 false (List.map enc (Arr.d a)))),(.pv (.sl 1 false (List.map enc (Arr.x a))))]))]))):At Ue 0 (Za WT G) WW 0 52 [(1,.ptr 0 0),(4,.pv (.str o)),(5,.pv (.int .i64 i))] [.obj (.box [.pv (.str a.e.s),.pv (enc a.d),.pv (enc a.x)])]:=At.tp (dm [dr Int,dv Str] 30 0x1021612510216125110094201642) h
theorem b2l{G:PV->Prop}(a:Arr)(o:List UInt8)(i:Int)(h:if (Al (Arr.x a) i)=true then(Xv (Arr.x a) i 1 fun g=>((d5l [(.int .i64 (PV.asInt (VC g)))] fun b=>(ZA [(32:UInt8)] (Str.s b)∧(ZA o ([(32:UInt8)]++Str.s b)∧(At Ue 0 (Za WT G) WW 1 52 [(1,(.ptr 0 0)),(4,(.pv (.str (o++([(32:UInt8)]++Str.s b))))),(6,(.pv (.int .i64 (IntKind.wrap IntKind.i64 (i+1)))))] [(.obj (.box [(.pv (.str (Str.s (Arr.e a)))),(.pv (.sl 1 false (List.map enc (Arr.d a)))),(.pv (.sl 1 false (List.map enc (Arr.x a))))]))]))))))else(ZA o [(93:UInt8)]∧(G ((.tup [(.str (o++[(93:UInt8)])),(.int .i64 0)]))))):At Ue 0 (Za WT G) WW 1 52 [(1,.ptr 0 0),(4,.pv (.str o)),(6,.pv (.int .i64 i))] [.obj (.box [.pv (.str a.e.s),.pv (enc a.d),.pv (enc a.x)])]:=At.tp (dm [dr Int,dv Str] 17 0x102116125100942) h
noncomputable def Gq:IC:=YR Proofs.Tryz.f76
def Hz:List IRes:=[(.tmp 2)]
abbrev e1v:Nat:=31
def AQ(N:Nat):ZB:=Yi [(76,.pure (preT (fun x:Int×Unit=>(decide (x.1.natAbs<9223372036854775808))&&decide (Aa x.1<N))) (Zi (fun x:Int×Unit=>Zp x.1)))]
theorem f7y{G:PV->Prop}(N:Nat)(m:Int)(h:if (decide (m<0))=true then(c4d N [(.int .i64 (IntKind.wrap IntKind.i64 (-m)))] fun a=>(ZA [(45:UInt8)] (Str.s a)∧(G ((.str ([(45:UInt8)]++Str.s a))))))else((List.length [PV.int IntKind.u8 (IntKind.wrap IntKind.u8 (IntKind.wrap IntKind.i64 (48+Int.tmod m 10)))]==1&&List.all [PV.int IntKind.u8 (IntKind.wrap IntKind.u8 (IntKind.wrap IntKind.i64 (48+Int.tmod m 10)))] Dv&&1==1)=true∧(At (AQ N) 0 (Za Hz G) Gq 0 31 [(0,(.pv (.int .i64 (IntKind.wrap IntKind.i64 (Int.tdiv m 10))))),(3,(.pv (.str (Y2 (List.drop 0 (List.take 1 [PV.int IntKind.u8 (IntKind.wrap IntKind.u8 (IntKind.wrap IntKind.i64 (48+Int.tmod m 10)))]))))))] []))):Zd (AQ N) 0 (Za Hz G) Gq [] (Zx 31 [enc m]):=Zd.tp (dm [dv Str] 16 0x21222015100442) h
theorem b3v{G:PV->Prop}(N:Nat)(m:Int)(n:Int)(o:List UInt8)(h:if (decide (n>0))=true then(List.length [PV.int IntKind.u8 (IntKind.wrap IntKind.u8 (IntKind.wrap IntKind.i64 (48+Int.tmod n 10)))]==1&&List.all [PV.int IntKind.u8 (IntKind.wrap IntKind.u8 (IntKind.wrap IntKind.i64 (48+Int.tmod n 10)))] Dv&&1==1)=true∧(ZA (Y2 (List.drop 0 (List.take 1 [PV.int IntKind.u8 (IntKind.wrap IntKind.u8 (IntKind.wrap IntKind.i64 (48+Int.tmod n 10)))]))) o∧(At (AQ N) 0 (Za Hz G) Gq 0 31 [(0,(.pv (.int .i64 (IntKind.wrap IntKind.i64 (Int.tdiv n 10))))),(3,(.pv (.str (Y2 (List.drop 0 (List.take 1 [PV.int IntKind.u8 (IntKind.wrap IntKind.u8 (IntKind.wrap IntKind.i64 (48+Int.tmod n 10)))]))++o))))] []))else(G ((.str o)))):At (AQ N) 0 (Za Hz G) Gq 0 31 [(0,.pv (.int .i64 n)),(3,.pv (.str o))] []:=At.tp (dm [] 14 0x21122200742) h
end Go.Pl
namespace Go.Pl
open Go.RowKit
open Enc (enc dec is)
open EncL (encL decL isL)
theorem c1e: ∀ x:List Int×Unit,decide (x.1.length<=2000000)=true->Zd b6k 0 (Za a1b (Zf x.1)) a2n [] (Zx d8o (encL x)):=by
 rintro⟨l,⟨⟩⟩ h
 have hl:l.length<=2000000:=of_decide_eq_true h
 refine e7x l ⟨by simp[Enc.sz],by simp;omega,by simp,?_⟩
 rw[List.nil_append,List.drop_zero,List.take_of_length_le (by omega)]
 exact Zh (x:=l) rfl
theorem d0e: ∀ a:Str×Int×Unit,true=true->Zd d1h 0 (Za b7f (Zf (X6 a.1 a.2.1))) b3h [] (Zx e6r (encL a)):=by
 rintro⟨⟨e⟩,n,⟨⟩⟩ _
 refine f6c e n ?_
 simp only[beq_iff_eq,decide_eq_true_eq,Zf,b7e,a5v,true_and,X6,Xb,YM,ge_iff_le]
 by_cases h1:e=[105,110,116]
 ·subst h1
  rw[if_neg (by decide)]
  simp only[if_true]
  split <;> simp[*]
 ·by_cases h2:e=[98,111,111,108]
  ·subst h2
   simp only[if_true]
   split <;> simp[*]
  ·simp[h1,h2]
theorem a8m(e:List UInt8)(d x:List Int)(hd:d.length<=2000000)(b:x.length<=2000000)(r:Arr×Int): ∀ (m k:Nat),m+k=x.length->r=(if (x.drop k).all (X6 ⟨e⟩)then(⟨⟨e⟩,d,x⟩,0)else(⟨⟨[]⟩,[],[]⟩,2)) ->
  At QT 0 (Za UQ (Zf r)) UR 0 a0l [(0,.pv (.str e)),(1,.pv (enc d)),(2,.pv (enc x)),(6,.ptr 0 0),(10,.pv (.int .i64 k))] [.obj (.box [.pv (.str []),.pv (.sl 0 true []),.pv (.sl 0 true [])])]:=by
 intro m
 induction m with
 | zero=>
  intro k g hr
  refine a1q e d x k ?_
  rw[if_neg (by simp;omega)]
  rw[List.drop_of_length_le (by omega)]at hr
  subst hr
  refine⟨Zc (d,()) rfl (by simpa using hd),?_⟩
  refine Zb (d,()) rfl ?_
  refine⟨Zc (x,()) rfl (by simpa using b),?_⟩
  refine Zb (x,()) rfl ?_
  exact⟨by simp,by simp⟩
 | succ m ih=>
  intro k g hr
  have a:k<x.length:=by omega
  refine a1q e d x k ?_
  rw[if_pos (by simp;omega)]
  refine⟨by simp[Enc.sz];omega,x[k],by rw[Wl _ a],?_⟩
  refine Zb (⟨e⟩,x[k],()) rfl ?_
  rw[List.drop_eq_getElem_cons a,List.all_cons]at hr
  simp only[]
  cases h:X6 ⟨e⟩ x[k]with
  | true=>
   rw[if_neg (by simp),next (by omega)]
   rw[h,Bool.true_and]at hr
   exact ih (k+1) (by omega) hr
  | false=>
   rw[if_pos (by decide)]
   rw[h,Bool.false_and,if_neg (by simp)]at hr
   subst hr
   exact⟨by simp,by simp⟩
theorem b9g: ∀ a:Str×List Int×List Int×Unit,(decide (a.2.1.length<=2000000)&&decide (a.2.2.1.length<=2000000))=true->Zd QT 0 (Za UQ (Zf (JG a.1 a.2.1 a.2.2.1))) UR [] (Zx a0l (encL a)):=by
 rintro⟨⟨e⟩,d,x,⟨⟩⟩ hp
 simp only[Bool.and_eq_true,decide_eq_true_eq]at hp
 refine d9r e d x ?_
 have h:=hp.1
 have i:=hp.2
 have j:=fun(b : ¬ (e≠Xb∧e≠YM)) (h1 : ¬ (Y4 d).2≠0) (h2 : ¬ (x.length:Int)≠(Y4 d).1)=>a8m e d x h i (JG ⟨e⟩ d x) x.length 0 (by omega) (by simp only[JG,b,h1,h2,if_false,List.drop_zero])
 simp only[preT,Zi,a3i,b5o,MK,a0x,e9r,Ru,d8q,b6y,c5u,Si,List.isEmpty_iff,Bool.and_true,beq_self_eq_true,Bool.or_true,Bool.true_and,decide_eq_true_eq,AV.pv.injEq,d3m,exists_eq_left',true_and,Enc.sz,List.length_map,Bool.not_eq_true',beq_eq_false_iff_ne,bne_iff_ne]
 have g:(if ¬ (Y4 d).2=0 then Zf (JG ⟨e⟩ d x) ((.tup [(.agg [(.str []),(.sl 0 true []),(.sl 0 true [])]),(.int .i64 (Y4 d).2)]))else if ¬ (x.length:Int)=(Y4 d).1 then Zf (JG ⟨e⟩ d x) ((.tup [(.agg [(.str []),(.sl 0 true []),(.sl 0 true [])]),(.int .i64 1)]))else At QT 0 (Za UQ (Zf (JG ⟨e⟩ d x))) UR 0 52 [(0,(.pv (.str e))),(1,(.pv (.sl 1 false (List.map enc d)))),(2,(.pv (.sl 1 false (List.map enc x)))),(6,(.ptr 0 0)),(10,(.pv (.int .i64 0)))] [(.obj (.box [(.pv (.str [])),(.pv (.sl 0 true [])),(.pv (.sl 0 true []))]))])∨(e≠Xb∧e≠YM):=by
  by_cases b:e≠Xb∧e≠YM
  ·exact .inr b
  ·refine .inl ?_
   split
   ·rename_i h1
    exact⟨by simp,by simp[JG,b,h1]⟩
   ·rename_i h1
    split
    ·rename_i h2
     exact⟨by simp,by simp only[JG,ne_eq,h1,h2,not_false_eq_true,if_true,if_false];rw[if_neg b];simp⟩
    ·rename_i h2
     exact j b h1 h2
 by_cases h1:e=Xb
 ·rw[if_neg (by simp[h1,Xb])]
  exact g.resolve_right (by simp[h1])
 ·rw[if_pos (by simpa [Xb]using h1)]
  by_cases h2:e=YM
  ·rw[if_neg (by simp[h2,YM])]
   exact g.resolve_right (by simp[h2])
  ·rw[if_pos (by simpa [YM]using h2)]
   exact⟨by simp,by simp[JG,h1,h2]⟩
theorem d3w: ∀ a:Arr×Unit,VF a.1=true->Zd c9v 0 (Za b2z (Zf (WF a.1))) b7i [] (Zx e1o (encL a)):=by
 rintro⟨a,⟨⟩⟩ hp
 refine f4z a ⟨Zc (a.e,a.d,a.x,()) rfl hp,Zb (a.e,a.d,a.x,()) rfl ?_⟩
 exact⟨rfl,rfl⟩
theorem b3q(m:Nat):IntKind.wrap .u8 (IntKind.wrap .i64 (48+Int.tmod (m:Int) 10))=((48+m % 10:Nat):Int):=by
 have a:Int.tmod (m:Int) 10=((m % 10:Nat):Int):=by rw[Int.tmod_eq_emod_of_nonneg (by omega)];omega
 rw[a,WG (by omega) (by omega)]
 simp[IntKind.wrap,IntKind.bits,IntKind.signed]
 omega
theorem d0p(m:Nat):(List.length [PV.int IntKind.u8 (IntKind.wrap .u8 (IntKind.wrap .i64 (48+Int.tmod (m:Int) 10)))]==1&&List.all [PV.int IntKind.u8 (IntKind.wrap .u8 (IntKind.wrap .i64 (48+Int.tmod (m:Int) 10)))] Dv&&1==1)=true:=by
 rw[b3q]
 simp only[List.length_cons,List.length_nil,List.all_cons,List.all_nil,Dv,Bool.and_true,beq_self_eq_true,Bool.true_and,Bool.and_eq_true,decide_eq_true_eq,Nat.zero_add]
 omega
theorem d9e(m:Nat):Y2 (List.drop 0 (List.take 1 [PV.int IntKind.u8 (IntKind.wrap .u8 (IntKind.wrap .i64 (48+Int.tmod (m:Int) 10)))]))=[UInt8.ofNat (48+m % 10)]:=by
 rw[b3q];rfl
theorem b0f(m:Nat):Int.tdiv (m:Int) 10=((m / 10:Nat):Int):=by rw[Int.tdiv_eq_ediv_of_nonneg (by omega)];omega
theorem a6d{N:Nat}{k:Int}(h1:k.natAbs<9223372036854775808)(h2:Aa k<N):preT (fun x:Int×Unit=>decide (x.1.natAbs<9223372036854775808)&&decide (Aa x.1<N)) [.int .i64 k]=true:=
 Zc (k,()) rfl (by show(decide (k.natAbs<9223372036854775808)&&decide (Aa k<N))=true;rw[decide_eq_true h1,decide_eq_true h2];rfl)
theorem Ta{k:Int}(h1:k.natAbs<9223372036854775808):preT (fun x:Int×Unit=>decide (x.1.natAbs<9223372036854775808)) [.int .i64 k]=true:=
 Zc (k,()) rfl (decide_eq_true h1)
theorem c4u{n:Int}(hn:n<0):[(45:UInt8)]++(Zp (-n)).s=(Zp n).s:=by
 rw[YG (n:= -n) (by omega),Vj hn,Int.natAbs_neg];rfl
theorem Dh{k:Int}(h:k.natAbs<9223372036854775808):(Zp k).s.length<=21:=Qy (n:=k) (by omega)
theorem d8p(N:Nat): ∀ a:Int×Unit,(decide (a.1.natAbs<9223372036854775808)&&decide (Aa a.1<N+1))=true->Zd (c8m N) 0 (Za b5w (Zf (Zp a.1))) b4i [] (Zx e2r (encL a)):=by
 rintro⟨n,⟨⟩⟩ h
 simp only[Bool.and_eq_true,decide_eq_true_eq]at h
 obtain⟨h1,h3⟩:=h
 unfold Aa at h3
 refine f3a N n (ZU (fun hn=> ?_) fun hn=> ?_)
 ·rw[WG (by omega) (by omega)]
  have hl:=Dh (k:= -n) (by omega)
  refine⟨a6d (by omega) (by unfold Aa;rw[if_pos hn]at h3;rw[if_neg (by omega)];omega),Zb (-n,()) rfl ⟨decide_eq_true (by simp only[List.length_singleton];omega),?_⟩⟩
  refine Zh (x:=(⟨[(45:UInt8)]++(Zp (-n)).s⟩:Str)) ?_
  show(⟨[(45:UInt8)]++(Zp (-n)).s⟩:Str)=⟨(Zp n).s⟩
  rw[c4u hn]
 ·obtain⟨m,rfl⟩ : ∃ m:Nat,n=m:=⟨n.toNat,by omega⟩
  rw[if_neg (by omega)]at h3
  refine⟨d0p m,?_⟩
  rw[d9e,b0f,WG (by omega) (by omega)]
  refine ZU (fun b=> ?_) fun b=> ?_
  ·have hm:m<10:=by omega
   refine Zh (x:=(⟨[UInt8.ofNat (48+m % 10)]⟩:Str)) ?_
   show(⟨[UInt8.ofNat (48+m % 10)]⟩:Str)=⟨(Zp (m:Int)).s⟩
   rw[YG (by omega),Int.natAbs_natCast,XF hm,Nat.mod_eq_of_lt hm]
  ·have l1:=Dh (k:=((m / 10:Nat):Int)) (by omega)
   refine⟨a6d (by omega) (by unfold Aa;rw[if_neg (by omega)];omega),Zb (((m / 10:Nat):Int),()) rfl ⟨decide_eq_true (by show(Zp ((m / 10:Nat):Int)).s.length+1<=_;omega),?_⟩⟩
   refine Zh (x:=(⟨(Zp ((m / 10:Nat):Int)).s++[UInt8.ofNat (48+m % 10)]⟩:Str)) ?_
   show(⟨(Zp ((m / 10:Nat):Int)).s++[UInt8.ofNat (48+m % 10)]⟩:Str)=⟨(Zp (m:Int)).s⟩
   rw[YG (by omega),YG (by omega),Int.natAbs_natCast,Int.natAbs_natCast,D9 (u:=m) (by omega)]
theorem c0s(N:Nat)(k:Int)(R:Str): ∀ (d m:Nat) (o:List UInt8),m<10 ^ d->m<=9223372036854775807->o.length+d<=100->R=⟨(if m=0 then []else Lib.decDigits m)++o⟩ ->
  At (AQ N) 0 (Za Hz (Zf R)) Gq 0 31 [(0,.pv (.int .i64 (m:Nat))),(3,.pv (.str o))] []:=by
 intro d
 induction d with
 | zero=>
  intro m o hm hb ho b
  have hm:m=0:=by simpa using hm
  subst hm
  refine b3v N k _ o (ZV (by simp) ?_)
  refine Zh (x:=(⟨o⟩:Str)) ?_
  rw[b];rfl
 | succ d ih=>
  intro m o hm hb ho b
  refine b3v N k _ o (ZU (fun h=> ?_) fun h=> ?_)
  ·have a:m≠0:=by omega
   refine⟨d0p m,?_⟩
   rw[d9e,b0f]
   refine⟨decide_eq_true (by show 1+o.length<=_;omega),?_⟩
   have k:=ih (m / 10) ([UInt8.ofNat (48+m % 10)]++o) (by rw[Nat.pow_succ]at hm;omega) (by omega) (by rw[List.length_append];show 1+_+_<=_;omega) (by
    rw[b,if_neg a,<- List.append_assoc]
    congr 2
    by_cases h10:m<10
    ·rw[if_pos (by omega),XF h10,Nat.mod_eq_of_lt h10];rfl
    ·rw[if_neg (by omega),D9 h10])
   rw[WG (by omega) (by omega)]
   exact k
  ·have a:m=0:=by omega
   refine Zh (x:=(⟨o⟩:Str)) ?_
   rw[b,if_pos a];rfl
theorem d6p(N:Nat): ∀ a:Int×Unit,(decide (a.1.natAbs<9223372036854775808)&&decide (Aa a.1<N+1))=true->Zd (AQ N) 0 (Za Hz (Zf (Zp a.1))) Gq [] (Zx e1v (encL a)):=by
 rintro⟨n,⟨⟩⟩ h
 simp only[Bool.and_eq_true,decide_eq_true_eq]at h
 obtain⟨h1,h3⟩:=h
 unfold Aa at h3
 refine f7y N n (ZU (fun hn=> ?_) fun hn=> ?_)
 ·rw[WG (by omega) (by omega)]
  have hl:=Dh (k:= -n) (by omega)
  refine⟨a6d (by omega) (by unfold Aa;rw[if_pos hn]at h3;rw[if_neg (by omega)];omega),Zb (-n,()) rfl ⟨decide_eq_true (by simp only[List.length_singleton];omega),?_⟩⟩
  refine Zh (x:=(⟨[(45:UInt8)]++(Zp (-n)).s⟩:Str)) ?_
  show(⟨[(45:UInt8)]++(Zp (-n)).s⟩:Str)=⟨(Zp n).s⟩
  rw[c4u hn]
 ·obtain⟨m,rfl⟩ : ∃ m:Nat,n=m:=⟨n.toNat,by omega⟩
  refine⟨d0p m,?_⟩
  rw[d9e,b0f,WG (by omega) (by omega)]
  refine c0s N (m:Int) _ 20 (m / 10) _ (by omega) (by omega) (by show 1+20<=100;omega) ?_
  show(⟨(Zp (m:Int)).s⟩:Str)=_
  rw[YG (by omega),Int.natAbs_natCast]
  congr 1
  by_cases h10:m<10
  ·rw[if_pos (by omega),XF h10,Nat.mod_eq_of_lt h10];rfl
  ·rw[if_neg (by omega),D9 h10]
theorem e0w(a:Arr)(G:PV->Prop)(g : ∀ n∈a.x,n.natAbs<9223372036854775808)(hl:a.x.length<=2000000): ∀ (d i:Nat) (o:List UInt8),d+i=a.x.length->o.length<=100000000+22*i ->
  G (.tup [.str (Yp o true (a.x.drop i)++[93]),.int .i64 0]) ->
  At Ue 0 (Za WT G) WW 1 52 [(1,.ptr 0 0),(4,.pv (.str o)),(6,.pv (.int .i64 i))] [.obj (.box [.pv (.str a.e.s),.pv (enc a.d),.pv (enc a.x)])]:=by
 intro d
 induction d with
 | zero=>
  intro i o hi ho h
  rw[List.drop_eq_nil_of_le (by omega)]at h
  exact b2l a o i (ZV (X7 (by omega)) ⟨decide_eq_true (by show o.length+1<=_;omega),h⟩)
 | succ d ih=>
  intro i o hi ho h
  have b:i<a.x.length:=by omega
  have hn:=g _ (List.getElem_mem b)
  have hnl:=Tv true (i:=a.x[i]) (by omega)
  have hil:=Dh (k:=a.x[i]) hn
  rw[List.drop_eq_getElem_cons b]at h
  have k:=ih (i+1) (o++Ur true a.x[i]) (by omega) (by rw[List.length_append];omega) h
  refine b2l a o i (ZN (XY b) ⟨Zt b rfl,ZK b ⟨Ta hn,Zb (a.x[i],()) rfl ⟨decide_eq_true (by show 1+(Zp a.x[i]).s.length<=_;omega),decide_eq_true (by show o.length+([32]++(Zp a.x[i]).s).length<=_;rw[List.length_append];show o.length+(1+_)<=_;omega),?_⟩⟩⟩)
  rw[next (by omega)]
  exact k
theorem e4m(a:Arr)(G:PV->Prop)(hd : ∀ n∈a.d,n.natAbs<9223372036854775808)(hl:a.d.length<=2000000)
  (g : ∀ o:List UInt8,o.length<=44000010->G (.tup [.str (Yp (o++[58]) true a.x++[93]),.int .i64 0])->At Ue 0 (Za WT G) WW 1 52 [(1,.ptr 0 0),(4,.pv (.str (o++[58]))),(6,.pv (.int .i64 (0:Nat)))] [.obj (.box [.pv (.str a.e.s),.pv (enc a.d),.pv (enc a.x)])]) : ∀ (d i:Nat) (o:List UInt8),d+i=a.d.length->o.length<=10+22*i ->
  G (.tup [.str (Yp (Yp o (decide (0<i)) (a.d.drop i)++[58]) true a.x++[93]),.int .i64 0]) ->
  At Ue 0 (Za WT G) WW 0 52 [(1,.ptr 0 0),(4,.pv (.str o)),(5,.pv (.int .i64 i))] [.obj (.box [.pv (.str a.e.s),.pv (enc a.d),.pv (enc a.x)])]:=by
 intro d
 induction d with
 | zero=>
  intro i o hi ho h
  rw[List.drop_eq_nil_of_le (by omega)]at h
  exact b3y a o i (ZV (X7 (by omega)) ⟨decide_eq_true (by show o.length+1<=_;omega),g o (by omega) h⟩)
 | succ d ih=>
  intro i o hi ho h
  have b:i<a.d.length:=by omega
  have hn:=hd _ (List.getElem_mem b)
  have hnl:=Tv (decide (0<i)) (i:=a.d[i]) (by omega)
  have hil:=Dh (k:=a.d[i]) hn
  rw[List.drop_eq_getElem_cons b]at h
  have k:=ih (i+1) (o++Ur (decide (0<i)) a.d[i]) (by omega) (by rw[List.length_append];omega) (by rw[decide_eq_true (show 0<i+1 by omega)];exact h)
  refine b3y a o i (ZN (XY b) (ZU (fun j=> ?_) fun j=> ?_))
  ·rw[decide_eq_true (show 0<i by omega)]at k
   refine⟨decide_eq_true (by show o.length+1<=_;omega),Zt b rfl,ZK b ⟨Ta hn,Zb (a.d[i],()) rfl ⟨decide_eq_true (by rw[List.length_append];show o.length+1+(Zp a.d[i]).s.length<=_;omega),?_⟩⟩⟩
   rw[next (by omega),List.append_assoc]
   exact k
  ·rw[decide_eq_false (show ¬ 0<i by omega)]at k
   refine⟨Zt b rfl,ZK b ⟨Ta hn,Zb (a.d[i],()) rfl ⟨decide_eq_true (by show o.length+(Zp a.d[i]).s.length<=_;omega),?_⟩⟩⟩
   rw[next (by omega)]
   exact k
theorem d6d: ∀ x:Arr×Unit,(VF x.1&&WF x.1)=true->Zd Ue 0 (Za WT (Zf (JO x.1))) WW [] (Zx e2u (encL x)):=by
 rintro⟨a,⟨⟩⟩ h
 rw[Bool.and_eq_true]at h
 have hs:VF a=true:=h.1
 have i:WF a=true:=h.2
 have b:=hs
 unfold VF at b
 simp only[Bool.and_eq_true,decide_eq_true_eq]at b
 obtain⟨hd,j⟩:=LW i
 have fin : ∀ o:List UInt8,(o=if a.e.s=YM then [35,98,91]else [35,91])->Zf (JO a) (.tup [.str (Yp (Yp o (decide (0<0)) (a.d.drop 0)++[58]) true a.x++[93]),.int .i64 0]):=fun o ho=>by
  have e:Yp (Yp o (decide (0<0)) (a.d.drop 0)++[58]) true a.x++[93]=BO a:=by
   rw[List.drop_zero,show decide (0<0)=false from rfl,AU,Rz,ho]
   rfl
  rw[e]
  exact Zh (x:=((⟨BO a⟩,0):Str×Int)) rfl
 have g : ∀ o:List UInt8,o.length<=10->Zf (JO a) (.tup [.str (Yp (Yp o (decide (0<0)) (a.d.drop 0)++[58]) true a.x++[93]),.int .i64 0])->_:=fun o ho k=>
  e4m a (Zf (JO a)) hd b.1 (fun o ho k=>e0w a (Zf (JO a)) j b.2 a.x.length 0 (o++[58]) (by omega) (by rw[List.length_append];show _+1<=_;omega) k) a.d.length 0 o (by omega) (by omega) k
 refine f3e a ⟨Zc (a,()) rfl hs,Zb (a,()) rfl (Y8 (fun hn=> ?_) fun hn=>Zy (fun hb=> ?_) fun hb=> ?_)⟩
 ·have hn:WF a=false:=hn
  rw[i]at hn;cases hn
 ·exact g [35,98,91] (by decide) (fin _ (by rw[if_pos (show a.e.s=YM from hb)]))
 ·exact g [35,91] (by decide) (fin _ (by rw[if_neg (show ¬ a.e.s=YM from hb)]))
def Bv(o:List UInt8):Bool->List (List UInt8)->List UInt8
 | _,[]=>o
 | b,s::r=>Bv (o++(if b then []else [44,32])++s) false r
theorem TN: ∀ (l:List (List UInt8)) (o:List UInt8),Bv o true l=o++Zv l
 | [],o=>by simp[Bv,Zv]
 | [s],o=>by simp[Bv,Zv]
 | s::t::r,o=>by
  have h:=TN (t::r) (o++s++[44,32])
  rw[Bv]at h ⊢
  rw[Bv,Zv]
  ·simp only[Bool.false_eq_true,if_true,if_false,List.append_nil]at h ⊢
   rw[h]
   simp only[List.append_assoc]
  ·simp
def c3m(l:List (List UInt8)):Nat:=(l.map fun s=>s.length+2).sum
theorem b9r(s:List UInt8)(l:List (List UInt8)):c3m (s::l)=s.length+2+c3m l:=by unfold c3m;rw[List.map_cons,List.sum_cons]
theorem O8{N:Nat}{a:Tm}{P:Str->Prop}(h1:tW a=true∧Z9 a=true∧Z4 a<N)(h:P (Zr a)):preT (fun x:Tm×Unit=>tW x.1&&Z9 x.1&&decide (Z4 x.1<N)) (Kk a)=true∧ ∃ y:Str,AV.pv (Zi (fun x:Tm×Unit=>Zr x.1) (Kk a))=AV.pv (enc y)∧P y:=
 ⟨Zc (a,()) (Yb a) (Vl h1.1 h1.2.1 h1.2.2),Zb (a,()) (Yb a) h⟩
theorem Qu{N:Nat}{a:Tm}{b:Bool}{P:Str->Prop}(h1:tW a=true∧Z9 a=true∧Z4 a<N)(h:P (Au b a)):preT (fun x:Tm×Bool×Unit=>tW x.1&&Z9 x.1&&decide (Z4 x.1<N)) (P6 a b)=true∧ ∃ y:Str,AV.pv (Zi (fun x:Tm×Bool×Unit=>Au x.2.1 x.1) (P6 a b))=AV.pv (enc y)∧P y:=
 ⟨Zc (a,b,()) (d1i a b) (Vl h1.1 h1.2.1 h1.2.2),Zb (a,b,()) (d1i a b) h⟩
theorem Bu{a:Tm}{P:Int->Prop}(h1:tW a=true)(h:P (Wh a)):preT (fun x:Tm×Unit=>tW x.1) (Kk a)=true∧ ∃ y:Int,AV.pv (Zi (fun x:Tm×Unit=>Wh x.1) (Kk a))=AV.pv (enc y)∧P y:=
 ⟨Zc (a,()) (Yb a) h1,Zb (a,()) (Yb a) h⟩
theorem Rw{n:Int}{P:Str->Prop}(h1:n.natAbs<9223372036854775808)(h:P (Zp n)):preT (fun x:Int×Unit=>decide (x.1.natAbs<9223372036854775808)) [.int .i64 n]=true∧ ∃ y:Str,AV.pv (Zi (fun x:Int×Unit=>Zp x.1) [.int .i64 n])=AV.pv (enc y)∧P y:=
 ⟨Ta h1,Zb (n,()) rfl h⟩
theorem Tw{N:Nat}{ks:List Tm}{P:Str->Prop}(a:TxP N ks)(h:P (Yh (ks.map Zr))):preT (fun x:List Tm×Unit=>tsW x.1&&Wo x.1&&decide (Yc x.1<N)) [.sl 10 false (ks.map enc)]=true∧ ∃ y:Str,AV.pv (Zi (fun x:List Tm×Unit=>Yh (x.1.map Zr)) [.sl 10 false (ks.map enc)])=AV.pv (enc y)∧P y:=
 ⟨Zc (ks,()) rfl a.pre,Zb (ks,()) rfl h⟩
theorem d3c{s t:List UInt8}(h:s=t):Zf (⟨t⟩:Str) (.str s):=Zh (x:=(⟨s⟩:Str)) (by rw[h])
theorem b0q(N:Nat)(l:List Tm)(g:TxP N l)(R:Str): ∀ (d i:Nat) (o:List UInt8),d+i=l.length->o.length+c3m ((l.drop i).map ZM)<=1099511627000->R=⟨Bv o (decide (i=0)) ((l.drop i).map ZM)⟩ ->
  At (KY N) 0 (Za QI (Zf R)) QK 0 23 [(0,.pv (enc l)),(3,.pv (.str o)),(4,.pv (.int .i64 i))] []:=by
 have hlen:l.length<=1048576:=Nat.le_trans (Bf l) g.w
 intro d
 induction d with
 | zero=>
  intro i o hi ho b
  rw[List.drop_eq_nil_of_le (by omega)]at b
  rw[b]
  exact a3e N l o i (ZV (X7 (by omega)) (d3c rfl))
 | succ d ih=>
  intro i o hi ho b
  have a:i<l.length:=by omega
  have e:=g.kid (List.getElem_mem a)
  rw[List.drop_eq_getElem_cons a,List.map_cons,b9r]at ho
  rw[List.drop_eq_getElem_cons a,List.map_cons,Bv]at b
  have k:=fun o'=>ih (i+1) o' (by omega)
  rw[decide_eq_false (show ¬ i+1=0 by omega)]at k
  refine a3e N l o i (ZN (XY a) (ZU (fun h=>⟨Zj (by show o.length+2<=_;omega),Zt a rfl,ZK a ⟨Xy _,O8 e ⟨Zj (by rw[List.length_append];show o.length+2+(ZM l[i]).length<=_;omega),?_⟩⟩⟩) fun h=>⟨Zt a rfl,ZK a ⟨Xy _,O8 e ⟨Zj (by show o.length+(ZM l[i]).length<=_;omega),?_⟩⟩⟩))
  ·rw[next (by omega)]
   rw[decide_eq_false (show ¬ i=0 by omega)]at b
   exact k _ (by rw[List.length_append,List.length_append];show o.length+2+(ZM l[i]).length+_<=_;omega) b
  ·rw[next (by omega)]
   rw[decide_eq_true (show i=0 by omega)]at b
   exact k _ (by rw[List.length_append];show o.length+(ZM l[i]).length+_<=_;omega) (by rw[b,if_pos rfl,List.append_nil];rfl)
theorem TxP.sum{N:Nat}{ks:List Tm}(h:TxP N ks):c3m (ks.map ZM)<=1153433600:=by
 have h2:=Gh ks (by rw[Uk];exact List.all_eq_true.2 h.v)
 have h3:((ks.map ZM).map fun s=>s.length+2).sum<=((Yv ks).map fun x=>x.2.2.length+4).sum:=by
  rw[WH,D6,D6]
  exact CW fun x _=>by show(ZM x).length+2<=(ZM x).length+4;omega
 have:=h.w
 unfold c3m
 omega
theorem b9p(N:Nat): ∀ x:List Tm×Unit,((tsW x.1&&Wo x.1)&&decide (Yc x.1<N))=true->Zd (KY N) 0 (Za QI (Zf (Yh (x.1.map Zr)))) QK [] (Zx d3k (encL x)):=by
 rintro⟨l,⟨⟩⟩ h
 simp only[Bool.and_eq_true,decide_eq_true_eq,Uk,List.all_eq_true]at h
 have a:TxP N l:=⟨of_decide_eq_true h.1.1,h.1.2,h.2⟩
 have:=a.sum
 refine e4x N l (b0q N l a _ l.length 0 [] (by omega) (by rw[List.drop_zero];show 0+_<=_;omega) ?_)
 rw[List.drop_zero,show decide (0=0)=true from rfl,TN,List.nil_append,<- VT]
theorem a0s(l:List Lin)(hl:l.length<=1048576)(g : ∀ x∈l,Zg x=true)(R:Str): ∀ (d i:Nat) (o:List UInt8),d+i=l.length->o.length+1002*d<=1099511627000->R=⟨Bv o (decide (i=0)) ((l.drop i).map ZC)⟩ ->
  At Qn 0 (Za Uj (Zf R)) Uo 0 23 [(0,.pv (enc l)),(3,.pv (.str o)),(4,.pv (.int .i64 i))] []:=by
 intro d
 induction d with
 | zero=>
  intro i o hi ho b
  rw[List.drop_eq_nil_of_le (by omega)]at b
  rw[b]
  exact N9 l o i (ZV (X7 (by omega)) (d3c rfl))
 | succ d ih=>
  intro i o hi ho b
  have a:i<l.length:=by omega
  have e:=Ui (g _ (List.getElem_mem a))
  have hpl:=Wv l[i]
  rw[List.drop_eq_getElem_cons a,List.map_cons,Bv]at b
  have k:=fun o'=>ih (i+1) o' (by omega)
  rw[decide_eq_false (show ¬ i+1=0 by omega)]at k
  refine N9 l o i (ZN (XY a) (ZU (fun h=>⟨Zj (by show o.length+2<=_;omega),Zt a rfl,ZK a ⟨Zc (l[i],()) rfl e,Zb (l[i],()) rfl ⟨Zj (by rw[List.length_append];show o.length+2+(ZC l[i]).length<=_;omega),?_⟩⟩⟩) fun h=>⟨Zt a rfl,ZK a ⟨Zc (l[i],()) rfl e,Zb (l[i],()) rfl ⟨Zj (by show o.length+(ZC l[i]).length<=_;omega),?_⟩⟩⟩))
  ·rw[next (by omega)]
   rw[decide_eq_false (show ¬ i=0 by omega)]at b
   exact k _ (by rw[List.length_append,List.length_append];show o.length+2+(ZC l[i]).length+_<=_;omega) b
  ·rw[next (by omega)]
   rw[decide_eq_true (show i=0 by omega)]at b
   exact k _ (by rw[List.length_append];show o.length+(ZC l[i]).length+_<=_;omega) (by rw[b,if_pos rfl,List.append_nil])
theorem a9j: ∀ x:List Lin×Unit,(decide (x.1.length<=1048576)&&x.1.all Zg)=true->Zd Qn 0 (Za Uj (Zf (Yh (x.1.map Yr)))) Uo [] (Zx c1s (encL x)):=by
 rintro⟨l,⟨⟩⟩ h
 simp only[Bool.and_eq_true,decide_eq_true_eq,List.all_eq_true]at h
 refine d6f l (a0s l h.1 h.2 _ l.length 0 [] (by omega) (by show 0+_<=_;omega) ?_)
 rw[List.drop_zero,show decide (0=0)=true from rfl,TN,List.nil_append,<- KG]
def rkO(o:List UInt8):Bool->List Int->List UInt8
 | _,[]=>o
 | b,n::r=>rkO (o++(if b then [64,40]else [44,32])++Ka n++(if r.isEmpty then [41]else [])) false r
theorem J4(s t:List UInt8)(r:List (List UInt8)):Zv (s::t::r)=s++[44,32]++Zv (t::r):=rfl
theorem e9w: ∀ (l:List Int) (o:List UInt8),l≠[]->rkO o false l=o++[44,32]++Zv (l.map Ka)++[41]
 | [],_,h=>absurd rfl h
 | [n],o,_=>by simp[rkO,Zv]
 | n::m::r,o,_=>by
  rw[rkO,e9w (m::r) _ (by simp)]
  simp only[List.map_cons,List.isEmpty_cons,Bool.false_eq_true,if_false,List.append_nil,J4,List.append_assoc]
theorem f4s(l:List Int)(o:List UInt8):rkO o true l=o++(if l=[]then []else [64,40]++Zv (l.map Ka)++[41]):=by
 cases l with
 | nil=>simp[rkO]
 | cons n r=>
  rw[rkO,if_neg (List.cons_ne_nil n r)]
  cases r with
  | nil=>simp[rkO,Zv]
  | cons m r=>
   rw[e9w _ _ (by simp)]
   simp only[List.map_cons,List.isEmpty_cons,Bool.false_eq_true,if_false,if_true,List.append_nil,J4,List.append_assoc]
theorem a7t(N:Nat)(n:Nd)(ks:List Tm)(g:TxP N ks)(hr:n.ranks.length<=8)(m:X8 n.ranks=true)(R:Str): ∀ (d i:Nat) (o:List UInt8),d+i=n.ranks.length->o.length+30*d<=1000000->R=⟨rkO o (decide (i=0)) (n.ranks.drop i)++[40]++Zv (ks.map ZM)++[41]⟩ ->
  At (WB N) 0 (Za XM (Zf R)) X4 0 64 [(1,.ptr 0 0),(3,.pv (.str o)),(4,.pv (.int .i64 i))] [.obj (.box (ZX n ks))]:=by
 intro d
 induction d with
 | zero=>
  intro i o hi ho b
  rw[List.drop_eq_nil_of_le (by omega)]at b
  have hc:=g.com
  have h:=VT ks
  rw[<- h]at hc
  rw[b,<- h]
  refine a5w N n ks o i (ZV (X7 (by omega)) ⟨Zj (by show o.length+1<=_;omega),Tw g ⟨Zj (by rw[List.length_append];show o.length+1+_<=_;omega),Zj (by rw[List.length_append,List.length_append];show o.length+1+_+1<=_;omega),d3c rfl⟩⟩)
 | succ d ih=>
  intro i o hi ho b
  have a:i<n.ranks.length:=by omega
  have q:=List.all_eq_true.1 m _ (List.getElem_mem a)
  simp only[Bool.and_eq_true,decide_eq_true_eq]at q
  have e:n.ranks[i].natAbs<9223372036854775808:=by omega
  have hil:(Zp n.ranks[i]).s.length<=21:=Dh e
  rw[List.drop_eq_getElem_cons a,rkO]at b
  have k:=fun o'=>ih (i+1) o' (by omega)
  rw[decide_eq_false (show ¬ i+1=0 by omega)]at k
  have r:IntKind.i64.wrap ((↑(List.length (List.map (enc:Int->PV) n.ranks)):Int) - 1)=((n.ranks.length - 1:Nat):Int):=by rw[List.length_map,WG (by omega) (by omega)];omega
  have l:(n.ranks.drop (i+1)).isEmpty=decide (i=n.ranks.length - 1):=by rw[VZ,List.length_drop];exact decide_eq_decide.2 (by omega)
  rw[l]at b
  refine a5w N n ks o i (ZN (XY a) ?_)
  rw[r]
  refine Zy (fun j=>⟨Zj (by show o.length+2<=_;omega),Zt a rfl,ZK a (Rw (n:=n.ranks[i]) e ⟨Zj (by rw[List.length_append];show o.length+2+_<=_;omega),Zy (fun h1=>⟨Zj (by rw[List.length_append,List.length_append];show o.length+2+_+1<=_;omega),?_⟩) fun h1=> ?_⟩)⟩) fun j=>⟨Zj (by show o.length+2<=_;omega),Zt a rfl,ZK a (Rw (n:=n.ranks[i]) e ⟨Zj (by rw[List.length_append];show o.length+2+_<=_;omega),Zy (fun h1=>⟨Zj (by rw[List.length_append,List.length_append];show o.length+2+_+1<=_;omega),?_⟩) fun h1=> ?_⟩)⟩
  ·rw[next (by omega)]
   rw[decide_eq_true (show i=0 by omega),decide_eq_true (show i=n.ranks.length - 1 by omega)]at b
   exact k _ (by rw[List.length_append,List.length_append,List.length_append];show o.length+2+_+1+_<=_;omega) b
  ·rw[next (by omega)]
   rw[decide_eq_true (show i=0 by omega),decide_eq_false (show ¬ i=n.ranks.length - 1 by omega)]at b
   exact k _ (by rw[List.length_append,List.length_append];show o.length+2+_+_<=_;omega) (by rw[b];simp only[Bool.false_eq_true,if_false,List.append_nil];rfl)
  ·rw[next (by omega)]
   rw[decide_eq_false (show ¬ i=0 by omega),decide_eq_true (show i=n.ranks.length - 1 by omega)]at b
   exact k _ (by rw[List.length_append,List.length_append,List.length_append];show o.length+2+_+1+_<=_;omega) b
  ·rw[next (by omega)]
   rw[decide_eq_false (show ¬ i=0 by omega),decide_eq_false (show ¬ i=n.ranks.length - 1 by omega)]at b
   exact k _ (by rw[List.length_append,List.length_append];show o.length+2+_+_<=_;omega) (by rw[b];simp only[Bool.false_eq_true,if_false,List.append_nil];rfl)
theorem b8h(N:Nat): ∀ x:Tm×Unit,(((tW x.1&&Z9 x.1)&&decide (x.1.nd.kind=6))&&decide (Yc x.1.ks<N))=true->Zd (WB N) 0 (Za XM (Zf (Q3 x.1))) X4 [] (Zx d5i (encL x)):=by
 rintro⟨⟨n,ks⟩,⟨⟩⟩ h
 simp only[Bool.and_eq_true,decide_eq_true_eq]at h
 obtain⟨⟨⟨j,e⟩,g⟩,hd⟩:=h
 have g:n.kind=6:=g
 have j:tW (.mk n ks)=true:=j
 have e:=Qw e
 have i:Vs ks<=1048576:=by have h1:KC (.mk n ks)<=1048576:=of_decide_eq_true j;rw[KC]at h1;omega
 have A:TxP N ks:=⟨i,e.2,hd⟩
 have hc:XJ n ks.length=true:=by
  have h1:=e.1
  unfold WC YJ at h1
  rw[g]at h1
  simp at h1
  exact h1.2.2
 obtain⟨c1,c2,c3,u,r,q⟩:=Pv hc
 have l0:(Yh (n.sizes.map Yr)).s.length<=4008:=by
  rw[KG]
  have h1:=YW (n.sizes.map ZC)
  rw[List.map_map]at h1
  have h2:=QB (f:=(fun s:List UInt8=>s.length+2) ∘ ZC) (c:=1002) (l:=n.sizes) fun x _=>by
   have:=Wv x
   show(ZC x).length+2<=_
   omega
  omega
 have l1:(Zp n.num).s.length<=21:=Dh (by omega)
 have k:=KG n.sizes
 rw[<- ZY]
 show Zd (WB N) 0 (Za XM (Zf (Q3 (.mk n ks)))) _ _ _
 have a : ∀ o:List UInt8,o.length<=10000->o=n.name.s++(if n.sizes=[]then []else [91]++Zv (n.sizes.map ZC)++[93])++(if n.num=0 then []else [123]++Ka n.num++[125]) ->
   At (WB N) 0 (Za XM (Zf (Q3 (.mk n ks)))) X4 0 64 [(1,.ptr 0 0),(3,.pv (.str o)),(4,.pv (.int .i64 ((0:Nat):Int)))] [.obj (.box (ZX n ks))]:=fun o ho z=>
  a7t N n ks A u q _ n.ranks.length 0 o (by omega) (by omega) (by
   rw[List.drop_zero,show decide (0=0)=true from rfl,f4s,z]
   show(⟨Ud n (ks.map ZM)⟩:Str)=_
   unfold Ud
   simp only[List.append_assoc])
 have m:(fun x:List Lin×Unit=>decide (x.1.length<=1048576)&&x.1.all Zg) (n.sizes,())=true:=by show(decide (n.sizes.length<=1048576)&&n.sizes.all Zg)=true;rw[decide_eq_true (by omega),r];rfl
 have b:n.num.natAbs<9223372036854775808:=by omega
 refine e6a N n ks (ZU (fun hs=> ?_) fun hs=> ?_)
 ·rw[VG]at hs
  refine⟨Zc (n.sizes,()) rfl m,Zb (n.sizes,()) rfl ⟨Zj (by show 1+(Yh (n.sizes.map Yr)).s.length<=_;omega),Zj (by rw[List.length_append];show 1+(Yh (n.sizes.map Yr)).s.length+1<=_;omega),Zj (by show n.name.s.length+([91]++(Yh (n.sizes.map Yr)).s++[93]).length<=_;rw[List.length_append,List.length_append];show _+(1+_+1)<=_;omega),Aj (fun hm=>Rw b ⟨Zj (by show 1+_<=_;omega),Zj (by rw[List.length_append];show 1+(Zp n.num).s.length+1<=_;omega),Zj (by show(n.name.s++([91]++(Yh (n.sizes.map Yr)).s++[93])).length+([123]++(Zp n.num).s++[125]).length<=_;rw[List.length_append,List.length_append,List.length_append,List.length_append,List.length_append];show _+(1+_+1)+(1+_+1)<=_;omega),?_⟩) fun hm=> ?_⟩⟩
  ·refine a _ ?_ ?_
   ·show(n.name.s++([91]++(Yh (n.sizes.map Yr)).s++[93])++([123]++(Zp n.num).s++[125])).length<=_
    rw[List.length_append,List.length_append,List.length_append,List.length_append,List.length_append,List.length_append];show _+(1+_+1)+(1+_+1)<=_;omega
   ·rw[if_neg hs,if_neg hm,<- k];rfl
  ·refine a _ ?_ ?_
   ·show(n.name.s++([91]++(Yh (n.sizes.map Yr)).s++[93])).length<=_
    rw[List.length_append,List.length_append,List.length_append];show _+(1+_+1)<=_;omega
   ·rw[if_neg hs,if_pos hm,<- k,List.append_nil]
 ·have hs:n.sizes=[]:=by
   cases hn:n.sizes with
   | nil=>rfl
   | cons x y=>exact absurd (by rw[hn];simp) hs
  refine Aj (fun hm=>Rw b ⟨Zj (by show 1+_<=_;omega),Zj (by rw[List.length_append];show 1+(Zp n.num).s.length+1<=_;omega),Zj (by show n.name.s.length+([123]++(Zp n.num).s++[125]).length<=_;rw[List.length_append,List.length_append];show _+(1+_+1)<=_;omega),?_⟩) fun hm=> ?_
  ·refine a _ ?_ ?_
   ·show(n.name.s++([123]++(Zp n.num).s++[125])).length<=_
    rw[List.length_append,List.length_append,List.length_append];show _+(1+_+1)<=_;omega
   ·rw[if_pos hs,if_neg hm,List.append_nil];rfl
  ·refine a _ (by omega) ?_
   rw[if_pos hs,if_pos hm,List.append_nil,List.append_nil]
theorem f3g{r:OpR}(h:r∈XN):Vb ⟨r.s⟩ r.u=⟨⟨r.n⟩,r.l,true⟩:=by
 simp only[XN,List.mem_cons,List.not_mem_nil,or_false]at h
 rcases h with rfl|rfl|rfl|rfl|rfl|rfl|rfl|rfl|rfl|rfl|rfl|rfl|rfl|rfl|rfl <;> rfl
theorem AP{n:Nd}{ks:List Tm}{r:OpR}(h:He n ks.length=some r):Cj (.mk n ks)=⟨⟨r.s⟩,r.l,r.u⟩:=by
 show(match He n ks.length with|none=>(⟨⟨[]⟩,0,false⟩:R3 Str Int Bool)|some r=>⟨⟨r.s⟩,r.l,r.u⟩)=_
 rw[h]
theorem Ar{n:Nd}{ks:List Tm}(h:He n ks.length=none):Cj (.mk n ks)=⟨⟨[]⟩,0,false⟩:=by
 show(match He n ks.length with|none=>(⟨⟨[]⟩,0,false⟩:R3 Str Int Bool)|some r=>⟨⟨r.s⟩,r.l,r.u⟩)=_
 rw[h]
theorem b9f: ∀ x:Tm×Unit,tW x.1=true->Zd LY 0 (Za Py (Zf (Cj x.1))) a3f [] (Zx c9c (encL x)):=by
 rintro⟨⟨n,ks⟩,⟨⟩⟩ h
 have C:=ndB h
 have q1:=C.sizes
 have q2:=C.ranks
 rw[<- ZY]
 show Zd LY 0 (Za Py (Zf (Cj (.mk n ks)))) _ _ _
 have j:He n ks.length=none->Zf (Cj (.mk n ks)) (.tup [.str [],.int .i64 0,.bool false]):=fun e=>Zh (x:=(⟨⟨[]⟩,0,false⟩:R3 Str Int Bool)) (Ar e).symm
 refine e5g n ks (Zb (n.name,()) rfl ?_)
 cases k:Cc n.name.s with
 | none=>
  have e:He n ks.length=none:=by unfold He;simp[k]
  rw[show Jn (n.name,()).1=⟨⟨[]⟩,false,false⟩from by show Jn n.name=_;unfold Jn;rw[k]]
  exact Aj (fun _=>j e) fun _=>ZN rfl (j e)
 | some r=>
  rw[show Jn (n.name,()).1=⟨⟨r.s⟩,r.u,true⟩from g0x k]
  have g : ¬ (n.kind=6∧ks.length=(if r.u then 1 else 2)∧n.sizes=[]∧n.num=0∧n.ranks=[])->He n ks.length=none:=fun h=>by unfold He;simp only[k];rw[if_neg h]
  have B:(n.kind=6∧ks.length=(if r.u then 1 else 2)∧n.sizes=[]∧n.num=0∧n.ranks=[])->He n ks.length=some r:=fun h=>by unfold He;simp only[k];rw[if_pos h]
  have hm:r∈XN:=List.mem_of_find?_eq_some k
  have D:=f3g hm
  simp only[List.length_map,Rb (show n.sizes.length+n.ranks.length<=4611686018427387904 by omega)]
  refine Aj (fun m=>j (g fun x=>m x.1)) fun m=>ZV (by simp) (ZU (fun hs=>j (g fun x=> ?_)) fun hs=>Aj (fun hm=>j (g fun x=>hm x.2.2.2.1)) fun hm=> ?_)
  ·rw[x.2.2.1,x.2.2.2.2]at hs
   simp at hs
  ·have A:n.sizes=[]:=List.length_eq_zero_iff.1 (by omega)
   have q:n.ranks=[]:=List.length_eq_zero_iff.1 (by omega)
   have fin:ks.length=(if r.u then 1 else 2)-> ∃ y:R3 Str Int Bool,AV.pv (Zi (fun x:Str×Bool×Unit=>Vb x.1 x.2.1) [.str (Str.s (R3.a (⟨⟨r.s⟩,r.u,true⟩:R3 Str Bool Bool))),.bool (R3.b (⟨⟨r.s⟩,r.u,true⟩:R3 Str Bool Bool))])=AV.pv (enc y)∧Zf (Cj (.mk n ks)) (.tup [.str (Str.s (R3.a (⟨⟨r.s⟩,r.u,true⟩:R3 Str Bool Bool))),.int .i64 (R3.b y),.bool (R3.b (⟨⟨r.s⟩,r.u,true⟩:R3 Str Bool Bool))]):=fun F=>
    Zb (⟨r.s⟩,r.u,()) rfl (by
     rw[show Vb ((⟨r.s⟩,r.u,()):Str×Bool×Unit).1 ((⟨r.s⟩,r.u,()):Str×Bool×Unit).2.1=⟨⟨r.n⟩,r.l,true⟩from D]
     exact Zh (x:=(⟨⟨r.s⟩,r.l,r.u⟩:R3 Str Int Bool)) (AP (B ⟨m,F,A,hm,q⟩)).symm)
   refine Aj (fun E=>YX (fun hu=>j (g fun x=> ?_)) fun hu=>Aj (fun z=>Y8 (fun i=>j (g fun x=> ?_)) fun i=> ?_) fun z=>fin ?_) fun E=>Aj (fun z=>Y8 (fun hu=>j (g fun x=> ?_)) fun hu=>fin ?_) fun z=> ?_
   ·have hu:r.u=true:=hu
    have:=x.2.1
    rw[hu,if_pos rfl]at this
    omega
   ·have hu:r.u=false:=hu
    have:=x.2.1
    rw[hu,if_neg (by decide)]at this
    omega
   ·have hu:r.u=false:=hu
    have i:r.u=true:=i
    rw[hu]at i;cases i
   ·have hu:r.u=false:=hu
    rw[hu,if_neg (by decide)];omega
   ·have hu:r.u=false:=hu
    have:=x.2.1
    rw[hu,if_neg (by decide)]at this
    omega
   ·have hu:r.u=true:=hu
    rw[hu,if_pos rfl];omega
   ·omega
theorem d3e: ∀ x:Tm×Unit,tW x.1=true->Zd a8u 0 (Za O4 (Zf (Wh x.1))) b7o [] (Zx e4z (encL x)):=by
 rintro⟨⟨n,ks⟩,⟨⟩⟩ h
 rw[<- ZY]
 show Zd a8u 0 (Za O4 (Zf (SS n ks.length))) _ _ _
 refine f4b n ks ⟨Zc (.mk n ks,()) (ZY n ks) h,Zb (.mk n ks,()) (ZY n ks) (Zy (fun b=>UK ?_) fun b=> ?_)⟩
 ·unfold SS;rw[if_pos b]
 ·cases ho:He n ks.length with
  | some r=>
   rw[show Cj ((Tm.mk n ks,()):Tm×Unit).1=⟨⟨r.s⟩,r.l,r.u⟩from AP ho]
   have a:(r.s==[])=false:=by rw[DV];exact decide_eq_false (e9u (Su ho).1)
   exact ZN (by show(!(r.s==[]))=true;rw[a];rfl) (UK (b6x ho).symm)
  | none=>
   rw[show Cj ((Tm.mk n ks,()):Tm×Unit).1=⟨⟨[]⟩,0,false⟩from Ar ho]
   have e:SS n ks.length=if n.kind=2∧n.name.s=Xb∧n.num<0 then 6 else 7:=by unfold SS;rw[if_neg b,ho]
   rw[e]
   refine ZV (by decide) (Zy (fun h2=>Zy (fun h3=>ZU (fun g=>UK ?_) fun g=>UK ?_) fun h3=>UK ?_) fun h2=>UK ?_)
   ·rw[if_pos ⟨h2,h3,g⟩]
   ·rw[if_neg fun x=>g x.2.2]
   ·rw[if_neg fun x=>h3 x.2.1]
   ·rw[if_neg fun x=>h2 x.1]
theorem c9z(N:Nat): ∀ x:Tm×Bool×Unit,((tW x.1&&Z9 x.1)&&decide (Z4 x.1<N))=true->Zd (a8l N) 0 (Za FI (Zf (Au x.2.1 x.1))) b6i [] (Zx e3w (encL x)):=by
 rintro⟨⟨n,ks⟩,b,⟨⟩⟩ h
 have a:=h
 simp only[Bool.and_eq_true,decide_eq_true_eq]at a
 have hl:(ZM (.mk n ks)).length<=1153433592:=K6 a.1.1 a.1.2
 have e:encL ((Tm.mk n ks,b,()):Tm×Bool×Unit)=CO n ks++[.bool b]:=by rw[ZY];rfl
 rw[e]
 show Zd (a8l N) 0 (Za FI (Zf (Au b (.mk n ks)))) _ _ _
 refine f6z N n ks b (YX (fun hb=>⟨Zc (.mk n ks,()) (ZY n ks) h,Zb (.mk n ks,()) (ZY n ks) ⟨Zj (by show 1+(ZM (.mk n ks)).length<=_;omega),Zj (by rw[List.length_append];show 1+(ZM (.mk n ks)).length+1<=_;omega),?_⟩⟩) fun hb=>⟨Zc (.mk n ks,()) (ZY n ks) h,Zb (.mk n ks,()) (ZY n ks) ?_⟩)
 ·exact d3c (by rw[hb];rfl)
 ·exact d3c (by rw[hb];rfl)
theorem c0y(N:Nat): ∀ x:Tm×Unit,((tW x.1&&Z9 x.1)&&decide (Z4 x.1<N+1))=true->Zd (OH N) 0 (Za R6 (Zf (Zr x.1))) a5h [] (Zx d1n (encL x)):=by
 rintro⟨⟨n,ks⟩,⟨⟩⟩ h
 simp only[Bool.and_eq_true,decide_eq_true_eq]at h
 obtain⟨⟨D,z⟩,hd⟩:=h
 have D:tW (.mk n ks)=true:=D
 have z:Z9 (.mk n ks)=true:=z
 have hd:Z4 (.mk n ks)<N+1:=hd
 rw[Z4]at hd
 have S:=Qw z
 have L:Vs ks<=1048576:=by have h1:KC (.mk n ks)<=1048576:=of_decide_eq_true D;rw[KC]at h1;omega
 have k:TxP N ks:=⟨L,S.2,by omega⟩
 have y:=(ndB D).name
 have j:YJ n ks.length=true:=by
  have:=S.1
  unfold WC at this
  simp only[Bool.and_eq_true]at this
  exact this.2
 have fin : ∀ s,s=QN n (Yv ks)->Zf (Zr (.mk n ks)) (.str s):=fun s hs=>Zh (x:=(⟨s⟩:Str)) (by rw[hs,Zr,ZM])
 rw[<- ZY]
 show Zd (OH N) 0 (Za R6 (Zf (Zr (.mk n ks)))) _ _ _
 refine e4r N n ks ⟨Zc (.mk n ks,()) (ZY n ks) D,Zb (.mk n ks,()) (ZY n ks) ?_⟩
 generalize Zf (Zr (.mk n ks))=G at fin ⊢
 cases ho:He n ks.length with
 | some r=>
  obtain⟨hm,K⟩:=FO ho
  have hr:=(Su ho).2
  have P:(r.s==[])=false:=by rw[DV];exact decide_eq_false (e9u (Su ho).1)
  have F:(!(r.s==[]))=true:=by rw[P];rfl
  rw[show Cj ((Tm.mk n ks,()):Tm×Unit).1=⟨⟨r.s⟩,r.l,r.u⟩from AP ho]
  cases hu:r.u with
  | false=>
   rw[hu]at K
   match ks,K with
   | [a,b],_=>
    have ha:=k.kid (show a∈[a,b] by simp)
    have hb:=k.kid (show b∈[a,b] by simp)
    have H:=k.len (show a∈[a,b] by simp)
    have Q:=k.len (show b∈[a,b] by simp)
    have g : ∀ f,(Au f a).s.length<=1153433594:=fun f=>by have:=Qe f (ZM a);show(V8 f (ZM a)).length<=_;omega
    have E : ∀ f,(Au f b).s.length<=1153433594:=fun f=>by have:=Qe f (ZM b);show(V8 f (ZM b)).length<=_;omega
    have i : ∀ f:Bool,f=(decide (Wh a<r.l)||(decide (Wh a=3)&&decide (r.l=3)))->(Au f a).s++[32]++r.s++[32]++(Au (decide (Wh b<=r.l)) b).s=QN n (Yv [a,b]):=fun f M=>by
     simp only[Yv]
     rw[b4u ho,M]
     rfl
    refine ZN F (ZV (by simp) (ZN F ⟨rfl,a,rfl,Xy a,rfl,b,rfl,Xy b,Bu ha.1 (ZU (fun h1=> ?_) fun h1=>Bu ha.1 (Zy (fun h2=> ?_) fun h2=> ?_))⟩))
    ·have h1:Wh a<r.l:=h1
     refine Qu ha ⟨Zz (g _) (show _<=8 by decide) (by omega),Zz (Zu (g _) (show _<=8 by decide)) hr (by omega),Zz (Zu (Zu (g _) (show _<=8 by decide)) hr) (show _<=8 by decide) (by omega),Bu hb.1 (Qu hb ⟨Zz (Zu (Zu (Zu (g _) (show _<=8 by decide)) hr) (show _<=8 by decide)) (E _) (by omega),fin _ (i _ ?_)⟩)⟩
     rw[decide_eq_true h1];rfl
    ·have h1 : ¬ Wh a<r.l:=h1
     refine Qu ha ⟨Zz (g _) (show _<=8 by decide) (by omega),Zz (Zu (g _) (show _<=8 by decide)) hr (by omega),Zz (Zu (Zu (g _) (show _<=8 by decide)) hr) (show _<=8 by decide) (by omega),Bu hb.1 (Qu hb ⟨Zz (Zu (Zu (Zu (g _) (show _<=8 by decide)) hr) (show _<=8 by decide)) (E _) (by omega),fin _ (i _ ?_)⟩)⟩
     rw[decide_eq_false h1,h2];simp[beq_iff_eq];rfl
    ·have h1 : ¬ Wh a<r.l:=h1
     refine Qu ha ⟨Zz (g _) (show _<=8 by decide) (by omega),Zz (Zu (g _) (show _<=8 by decide)) hr (by omega),Zz (Zu (Zu (g _) (show _<=8 by decide)) hr) (show _<=8 by decide) (by omega),Bu hb.1 (Qu hb ⟨Zz (Zu (Zu (Zu (g _) (show _<=8 by decide)) hr) (show _<=8 by decide)) (E _) (by omega),fin _ (i _ ?_)⟩)⟩
     rw[decide_eq_false h1,decide_eq_false h2];rfl
  | true=>
   rw[hu]at K
   match ks,K with
   | [a],_=>
    have ha:=k.kid (show a∈[a] by simp)
    have H:=k.len (show a∈[a] by simp)
    have g : ∀ f,(Au f a).s.length<=1153433594:=fun f=>by have:=Qe f (ZM a);show(V8 f (ZM a)).length<=_;omega
    have i : ∀ f:Bool,f=(decide (Wh a<6)||(decide (r.s=[45])&&Ai a))->r.s++(Au f a).s=QN n (Yv [a]):=fun f M=>by
     simp only[Yv]
     rw[d7s ho,M]
     rfl
    refine ZN F (ZN rfl ⟨rfl,a,rfl,Xy a,Bu ha.1 ?_⟩)
    rw[g2w,g1g,g2t]
    have nn : ∀ {q:Bool},Ai a=q->Ai a=q:=fun h=>h
    refine ZU (fun B=> ?_) fun B=>Zy (fun m=>Zy (fun h2=>Zy (fun h3=> ?_) fun h3=> ?_) fun h2=> ?_) fun m=> ?_
    ·refine Qu ha ⟨Zz hr (g _) (by omega),fin _ (i _ ?_)⟩
     rw[decide_eq_true B];rfl
    ·refine Qu ha ⟨Zz hr (g _) (by omega),fin _ (i _ ?_)⟩
     have m:r.s=[45]:=m
     rw[decide_eq_false B,decide_eq_true m,Bool.false_or,Bool.true_and]
     unfold Ai
     rw[decide_eq_true h2,decide_eq_true (show a.nd.name.s=Xb from h3)];rfl
    ·refine Qu ha ⟨Zz hr (g _) (by omega),fin _ (i _ ?_)⟩
     have m:r.s=[45]:=m
     rw[decide_eq_false B,decide_eq_true m,Bool.false_or,Bool.true_and]
     unfold Ai
     rw[decide_eq_true h2,decide_eq_false (show ¬ a.nd.name.s=Xb from h3)];rfl
    ·refine Qu ha ⟨Zz hr (g _) (by omega),fin _ (i _ ?_)⟩
     have m:r.s=[45]:=m
     rw[decide_eq_false B,decide_eq_true m,Bool.false_or,Bool.true_and]
     unfold Ai
     rw[decide_eq_false h2];rfl
    ·refine Qu ha ⟨Zz hr (g _) (by omega),fin _ (i _ ?_)⟩
     have m : ¬ r.s=[45]:=m
     rw[decide_eq_false B,decide_eq_false m];rfl
 | none=>
  rw[show Cj ((Tm.mk n ks,()):Tm×Unit).1=⟨⟨[]⟩,0,false⟩from Ar ho]
  have hn:QN n (Yv ks)=_:=MP (by rw[WH,List.length_map];exact ho)
  have et:(Yv ks).map (·.2.2)=ks.map ZM:=by rw[WH,List.map_map];rfl
  rw[et]at hn
  rw[hn]at fin
  refine ZV (by decide) (ZV (by decide) (Zy (fun h=> ?_) fun V=>Zy (fun h=> ?_) fun h2=>Zy (fun h=> ?_) fun B=>Zy (fun h=> ?_) fun m=>Zy (fun h=> ?_) fun U=>Zy (fun h=> ?_) fun X=>Zy (fun h=> ?_) fun J=>Zy (fun h=> ?_) fun h3=> ?_))
  ·-- let
   have q:nameI n.name.s=true∧ks.length=2:=by
    have:=j
    unfold YJ at this
    simp[h]at this
    exact⟨this.1.1.1.2,this.1.2⟩
   obtain⟨a,b,rfl⟩:=Tp q.2
   have ha:=k.kid (show a∈[a,b] by simp)
   have hb:=k.kid (show b∈[a,b] by simp)
   have H:(Zr a).s.length<=_:=k.len (show a∈[a,b] by simp)
   have Q:(Zr b).s.length<=_:=k.len (show b∈[a,b] by simp)
   refine⟨Zz (show _<=8 by decide) y (by omega),Zz (Zu (show _<=8 by decide) y) (show _<=8 by decide) (by omega),rfl,a,rfl,Xy a,O8 ha ⟨Zz (Zu (Zu (show _<=8 by decide) y) (show _<=8 by decide)) H (by omega),Zz (Zu (Zu (Zu (show _<=8 by decide) y) (show _<=8 by decide)) H) (show _<=8 by decide) (by omega),rfl,b,rfl,Xy b,O8 hb ⟨Zz (Zu (Zu (Zu (Zu (show _<=8 by decide) y) (show _<=8 by decide)) H) (show _<=8 by decide)) Q (by omega),fin _ ?_⟩⟩⟩
   simp[h,Yv,Zr]
  ·-- literals
   have q:UB n=true:=by
    have:=j
    unfold YJ at this
    simp[h]at this
    exact this.1.1.2
   have W:n.name.s=Xb->n.num.natAbs<9223372036854775808:=fun e=>by
    unfold UB at q
    rw[e,if_neg (by decide)]at q
    simp at q
    omega
   have T:QN n (Yv ks)=BN n:=by rw[hn];simp[h]
   rw[hn]at T
   rw[T]at fin
   refine Zy (fun h3=>Rw (W h3) (fin _ ?_)) fun h3=>Zy (fun J=>fin _ ?_) fun J=>fin _ ?_
   ·unfold BN;rw[if_pos (show n.name.s=Xb from h3)];rfl
   ·unfold BN;rw[if_neg (show ¬ n.name.s=Xb from h3),if_pos J]
   ·unfold BN;rw[if_neg (show ¬ n.name.s=Xb from h3),if_neg J]
  ·-- call
   refine⟨Zc (.mk n ks,()) (ZY n ks) ?_,Zb (.mk n ks,()) (ZY n ks) (fin _ (by simp[h,Q3,Tm.nd,Tm.ks]))⟩
   show(tW (.mk n ks)&&Z9 (.mk n ks)&&decide (n.kind=6)&&decide (Yc ks<N))=true
   rw[D,z,decide_eq_true h,decide_eq_true k.d];rfl
  ·-- pack
   have hc:=k.com
   have C:=VT ks
   rw[<- C]at hc
   refine Tw k ⟨Zz (show _<=8 by decide) hc (by omega),Zz (Zu (show _<=8 by decide) hc) (show _<=8 by decide) (by omega),fin _ ?_⟩
   simp[h,C]
  ·-- fold
   have q:Ci n.name.s=true∧ks.length=2:=by
    have:=j
    unfold YJ at this
    simp[h]at this
    exact⟨this.1.1.1.2,this.1.2⟩
   have hc:=k.com
   have C:=VT ks
   rw[<- C]at hc
   have A:=(VX q.1).2.2
   obtain⟨a,b,rfl⟩:=Tp q.2
   refine⟨Zz (show _<=8 by decide) A (by omega),Zz (Zu (show _<=8 by decide) A) (show _<=8 by decide) (by omega),Tw k ⟨Zz (Zu (Zu (show _<=8 by decide) A) (show _<=8 by decide)) hc (by omega),Zz (Zu (Zu (Zu (show _<=8 by decide) A) (show _<=8 by decide)) hc) (show _<=8 by decide) (by omega),fin _ ?_⟩⟩
   rw[C]
   simp[h,J4]
  ·-- scan
   have q:Ci n.name.s=true∧ks.length=1:=by
    have:=j
    unfold YJ at this
    simp[h]at this
    exact⟨this.1.1.1.2,this.1.2⟩
   have hc:=k.com
   have C:=VT ks
   rw[<- C]at hc
   have A:=(VX q.1).2.2
   obtain⟨a,rfl⟩:=List.length_eq_one_iff.1 q.2
   refine⟨Zz (show _<=8 by decide) A (by omega),Zz (Zu (show _<=8 by decide) A) (show _<=8 by decide) (by omega),Tw k ⟨Zz (Zu (Zu (show _<=8 by decide) A) (show _<=8 by decide)) hc (by omega),Zz (Zu (Zu (Zu (show _<=8 by decide) A) (show _<=8 by decide)) hc) (show _<=8 by decide) (by omega),fin _ ?_⟩⟩
   rw[C]
   simp[h,J4]
  ·-- sizes
   have q:n.sizes.length=1∧n.sizes.all Zg=true:=by
    have:=j
    unfold YJ at this
    simp[h]at this
    exact⟨this.1.1.2,by rw[List.all_eq_true];exact this.1.2⟩
   obtain⟨l,hs⟩:=List.length_eq_one_iff.1 q.1
   have O:Zg l=true:=by
    have:=q.2
    rw[hs,List.all_eq_true]at this
    exact this l (by simp)
   have I:=Wv l
   refine⟨by rw[hs];rfl,l,by rw[hs];rfl,Zc (l,()) rfl (Ui O),Zb (l,()) rfl ⟨Zz (show _<=8 by decide) (show _<=1000 from I) (by omega),Zz (Zu (show _<=8 by decide) (show _<=1000 from I)) (show _<=8 by decide) (by omega),fin _ ?_⟩⟩
   simp[h,hs]
  ·-- arrays
   have q:WF (UU n)=true:=by
    have:=j
    unfold YJ at this
    simp[h]at this
    exact this.2
   refine⟨Zc (UU n,()) rfl ?_,Zb (UU n,()) rfl (fin _ ?_)⟩
   ·show(VF (UU n)&&WF (UU n))=true
    rw[FH D,q];rfl
   ·simp[h,JO]
  ·-- variables
   have h1:n.kind=1:=by
    refine Classical.byContradiction fun h1=> ?_
    rw[kB0 h1 h2 h3 J V B m U X]at j
    cases j
   exact fin _ (by simp[h1])
theorem a3p(l:List Str)(s:Str):(Ul l s).length<=l.length+1:=by
 induction l with
 | nil=>simp[Ul]
 | cons a r ih=>
  rw[Ul]
  split
  ·rw[List.length_cons,List.length_cons];omega
  ·split <;> simp
theorem e6b(l:List Str)(s:Str):Ul l s≠[]:=by
 cases l with
 | nil=>simp[Ul]
 | cons a r=>
  rw[Ul]
  split
  ·simp
  ·split <;> simp
theorem c7u{l:List Str}{s x:Str}:x∈Ul l s ↔ x∈l∨x=s:=by
 induction l with
 | nil=>simp[Ul]
 | cons a r ih=>
  rw[Ul]
  split
  ·rw[List.mem_cons,ih,List.mem_cons,or_assoc]
  ·split
   ·rename_i h
    subst h
    simp only[List.mem_cons]
    exact⟨fun h=>.inl h,fun h=>h.elim id .inl⟩
   ·simp only[List.mem_cons]
    constructor
    ·rintro(h|h|h)
     ·exact .inr h
     ·exact .inl (.inl h)
     ·exact .inl (.inr h)
    ·rintro((h|h)|h)
     ·exact .inr (.inl h)
     ·exact .inr (.inr h)
     ·exact .inl h
theorem LM: ∀ (l m:List Str) (x:Str),x∈l.foldl Ul m ↔ x∈m∨x∈l
 | [],m,x=>by simp
 | s::l,m,x=>by
  rw[List.foldl_cons,LM l,c7u,List.mem_cons,or_assoc]
theorem BF(t:Tm)(x:Str):x∈JL t ↔ x∈Y0 t:=by
 have h:=LM (Y0 t) [] x
 simp only[List.not_mem_nil,false_or]at h
 exact h
theorem c1p(t:Tm)(p:Str->Bool):(JL t).all p=(Ua t).all p:=by
 rw[Hy,Bool.eq_iff_iff,List.all_eq_true,List.all_eq_true]
 exact⟨fun h s hs=>h s ((BF t s).2 hs),fun h s hs=>h s ((BF t s).1 hs)⟩
theorem b3f(l:List Str)(s:List UInt8)(i:Nat)(h:i<=l.length):(PV.sl 1 false (List.drop 0 (List.take (0+List.length (List.drop 0 (List.take (Int.toNat (i:Int)) (List.map (enc:Str->PV) l)))+List.length (List.drop 0 (List.take 1 [PV.str s]))+List.length (List.drop (Int.toNat (i:Int)) (List.take (List.length (List.map (enc:Str->PV) l)) (List.map (enc:Str->PV) l)))) (([]:List PV)++List.drop 0 (List.take (Int.toNat (i:Int)) (List.map (enc:Str->PV) l))++List.drop 0 (List.take 1 [PV.str s])++List.drop (Int.toNat (i:Int)) (List.take (List.length (List.map (enc:Str->PV) l)) (List.map (enc:Str->PV) l))))))=enc (l.take i++(⟨s⟩:Str)::l.drop i):=by
 have e:(([]:List PV)++List.drop 0 (List.take (Int.toNat (i:Int)) (List.map (enc:Str->PV) l))++List.drop 0 (List.take 1 [PV.str s])++List.drop (Int.toNat (i:Int)) (List.take (List.length (List.map (enc:Str->PV) l)) (List.map (enc:Str->PV) l)))=(l.take i++(⟨s⟩:Str)::l.drop i).map enc:=by
  rw[Int.toNat_natCast,List.nil_append,List.drop_zero,List.take_length,List.map_append,List.map_cons,List.map_take,List.map_drop,List.append_assoc]
  rfl
 rw[e,List.drop_zero,List.take_of_length_le]
 ·rfl
 ·rw[<- e];simp only[List.length_append,List.length_nil];omega
theorem c0m(l:List Str)(s:List UInt8)(hl:l.length<=1048576): ∀ (d i:Nat),d+i=l.length->Ul l ⟨s⟩=l.take i++Ul (l.drop i) ⟨s⟩ ->
  At Ay 0 (Za GG (Zf (Ul l ⟨s⟩))) Gx 0 45 [(0,.pv (enc l)),(1,.pv (.str s)),(5,.pv (.int .i64 i))] []:=by
 intro d
 induction d with
 | zero=>
  intro i hi k
  have hn : ¬ i<l.length:=by omega
  refine b2r l s i (ZV (X7 hn) (ZV (X7 hn) ⟨by first|(simp[Enc.sz];done)|(simp[Enc.sz];omega),by first|(simp[Enc.sz];done)|(simp[Enc.sz];omega),by first|(simp[Enc.sz];done)|(simp[Enc.sz];omega),by first|(simp[Enc.sz];done)|(simp[Enc.sz];omega),by first|(simp[Enc.sz];done)|(simp[Enc.sz];omega),by first|(simp[Enc.sz];done)|(simp[Enc.sz];omega),by first|(simp[Enc.sz];done)|(simp[Enc.sz];omega),by first|(simp[Enc.sz];done)|(simp[Enc.sz];omega),?_⟩))
  rw[b3f l s i (by omega)]
  refine Zh ?_
  rw[k,List.drop_eq_nil_of_le (show l.length<=i by omega)]
  rfl
 | succ d ih=>
  intro i hi k
  have a:i<l.length:=by omega
  have b:=k
  rw[List.drop_eq_getElem_cons a,Ul]at b
  have j:i<=l.length:=by omega
  refine b2r l s i (ZN (XY a) ⟨Zt a rfl,ZK a (Dz (fun hb=> ?_) fun hb=>ZN (XY a) ⟨Zt a rfl,ZK a (Zy (fun g=> ?_) fun g=>⟨by first|(simp[Enc.sz];done)|(simp[Enc.sz];omega),by first|(simp[Enc.sz];done)|(simp[Enc.sz];omega),by first|(simp[Enc.sz];done)|(simp[Enc.sz];omega),by first|(simp[Enc.sz];done)|(simp[Enc.sz];omega),by first|(simp[Enc.sz];done)|(simp[Enc.sz];omega),by first|(simp[Enc.sz];done)|(simp[Enc.sz];omega),by first|(simp[Enc.sz];done)|(simp[Enc.sz];omega),by first|(simp[Enc.sz];done)|(simp[Enc.sz];omega),?_⟩)⟩)⟩)
  ·have hb:Op.bytesLess l[i].s s=true:=hb
   rw[Wi]at hb
   rw[if_pos (of_decide_eq_true hb)]at b
   rw[next (by omega)]
   refine ih (i+1) (by omega) ?_
   rw[b,Qk a,List.append_assoc];rfl
  ·have hb : ¬ Op.bytesLess l[i].s s=true:=hb
   rw[Wi]at hb
   have g:l[i].s=s:=g
   have e:l[i]=⟨s⟩:=by rw[<- g]
   rw[if_neg (fun h=>hb (decide_eq_true h)),if_pos e]at b
   refine Zh ?_
   rw[b,<- List.drop_eq_getElem_cons a,List.take_append_drop]
  ·have hb : ¬ Op.bytesLess l[i].s s=true:=hb
   rw[Wi]at hb
   have g:l[i].s≠s:=g
   have e : ¬ l[i]=⟨s⟩:=fun h=>g (by rw[h])
   rw[if_neg (fun h=>hb (decide_eq_true h)),if_neg e]at b
   rw[b3f l s i j]
   refine Zh ?_
   rw[b,List.drop_eq_getElem_cons a]
theorem d5n: ∀ x:List Str×Str×Unit,decide (x.1.length<=1048576)=true->Zd Ay 0 (Za GG (Zf (Ul x.1 x.2.1))) Gx [] (Zx e2a (encL x)):=by
 rintro⟨l,⟨s⟩,⟨⟩⟩ h
 exact f4j l s (c0m l s (of_decide_eq_true h) l.length 0 (by omega) (by simp))
def slP:List Str->PV
 | []=>.sl 0 true []
 | a::r=>enc (a::r)
theorem f0k{o:List Str}(h:o≠[]):slP o=enc o:=by cases o with
 | nil=>exact absurd rfl h
 | cons a r=>rfl
theorem d5j(o:List Str):Zf o (slP o):=by cases o with
 | nil=>exact⟨rfl,rfl⟩
 | cons a r=>exact Zh rfl
theorem zsv(c:Coef):(decide (0+List.length [Sh.str]<=List.length (List.drop 0 (PV.cells (enc c))))&&YV (List.drop 0 (PV.cells (enc c))) 0 [Sh.str])=true:=rfl
theorem f0d{G:PV->Prop}(n:Nd)(ks:List Tm)(y:List Tm)(o:List Str)(i:Nat)(h:if decide ((i:Int)<(y.length:Int))=true then At Z8 0 (Za ZO G) ZT 1 56 [(3,.pv (slP o)),(4,.pv (enc y)),(5,.pv (.int .i64 i)),(6,.pv (.int .i64 ((0:Nat):Int)))] []else G (slP o)):
  At Z8 0 (Za ZO G) ZT 0 56 [(3,.pv (slP o)),(4,.pv (enc y)),(5,.pv (.int .i64 i))] []:=by
 cases o with
 | nil=>exact b9x n ks y i (by rw[show(y.length:Int)=((List.map (enc:Tm->PV) y).length:Int)from by rw[List.length_map]]at h;exact h)
 | cons a r=>exact b9i n ks y (a::r) i (by rw[show(y.length:Int)=((List.map (enc:Tm->PV) y).length:Int)from by rw[List.length_map]]at h;exact h)
theorem e9e{G:PV->Prop}(n:Nd)(ks:List Tm)(y:List Tm)(o:List Str)(i k:Nat)(b:i<y.length)(h:if decide ((k:Int)<(y[i].nd.sizes.length:Int))=true then At Z8 0 (Za ZO G) ZT 2 56 [(3,.pv (slP o)),(4,.pv (enc y)),(5,.pv (.int .i64 i)),(6,.pv (.int .i64 k)),(7,.pv (.int .i64 ((0:Nat):Int)))] []else At Z8 0 (Za ZO G) ZT 0 56 [(3,.pv (slP o)),(4,.pv (enc y)),(5,.pv (.int .i64 (IntKind.i64.wrap ((i:Int)+1))))] []):
  At Z8 0 (Za ZO G) ZT 1 56 [(3,.pv (slP o)),(4,.pv (enc y)),(5,.pv (.int .i64 i)),(6,.pv (.int .i64 k))] []:=by
 cases o with
 | nil=>
  refine b7w n ks y i k ⟨Zt b rfl,ZK b ⟨zs7 _,?_⟩⟩
  rw[zv7,List.length_map]
  exact h
 | cons a r=>
  refine c0h n ks y (a::r) i k ⟨Zt b rfl,ZK b ⟨zs7 _,?_⟩⟩
  rw[zv7,List.length_map]
  exact h
theorem f0v{G:PV->Prop}(n:Nd)(ks:List Tm)(y:List Tm)(o:List Str)(i k j:Nat)(b:i<y.length)(e:k<y[i].nd.sizes.length)(g : ¬ j<y[i].nd.sizes[k].t.length)(h:At Z8 0 (Za ZO G) ZT 1 56 [(3,.pv (slP o)),(4,.pv (enc y)),(5,.pv (.int .i64 i)),(6,.pv (.int .i64 (IntKind.i64.wrap ((k:Int)+1))))] []):
  At Z8 0 (Za ZO G) ZT 2 56 [(3,.pv (slP o)),(4,.pv (enc y)),(5,.pv (.int .i64 i)),(6,.pv (.int .i64 k)),(7,.pv (.int .i64 j))] []:=by
 have l:(decide (0<=(k:Int))&&decide (Int.toNat (k:Int)<List.length (List.map (enc:Lin->PV) y[i].nd.sizes))&&2==2)=true:=by simp[e]
 cases o with
 | nil=>
  refine M5 n ks y i k j ⟨Zt b rfl,ZK b ⟨zs7 _,?_⟩⟩
  rw[zv7,Wl enc e]
  refine⟨l,c3s _,?_⟩
  rw[a7k,List.length_map]
  exact ZV (YD g) h
 | cons a r=>
  refine Mg n ks y (a::r) i k j ⟨Zt b rfl,ZK b ⟨zs7 _,?_⟩⟩
  rw[zv7,Wl enc e]
  refine⟨l,c3s _,?_⟩
  rw[a7k,List.length_map]
  exact ZV (YD g) h
theorem f3x{G:PV->Prop}(n:Nd)(ks:List Tm)(y:List Tm)(o:List Str)(i k j:Nat)(b:i<y.length)(g:k<y[i].nd.sizes.length)(e:j<y[i].nd.sizes[k].t.length)(ho:o.length<=1048576)(h:At Z8 0 (Za ZO G) ZT 2 56 [(3,.pv (slP (Ul o y[i].nd.sizes[k].t[j].v))),(4,.pv (enc y)),(5,.pv (.int .i64 i)),(6,.pv (.int .i64 k)),(7,.pv (.int .i64 (IntKind.i64.wrap ((j:Int)+1))))] []):
  At Z8 0 (Za ZO G) ZT 2 56 [(3,.pv (slP o)),(4,.pv (enc y)),(5,.pv (.int .i64 i)),(6,.pv (.int .i64 k)),(7,.pv (.int .i64 j))] []:=by
 have l:(decide (0<=(k:Int))&&decide (Int.toNat (k:Int)<List.length (List.map (enc:Lin->PV) y[i].nd.sizes))&&2==2)=true:=by simp[g]
 have m:(decide (0<=(j:Int))&&decide (Int.toNat (j:Int)<List.length (List.map (enc:Coef->PV) y[i].nd.sizes[k].t))&&2==2)=true:=by simp[e]
 rw[f0k (e6b _ _)]at h
 cases o with
 | nil=>
  refine M5 n ks y i k j ⟨Zt b rfl,ZK b ⟨zs7 _,?_⟩⟩
  rw[zv7,Wl enc g]
  refine⟨l,c3s _,?_⟩
  rw[a7k,List.length_map]
  refine ZN (Yw e) ⟨Zt b rfl,ZK b ⟨zs7 _,?_⟩⟩
  rw[zv7,Wl enc g]
  refine⟨l,c3s _,?_⟩
  rw[a7k,Wl enc e]
  exact⟨m,zsv _,DU ([],y[i].nd.sizes[k].t[j].v,()) rfl h⟩
 | cons a r=>
  refine Mg n ks y (a::r) i k j ⟨Zt b rfl,ZK b ⟨zs7 _,?_⟩⟩
  rw[zv7,Wl enc g]
  refine⟨l,c3s _,?_⟩
  rw[a7k,List.length_map]
  refine ZN (Yw e) ⟨Zt b rfl,ZK b ⟨zs7 _,?_⟩⟩
  rw[zv7,Wl enc g]
  refine⟨l,c3s _,?_⟩
  rw[a7k,Wl enc e]
  exact⟨m,zsv _,Zc (a::r,y[i].nd.sizes[k].t[j].v,()) rfl (decide_eq_true ho),Zb (a::r,y[i].nd.sizes[k].t[j].v,()) rfl h⟩
theorem g4v{G:PV->Prop}(n:Nd)(ks:List Tm)(y:List Tm)(i k E:Nat)(g:i<y.length)(h:k<y[i].nd.sizes.length)(hkl:y[i].nd.sizes[k].t.length<=1048576)(F:List Str)(e:F.length+E<=1048576->At Z8 0 (Za ZO G) ZT 1 56 [(3,.pv (slP F)),(4,.pv (enc y)),(5,.pv (.int .i64 i)),(6,.pv (.int .i64 (IntKind.i64.wrap ((k:Int)+1))))] []): ∀ (d j:Nat) (o:List Str),d+j=y[i].nd.sizes[k].t.length->o.length+d+E<=1048576->F=((y[i].nd.sizes[k].t.drop j).map (·.v)).foldl Ul o ->
  At Z8 0 (Za ZO G) ZT 2 56 [(3,.pv (slP o)),(4,.pv (enc y)),(5,.pv (.int .i64 i)),(6,.pv (.int .i64 k)),(7,.pv (.int .i64 j))] []:=by
 intro d
 induction d with
 | zero=>
  intro j o l ho a
  rw[List.drop_eq_nil_of_le (by omega)]at a
  have a:F=o:=a
  subst a
  exact f0v n ks y _ i k j g h (by omega) (e (by omega))
 | succ d ih=>
  intro j o l ho a
  have b:j<y[i].nd.sizes[k].t.length:=by omega
  rw[List.drop_eq_getElem_cons b,List.map_cons,List.foldl_cons]at a
  refine f3x n ks y o i k j g h b (by omega) ?_
  rw[next (by omega)]
  exact ih (j+1) _ (by omega) (by have:=a3p o y[i].nd.sizes[k].t[j].v;omega) a
theorem g4n{G:PV->Prop}(n:Nd)(ks:List Tm)(y:List Tm)(i E:Nat)(e:i<y.length)(hyl:y[i].nd.sizes.length<=1048576)(h : ∀ l∈y[i].nd.sizes,l.t.length<=1048576)(F:List Str)(g:F.length+E<=1048576->At Z8 0 (Za ZO G) ZT 0 56 [(3,.pv (slP F)),(4,.pv (enc y)),(5,.pv (.int .i64 (IntKind.i64.wrap ((i:Int)+1))))] []): ∀ (d k:Nat) (o:List Str),d+k=y[i].nd.sizes.length->o.length+((y[i].nd.sizes.drop k).flatMap fun l=>l.t.map (·.v)).length+E<=1048576->F=((y[i].nd.sizes.drop k).flatMap fun l=>l.t.map (·.v)).foldl Ul o ->
  At Z8 0 (Za ZO G) ZT 1 56 [(3,.pv (slP o)),(4,.pv (enc y)),(5,.pv (.int .i64 i)),(6,.pv (.int .i64 k))] []:=by
 intro d
 induction d with
 | zero=>
  intro k o m ho b
  rw[List.drop_eq_nil_of_le (by omega)]at b
  have b:F=o:=b
  subst b
  exact e9e n ks y _ i k e (ZV (YD (by omega)) (g (by omega)))
 | succ d ih=>
  intro k o m ho b
  have a:k<y[i].nd.sizes.length:=by omega
  have j:=h _ (List.getElem_mem a)
  rw[List.drop_eq_getElem_cons a,List.flatMap_cons,List.foldl_append]at b
  rw[List.drop_eq_getElem_cons a,List.flatMap_cons,List.length_append,List.length_map]at ho
  refine e9e n ks y o i k e (ZN (Yw a) ?_)
  refine g4v n ks y i k (((y[i].nd.sizes.drop (k+1)).flatMap fun l=>l.t.map (·.v)).length+E) e a j _ (fun hb=> ?_) y[i].nd.sizes[k].t.length 0 o (by omega) (by omega) rfl
  rw[next (by omega)]
  exact ih (k+1) _ (by omega) (by rw[List.drop_zero]at hb ⊢;omega) (by rw[List.drop_zero];exact b)
theorem g4p(n:Nd)(ks:List Tm)(y:List Tm)(j : ∀ x∈y,tW x=true)(hyl:y.length<=1048576)(F:List Str): ∀ (d i:Nat) (o:List Str),d+i=y.length->o.length+((y.drop i).flatMap UC).length<=1048576->F=((y.drop i).flatMap UC).foldl Ul o ->
  At Z8 0 (Za ZO (Zf F)) ZT 0 56 [(3,.pv (slP o)),(4,.pv (enc y)),(5,.pv (.int .i64 i))] []:=by
 intro d
 induction d with
 | zero=>
  intro i o h ho b
  rw[List.drop_eq_nil_of_le (by omega)]at b
  have b:F=o:=b
  subst b
  exact f0d n ks y _ i (ZV (YD (by omega)) (d5j _))
 | succ d ih=>
  intro i o h ho b
  have a:i<y.length:=by omega
  have e:=j _ (List.getElem_mem a)
  have g:NdB y[i].nd 1048576:=by
   have h2:y[i] = .mk y[i].nd y[i].ks:=by cases y[i];rfl
   rw[h2]at e
   exact ndB e
  rw[List.drop_eq_getElem_cons a,List.flatMap_cons,List.foldl_append]at b
  rw[List.drop_eq_getElem_cons a,List.flatMap_cons,List.length_append]at ho
  refine f0d n ks y o i (ZN (Yw a) ?_)
  refine g4n n ks y i ((y.drop (i+1)).flatMap UC).length a g.sizes g.lens _ (fun hb=> ?_) y[i].nd.sizes.length 0 o (by omega) (by rw[List.drop_zero];unfold UC at ho ⊢;omega) rfl
  rw[next (by omega)]
  exact ih (i+1) _ (by omega) hb (by rw[List.drop_zero];exact b)
theorem b8b: ∀ x:Tm×Unit,tW x.1=true->Zd Z8 0 (Za ZO (Zf (JL x.1))) ZT [] (Zx c5o (encL x)):=by
 rintro⟨⟨n,ks⟩,⟨⟩⟩ h
 have h:tW (.mk n ks)=true:=h
 rw[<- ZY]
 show Zd Z8 0 (Za ZO (Zf (JL (.mk n ks)))) _ _ _
 have b:=JZ 1 (.mk n ks)
 have h6:KC (.mk n ks)<=1048576:=of_decide_eq_true h
 have h7:=TC h
 have h8:=PS (.mk n ks)
 have h9:((XI (.mk n ks)).flatMap UC).length<=KC (.mk n ks):=b
 refine e2c n ks ⟨Zc (.mk n ks,()) (ZY n ks) h,Zb (.mk n ks,()) (ZY n ks) ?_⟩
 exact g4p n ks (XI (.mk n ks)) (fun x a=>e2m h a) (by omega) _ (XI (.mk n ks)).length 0 [] (by omega) (by rw[List.drop_zero,List.length_nil];omega) (by rw[List.drop_zero];rfl)
theorem a3b(n:Nd)(ks:List Tm)(l:List Str)(hl:l.length<=9223372036854775806)(hs : ∀ s∈l,s.s.length<=1048576)(R:Bool): ∀ (d i:Nat),d+i=l.length->R=(l.drop i).all (fun s=>nameI s.s) ->
  At Qm 0 (Za Uq (Zf R)) Qi 0 22 [(3,.pv (enc l)),(4,.pv (.int .i64 i))] []:=by
 intro d
 induction d with
 | zero=>
  intro i hi b
  rw[List.drop_eq_nil_of_le (by omega)]at b
  exact NQ n ks l i (ZV (X7 (by omega)) (Zl b.symm))
 | succ d ih=>
  intro i hi b
  have a:i<l.length:=by omega
  rw[List.drop_eq_getElem_cons a,List.all_cons]at b
  refine NQ n ks l i (ZN (XY a) ⟨Zt a rfl,ZK a (KU (s:=l[i].s) (hs _ (List.getElem_mem a)) (Y8 (fun h=>Zl ?_) fun h=> ?_))⟩)
  ·have h:nameI l[i].s=false:=h
   rw[b,h];rfl
  ·have h:nameI l[i].s=true:=h
   rw[next (by omega)]
   exact ih (i+1) (by omega) (by rw[b,h];rfl)
theorem MR: ∀ (l m:List Str),(l.foldl Ul m).length<=m.length+l.length
 | [],m=>by simp
 | s::l,m=>by
  have h:=MR l (Ul m s)
  have h2:=a3p m s
  rw[List.foldl_cons,List.length_cons]
  omega
theorem a6c: ∀ x:Tm×Unit,tW x.1=true->Zd Qm 0 (Za Uq (Zf (YK x.1))) Qi [] (Zx b9o (encL x)):=by
 rintro⟨⟨n,ks⟩,⟨⟩⟩ h
 have h:tW (.mk n ks)=true:=h
 rw[<- ZY]
 show Zd Qm 0 (Za Uq (Zf (YK (.mk n ks)))) _ _ _
 have e:YK (.mk n ks)=(Y6 (.mk n ks)&&(JL (.mk n ks)).all fun s=>nameI s.s):=by unfold YK;rw[c1p]
 have hl:(JL (.mk n ks)).length<=1048576:=by
  have b:=JZ 1 (.mk n ks)
  have h6:KC (.mk n ks)<=1048576:=of_decide_eq_true h
  have h9:((XI (.mk n ks)).flatMap UC).length<=KC (.mk n ks):=b
  have g:=MR ((XI (.mk n ks)).flatMap UC) []
  unfold JL
  rw[List.length_nil]at g
  omega
 refine c9t n ks ⟨Zc (.mk n ks,()) (ZY n ks) h,Zb (.mk n ks,()) (ZY n ks) (Y8 (fun a=>Zl ?_) fun a=>⟨Zc (.mk n ks,()) (ZY n ks) h,Zb (.mk n ks,()) (ZY n ks) ?_⟩)⟩
 ·have a:Y6 (.mk n ks)=false:=a
  rw[e,a];rfl
 ·have a:Y6 (.mk n ks)=true:=a
  exact a3b n ks (JL (.mk n ks)) (by omega) (fun s hs=>Ha h s ((BF _ _).1 hs)) _ (JL (.mk n ks)).length 0 (by omega) (by rw[e,a,List.drop_zero,Bool.true_and])
end Go.Pl
namespace Go.Pl
open Go.RowKit
open Enc (enc dec is)
open EncL (encL decL isL)
set_option maxRecDepth 100000
abbrev d2w(N:Nat)(ps:List PV)(k:Str->Prop):Prop:=Yn (fun(x:Int×Unit)=>decide ((-1000000000:Int)<=Prod.fst x)&&decide (Prod.fst x<=1000000000)&&decide (Aa (Prod.fst x)<N)) (fun(x:Int×Unit)=>Zp (Prod.fst x)) ps k
abbrev g1p(ps:List PV)(k:Bool->Prop):Prop:=Yn (fun(x:Lin×Unit)=>XK (Prod.fst x)) (fun(x:Lin×Unit)=>Zg (Prod.fst x)) ps k
abbrev NP(ps:List PV)(k:Str->Prop):Prop:=Yn (fun(x:Int×Unit)=>decide ((-1000000000:Int)<=Prod.fst x)&&decide (Prod.fst x<=1000000000)) (fun(x:Int×Unit)=>Zp (Prod.fst x)) ps k
noncomputable def EK:IC:=YR Proofs.Tryz.f113
def a3z:List IRes:=[(.tmp 2)]
abbrev c6l:Nat:=22
def b6q(N:Nat):ZB:=Yi [(113,.pure (preT (fun x:Int×Unit=>(decide (-1000000000<=x.1)&&decide (x.1<=1000000000))&&decide (Aa x.1<N))) (Zi (fun x:Int×Unit=>Zp x.1)))]
theorem e3x{G:PV->Prop}(N:Nat)(n:Int)(h:if (decide (n<0))=true then(d2w N [(.int .i64 (IntKind.wrap IntKind.i64 (-n)))] fun b=>(ZA [(45:UInt8)] (Str.s b)∧(G ((.str ([(45:UInt8)]++Str.s b))))))else(if (decide (n<10))=true then(decide (0<=n)&&decide (0<=IntKind.wrap IntKind.i64 (n+1))&&decide (Int.toNat n<=Int.toNat (IntKind.wrap IntKind.i64 (n+1)))&&decide (Int.toNat (IntKind.wrap IntKind.i64 (n+1))<=List.length [(48:UInt8),(49:UInt8),(50:UInt8),(51:UInt8),(52:UInt8),(53:UInt8),(54:UInt8),(55:UInt8),(56:UInt8),(57:UInt8)]))=true∧(G ((.str (List.drop (Int.toNat n) (List.take (Int.toNat (IntKind.wrap IntKind.i64 (n+1))) [(48:UInt8),(49:UInt8),(50:UInt8),(51:UInt8),(52:UInt8),(53:UInt8),(54:UInt8),(55:UInt8),(56:UInt8),(57:UInt8)])))))else((d2w N [(.int .i64 (IntKind.wrap IntKind.i64 (Int.tdiv n 10)))] fun e=>((d2w N [(.int .i64 (Int.tmod n 10))] fun a=>(ZA (Str.s e) (Str.s a)∧(G ((.str (Str.s e++Str.s a))))))))))):Zd (b6q N) 0 (Za a3z G) EK [] (Zx 22 [enc n]):=Zd.tp (dm [dv Str] 26 0x151251201200342015100442) h
noncomputable def XC:IC:=YR Proofs.Tryz.f79
def Xz:List IRes:=[(.tmp 2)]
abbrev c0t:Nat:=69
def Ws:ZB:=Yi [(112,.pure (preT (fun x:Lin×Unit=>XK x.1)) (Zi (fun x:Lin×Unit=>Zg x.1))),(113,.pure (preT (fun x:Int×Unit=>decide (-1000000000<=x.1)&&decide (x.1<=1000000000))) (Zi (fun x:Int×Unit=>Zp x.1)))]
theorem d6h{G:PV->Prop}(l:Lin)(h:(g1p [(.agg [(.int .i64 l.k),(.sl 2 false (List.map enc l.t))])] fun a=>(if (!a)=true then G ((.str []))else(At Ws 0 (Za Xz G) XC 0 69 [(1,(.ptr 0 0)),(3,(.pv (.str []))),(4,(.pv (.int .i64 0)))] [(.obj (.box [(.pv (.int .i64 l.k)),(.pv (.sl 2 false (List.map enc l.t)))]))])))):Zd Ws 0 (Za Xz G) XC [] (Zx 69 [enc l]):=Zd.tp (dm [dv Bool] 9 0x1451) h
theorem NF{G:PV->Prop}(l:Lin)(o:List UInt8)(i:Int)(h:if (decide (i<(↑(List.length (List.map enc l.t)):Int)))=true then(Xv l.t i 2 fun a=>(if (decide (PV.asInt (SK a)<0))=true then ZA o [(45:UInt8)]∧(if (decide (IntKind.wrap IntKind.i64 (-PV.asInt (SK a))>1))=true then(NP [(.int .i64 (IntKind.wrap IntKind.i64 (-PV.asInt (SK a))))] fun g=>(ZA (o++[(45:UInt8)]) (Str.s g)∧(ZA (o++[(45:UInt8)]++Str.s g) (PV.asStr (VC a))∧(At Ws 0 (Za Xz G) XC 0 69 [(1,(.ptr 0 0)),(3,(.pv (.str (o++[(45:UInt8)]++Str.s g++PV.asStr (VC a))))),(4,(.pv (.int .i64 (IntKind.wrap IntKind.i64 (i+1)))))] [(.obj (.box [(.pv (.int .i64 l.k)),(.pv (.sl 2 false (List.map enc l.t)))]))]))))else(ZA (o++[(45:UInt8)]) (PV.asStr (VC a))∧(At Ws 0 (Za Xz G) XC 0 69 [(1,(.ptr 0 0)),(3,(.pv (.str (o++[(45:UInt8)]++PV.asStr (VC a))))),(4,(.pv (.int .i64 (IntKind.wrap IntKind.i64 (i+1)))))] [(.obj (.box [(.pv (.int .i64 l.k)),(.pv (.sl 2 false (List.map enc l.t)))]))])))else(if (decide (i>0))=true then ZA o [(43:UInt8)]∧(if (decide (PV.asInt (SK a)>1))=true then(NP [(.int .i64 (PV.asInt (SK a)))] fun e=>(ZA (o++[(43:UInt8)]) (Str.s e)∧(ZA (o++[(43:UInt8)]++Str.s e) (PV.asStr (VC a))∧(At Ws 0 (Za Xz G) XC 0 69 [(1,(.ptr 0 0)),(3,(.pv (.str (o++[(43:UInt8)]++Str.s e++PV.asStr (VC a))))),(4,(.pv (.int .i64 (IntKind.wrap IntKind.i64 (i+1)))))] [(.obj (.box [(.pv (.int .i64 l.k)),(.pv (.sl 2 false (List.map enc l.t)))]))]))))else(ZA (o++[(43:UInt8)]) (PV.asStr (VC a))∧(At Ws 0 (Za Xz G) XC 0 69 [(1,(.ptr 0 0)),(3,(.pv (.str (o++[(43:UInt8)]++PV.asStr (VC a))))),(4,(.pv (.int .i64 (IntKind.wrap IntKind.i64 (i+1)))))] [(.obj (.box [(.pv (.int .i64 l.k)),(.pv (.sl 2 false (List.map enc l.t)))]))])))else(if (decide (PV.asInt (SK a)>1))=true then(NP [(.int .i64 (PV.asInt (SK a)))] fun b=>(ZA o (Str.s b)∧(ZA (o++Str.s b) (PV.asStr (VC a))∧(At Ws 0 (Za Xz G) XC 0 69 [(1,(.ptr 0 0)),(3,(.pv (.str (o++Str.s b++PV.asStr (VC a))))),(4,(.pv (.int .i64 (IntKind.wrap IntKind.i64 (i+1)))))] [(.obj (.box [(.pv (.int .i64 l.k)),(.pv (.sl 2 false (List.map enc l.t)))]))]))))else(ZA o (PV.asStr (VC a))∧(At Ws 0 (Za Xz G) XC 0 69 [(1,(.ptr 0 0)),(3,(.pv (.str (o++PV.asStr (VC a))))),(4,(.pv (.int .i64 (IntKind.wrap IntKind.i64 (i+1)))))] [(.obj (.box [(.pv (.int .i64 l.k)),(.pv (.sl 2 false (List.map enc l.t)))]))]))))))else(if ((↑(List.length (List.map enc l.t)):Int)==0)=true then(NP [(.int .i64 l.k)] fun q=>(G ((.str (Str.s q)))))else(if (decide (l.k>0))=true then ZA o [(43:UInt8)]∧(if (l.k != 0)=true then(NP [(.int .i64 l.k)] fun j=>(ZA (o++[(43:UInt8)]) (Str.s j)∧(G ((.str (o++[(43:UInt8)]++Str.s j))))))else(G ((.str (o++[(43:UInt8)])))))else(if (l.k != 0)=true then(NP [(.int .i64 l.k)] fun m=>(ZA o (Str.s m)∧(G ((.str (o++Str.s m))))))else(G ((.str o))))))):At Ws 0 (Za Xz G) XC 0 69 [(1,.ptr 0 0),(3,.pv (.str o)),(4,.pv (.int .i64 i))] [.obj (.box [.pv (.int .i64 l.k),.pv (enc l.t)])]:=At.tp (dm [dr Coef,dv Str] 97 0x161004420016100442100b42061003420210211610064202102116100642100f4202102116100642100f4225103942) h
end Go.Pl
namespace Go.Pl
open Go.RowKit
open Enc (enc dec is)
open EncL (encL decL isL)
theorem J3{n:Int}(h:n.natAbs<=1000000000):(Zp n).s.length<=11:=by
 have:=Tj 9 n.natAbs (by omega)
 by_cases hn:n<0
 ·rw[Vj hn,List.length_cons];omega
 ·rw[YG hn];omega
theorem d2f{m:Nat}(h:m<10):List.drop m (List.take (m+1) [(48:UInt8),(49:UInt8),(50:UInt8),(51:UInt8),(52:UInt8),(53:UInt8),(54:UInt8),(55:UInt8),(56:UInt8),(57:UInt8)])=[UInt8.ofNat (48+m)]:=by
 revert h
 revert m
 decide
theorem b9j(N:Nat): ∀ a:Int×Unit,((decide ((-1000000000:Int)<=a.1)&&decide (a.1<=1000000000))&&decide (Aa a.1<N+1))=true->Zd (b6q N) 0 (Za a3z (Zf (Zp a.1))) EK [] (Zx c6l (encL a)):=by
 rintro⟨n,⟨⟩⟩ h
 simp only[Bool.and_eq_true,decide_eq_true_eq]at h
 obtain⟨⟨h1,h2⟩,h3⟩:=h
 unfold Aa at h3
 have e : ∀ k:Int,-1000000000<=k->k<=1000000000->Aa k<N->Go.Pl.preT (fun(x:Int×Unit)=>decide ((-1000000000:Int)<=Prod.fst x)&&decide (Prod.fst x<=1000000000)&&decide (Aa (Prod.fst x)<N)) [(.int .i64 k)]=true:=fun k a b c=>Zc (k,()) rfl (by rw[decide_eq_true a,decide_eq_true b,decide_eq_true c];rfl)
 refine e3x N n (ZU (fun hn=> ?_) fun hn=>ZU (fun i=> ?_) fun i=> ?_)
 ·rw[WG (by omega) (by omega)]
  refine⟨e _ (by omega) (by omega) (by unfold Aa;rw[if_pos hn]at h3;rw[if_neg (by omega)];omega),Zb (-n,()) rfl ⟨?_,?_⟩⟩
  ·have:=J3 (n:= -n) (by omega)
   exact decide_eq_true (by simp only[List.length_singleton];omega)
  ·refine Zh (x:=(⟨[(45:UInt8)]++(Zp (-n)).s⟩:Str)) ?_
   show(⟨[(45:UInt8)]++(Zp (-n)).s⟩:Str)=⟨(Zp n).s⟩
   rw[YG (n:= -n) (by omega),Vj hn,Int.natAbs_neg];rfl
 ·obtain⟨m,rfl⟩ : ∃ m:Nat,n=m:=⟨n.toNat,by omega⟩
  have hm:m<10:=by omega
  rw[WG (by omega) (by omega)]
  have g:((m:Int)+1).toNat=m+1:=by omega
  refine⟨?_,?_⟩
  ·rw[g,Int.toNat_natCast,decide_eq_true (show(0:Int)<=m by omega),decide_eq_true (show(0:Int)<=(m:Int)+1 by omega),decide_eq_true (show m<=m+1 by omega)]
   exact decide_eq_true (by simp only[List.length_cons,List.length_nil];omega)
  ·rw[g,Int.toNat_natCast,d2f hm]
   refine Zh (x:=(⟨[UInt8.ofNat (48+m)]⟩:Str)) ?_
   show(⟨[UInt8.ofNat (48+m)]⟩:Str)=⟨(Zp (m:Int)).s⟩
   rw[YG (by omega),Int.natAbs_natCast,XF hm]
 ·obtain⟨m,rfl⟩ : ∃ m:Nat,n=m:=⟨n.toNat,by omega⟩
  have g:Int.tdiv (m:Int) 10=((m / 10:Nat):Int):=by rw[Int.tdiv_eq_ediv_of_nonneg (by omega)];omega
  have q:Int.tmod (m:Int) 10=((m % 10:Nat):Int):=by rw[Int.tmod_eq_emod_of_nonneg (by omega)];omega
  rw[g,q,WG (by omega) (by omega)]
  rw[if_neg (by omega)]at h3
  have j:Aa ((m / 10:Nat):Int)<N:=by unfold Aa;rw[if_neg (by omega)];omega
  have l:Aa ((m % 10:Nat):Int)<N:=by unfold Aa;rw[if_neg (by omega)];omega
  have l1:=J3 (n:=((m / 10:Nat):Int)) (by omega)
  have l2:=J3 (n:=((m % 10:Nat):Int)) (by omega)
  refine⟨e _ (by omega) (by omega) j,Zb (((m / 10:Nat):Int),()) rfl ⟨e _ (by omega) (by omega) l,Zb (((m % 10:Nat):Int),()) rfl ⟨decide_eq_true (by dsimp only;omega),?_⟩⟩⟩
  refine Zh (x:=(⟨(Zp ((m / 10:Nat):Int)).s++(Zp ((m % 10:Nat):Int)).s⟩:Str)) ?_
  show(⟨(Zp ((m / 10:Nat):Int)).s++(Zp ((m % 10:Nat):Int)).s⟩:Str)=⟨(Zp (m:Int)).s⟩
  rw[YG (by omega),YG (by omega),YG (by omega),Int.natAbs_natCast,Int.natAbs_natCast,Int.natAbs_natCast,D9 (u:=m) (by omega),XF (u:=m % 10) (by omega)]
theorem b9b{o s:List UInt8}{n:Int}(hs:s≠[])(hn:n≠0)(h1:n.natAbs<=1000000)(h2:s.length<=30):(XR o n s).length<=o.length+40:=by
 have:=Pz (v:=s) h1 h2
 rw[Td hs hn,List.length_append,List.length_append]
 have:(if n<0 then [45]else if o=[]then []else [43]:List UInt8).length<=1:=by split;exact Nat.le_refl _;split <;> simp
 omega
theorem a2w(l:Lin)(z:Zg l=true): ∀ (d i:Nat) (o:List UInt8),d+i=l.t.length->o=AY (l.t.take i)->o.length<=40*i->(o=[] ↔ i=0) ->
  At Ws 0 (Za Xz (Zf (⟨ZC l⟩:Str))) XC 0 69 [(1,.ptr 0 0),(3,.pv (.str o)),(4,.pv (.int .i64 i))] [.obj (.box [.pv (.int .i64 l.k),.pv (enc l.t)])]:=by
 have hk:=Od z
 have hlen:=Uh z
 intro d
 induction d with
 | zero=>
  intro i o hi ho J A
  have hi:i=l.t.length:=by omega
  rw[List.take_of_length_le (by omega)]at ho
  have b : ∀ k:Int,k=l.k->Go.Pl.preT (fun(x:Int×Unit)=>decide ((-1000000000:Int)<=Prod.fst x)&&decide (Prod.fst x<=1000000000)) [(.int .i64 k)]=true:=fun k e=>Zc (k,()) rfl (by rw[decide_eq_true (show(-1000000000:Int)<=k by omega),decide_eq_true (show k<=1000000000 by omega)];rfl)
  have q:=J3 (n:=l.k) (by omega)
  have C:ZC l=if decide (l.k≠0)||decide (o=[])then XR o l.k []else o:=by
   unfold ZC
   rw[if_pos z,<- ho]
  refine NF l o i (ZV (X7 (by omega)) (Dz (fun u=> ?_) fun u=> ?_))
  ·have u:i=0:=by
    simp only[List.length_map,beq_iff_eq]at u
    omega
   have a:=A.2 u
   refine⟨b _ rfl,Zb (l.k,()) rfl (Zh (x:=Zp l.k) ?_)⟩
   show(⟨(Zp l.k).s⟩:Str)=⟨ZC l⟩
   rw[C,decide_eq_true a,Bool.or_true,if_pos rfl,a]
   congr 1
   unfold XR
   rw[decide_eq_false (show ¬ ([]:List UInt8)≠[] by simp),Bool.and_false,Bool.false_and,if_neg (by simp),if_neg (by simp)]
   simp
  ·have r:i≠0:=by
    simp only[List.length_map,beq_iff_eq]at u
    omega
   have a:o≠[]:=fun e=>r (A.1 e)
   rw[decide_eq_false a,Bool.or_false]at C
   have hlo:o.length<=40*12:=by omega
   refine ZU (fun H=>⟨decide_eq_true (by simp only[List.length_singleton];omega),Dz (fun hn=> ?_) fun hn=> ?_⟩) fun H=>Dz (fun hn=> ?_) fun hn=> ?_
   ·refine⟨b _ rfl,Zb (l.k,()) rfl ⟨decide_eq_true (by simp only[List.length_append,List.length_singleton];omega),?_⟩⟩
    refine Zh (x:=(⟨o++[(43:UInt8)]++(Zp l.k).s⟩:Str)) ?_
    rw[C,decide_eq_true (by omega),if_pos rfl,O1,if_neg (by omega),if_neg a,YG (by omega)]
    unfold WE
    rw[if_pos rfl];simp
   ·have hz0:l.k=0:=by simpa using hn
    exact absurd H (by omega)
   ·have hn:l.k≠0:=by simpa using hn
    refine⟨b _ rfl,Zb (l.k,()) rfl ⟨decide_eq_true (by dsimp only;omega),?_⟩⟩
    refine Zh (x:=(⟨o++(Zp l.k).s⟩:Str)) ?_
    rw[C,decide_eq_true hn,if_pos rfl,O1,if_pos (by omega),Vj (by omega)]
    unfold WE
    rw[if_pos rfl];simp
   ·have hn:l.k=0:=by simpa using hn
    refine Zh (x:=(⟨o⟩:Str)) ?_
    rw[C,decide_eq_false (by simpa using hn),if_neg (by simp)]
 | succ d ih=>
  intro i o hi ho J A
  have m:i<l.t.length:=by omega
  have hm:=List.getElem_mem m
  obtain⟨F,E,v3,v4⟩:=WK z hm
  have hs:=(EX z _ hm).2
  have B:l.t[i].v.s.length<=30:=Ve F
  have hpl:=b9b (o:=o) hs E (by omega) B
  have g:=Td (o:=o) hs E
  have j : ∀ o',o'=XR o l.t[i].c l.t[i].v.s->At Ws 0 (Za Xz (Zf (⟨ZC l⟩:Str))) XC 0 69 [(1,.ptr 0 0),(3,.pv (.str o')),(4,.pv (.int .i64 (IntKind.i64.wrap ((i:Int)+1))))] [.obj (.box [.pv (.int .i64 l.k),.pv (enc l.t)])]:=by
   intro o' e
   rw[next (by omega)]
   refine ih (i+1) o' (by omega) ?_ (by rw[e];omega) ⟨fun h=> ?_,fun h=>by omega⟩
   ·rw[e,ho,List.take_succ_eq_append_getElem m]
    unfold AY
    rw[List.foldl_append];rfl
   ·rw[e,g]at h
    exact absurd (List.append_eq_nil_iff.1 (List.append_eq_nil_iff.1 h).2).2 (Eo (.inr F))
  have hcn:=Pz (v:=l.t[i].v.s) (n:=l.t[i].c.natAbs) (by omega) B
  have b : ∀ k:Int,k.natAbs<=1000000->Go.Pl.preT (fun(x:Int×Unit)=>decide ((-1000000000:Int)<=Prod.fst x)&&decide (Prod.fst x<=1000000000)) [(.int .i64 k)]=true:=fun k e=>Zc (k,()) rfl (by rw[decide_eq_true (show(-1000000000:Int)<=k by omega),decide_eq_true (show k<=1000000000 by omega)];rfl)
  have q : ∀ k:Int,k.natAbs<=1000000->(Zp k).s.length<=11:=fun k e=>J3 (by omega)
  refine NF l o i (ZN (XY m) ⟨Zt m rfl,ZK m ?_⟩)
  refine ZU (fun hn=> ?_) fun hn=> ?_
  ·have hn:l.t[i].c<0:=hn
   have D:IntKind.i64.wrap (-l.t[i].c) = -l.t[i].c:=WG (by omega) (by omega)
   refine⟨decide_eq_true (by simp only[List.length_singleton];omega),?_⟩
   show if decide (IntKind.i64.wrap (-l.t[i].c)>1)=true then _ else _
   refine ZU (fun h1=> ?_) fun h1=> ?_
   ·rw[D]at h1
    show Go.Pl.preT _ [(.int .i64 (IntKind.i64.wrap (-l.t[i].c)))]=true∧(∃ I:Str,AV.pv (Zi _ [(.int .i64 (IntKind.i64.wrap (-l.t[i].c)))])=AV.pv (enc I)∧_)
    rw[D]
    have y:=q (-l.t[i].c) (by omega)
    refine⟨b _ (by omega),Zb (-l.t[i].c,()) rfl ⟨decide_eq_true (by simp only[List.length_append,List.length_singleton];omega),decide_eq_true ?_,j _ ?_⟩⟩
    ·show(o++[(45:UInt8)]++(Zp (-l.t[i].c)).s).length+l.t[i].v.s.length<=_
     simp only[List.length_append,List.length_singleton];omega
    ·show o++[(45:UInt8)]++(Zp (-l.t[i].c)).s++l.t[i].v.s=_
     rw[g,if_pos hn,YG (by omega),Int.natAbs_neg]
     unfold WE
     rw[if_neg hs,if_pos (by omega)];simp
   ·rw[D]at h1
    refine⟨decide_eq_true ?_,j _ ?_⟩
    ·show(o++[(45:UInt8)]).length+l.t[i].v.s.length<=_
     simp only[List.length_append,List.length_singleton];omega
    ·show o++[(45:UInt8)]++l.t[i].v.s=_
     rw[g,if_pos hn]
     unfold WE
     rw[if_neg hs,if_neg (by omega)];simp
  ·have hn : ¬ l.t[i].c<0:=hn
   refine ZU (fun r=>⟨decide_eq_true (by simp only[List.length_singleton];omega),?_⟩) fun r=> ?_
   ·have a:o≠[]:=fun e=>by have:=A.1 e;omega
    show if decide (l.t[i].c>1)=true then _ else _
    refine ZU (fun h1=> ?_) fun h1=> ?_
    ·have y:=q l.t[i].c (by omega)
     refine⟨b l.t[i].c (by omega),Zb (l.t[i].c,()) rfl ⟨decide_eq_true (by simp only[List.length_append,List.length_singleton];omega),decide_eq_true ?_,j _ ?_⟩⟩
     ·show(o++[(43:UInt8)]++(Zp l.t[i].c).s).length+l.t[i].v.s.length<=_
      simp only[List.length_append,List.length_singleton];omega
     ·show o++[(43:UInt8)]++(Zp l.t[i].c).s++l.t[i].v.s=_
      rw[g,if_neg hn,if_neg a,YG (by omega)]
      unfold WE
      rw[if_neg hs,if_pos (by omega)];simp
    ·refine⟨decide_eq_true ?_,j _ ?_⟩
     ·show(o++[(43:UInt8)]).length+l.t[i].v.s.length<=_
      simp only[List.length_append,List.length_singleton];omega
     ·show o++[(43:UInt8)]++l.t[i].v.s=_
      rw[g,if_neg hn,if_neg a]
      unfold WE
      rw[if_neg hs,if_neg (by omega)];simp
   ·have a:o=[]:=A.2 (by omega)
    show if decide (l.t[i].c>1)=true then _ else _
    refine ZU (fun h1=> ?_) fun h1=> ?_
    ·have y:=q l.t[i].c (by omega)
     refine⟨b l.t[i].c (by omega),Zb (l.t[i].c,()) rfl ⟨decide_eq_true (by dsimp only;omega),decide_eq_true ?_,j _ ?_⟩⟩
     ·show(o++(Zp l.t[i].c).s).length+l.t[i].v.s.length<=_
      simp only[List.length_append];omega
     ·show o++(Zp l.t[i].c).s++l.t[i].v.s=_
      rw[g,if_neg hn,if_pos a,YG (by omega)]
      unfold WE
      rw[if_neg hs,if_pos (by omega)];simp
    ·refine⟨decide_eq_true ?_,j _ ?_⟩
     ·show o.length+l.t[i].v.s.length<=_
      omega
     ·show o++l.t[i].v.s=_
      rw[g,if_neg hn,if_pos a]
      unfold WE
      rw[if_neg hs,if_neg (by omega)];simp
theorem b1x: ∀ x:Lin×Unit,Wu x.1=true->Zd Ws 0 (Za Xz (Zf (⟨ZC x.1⟩:Str))) XC [] (Zx c0t (encL x)):=by
 rintro⟨l,⟨⟩⟩ h
 have b:XK l=true:=by
  unfold Wu at h
  rw[Bool.and_eq_true]at h;exact h.1
 refine d6h l ⟨Zc (l,()) rfl b,Zb (l,()) rfl (Y8 (fun a=> ?_) fun a=> ?_)⟩
 ·refine Zh (x:=(⟨[]⟩:Str)) ?_
  have a:Zg l=false:=a
  show(⟨[]⟩:Str)=⟨ZC l⟩
  unfold ZC
  rw[if_neg (by simp[a])]
 ·exact a2w l a l.t.length 0 [] rfl rfl (by simp) (by simp)
structure TyS where
 elem:Str
 row:Str
 dims:List Lin
 deriving DecidableEq
structure Sp where
 row:Str
 dims:List Lin
 deriving DecidableEq
structure Pm where
 name:Str
 given:Bool
 ty:TyS
 deriving DecidableEq
structure Df where
 name:Str
 line:Int
 ps:List Pm
 given:Bool
 res:TyS
 n:Nd
 ks:List Tm
structure Mdu where
 name:Str
 im:List Str
 ex:List Str
 ds:List Df
instance:Enc TyS where
 sz:=3
 enc x:=.agg [enc x.elem,enc x.row,enc x.dims]
 dec | .agg [a0,a1,a2]=>⟨dec a0,dec a1,dec a2⟩|_=>⟨⟨[]⟩,⟨[]⟩,[]⟩
 is | .agg [a0,a1,a2]=>is Str a0&&is Str a1&&is (List Lin) a2|_=>false
 is_enc v:=by simp
 dec_enc v:=by simp
 sub p h:=by
  cases p with
  | agg xs=>
   match xs,h with
   | [a0,a1,a2],h=>
    simp only[Bool.and_eq_true]at h
    exact .agg (.cons (Enc.sub a0 h.1.1).2 (.cons (Enc.sub a1 h.1.2).2 (.cons (Enc.sub a2 h.2).2 .nil)))
  | _=>cases h
@[simp] theorem g4r (e a b : PV) : is TyS (.agg [e, a, b]) = (is Str e && is Str a && is (List Lin) b) := rfl
@[simp] theorem g3z (e a b : PV) : (dec (.agg [e, a, b]) : TyS) = ⟨dec e, dec a, dec b⟩ := rfl
instance:Enc Sp where
 sz:=2
 enc x:=.agg [enc x.row,enc x.dims]
 dec | .agg [a0,a1]=>⟨dec a0,dec a1⟩|_=>⟨⟨[]⟩,[]⟩
 is | .agg [a0,a1]=>is Str a0&&is (List Lin) a1|_=>false
 is_enc v:=by simp
 dec_enc v:=by simp
 sub p h:=by
  cases p with
  | agg xs=>
   match xs,h with
   | [a0,a1],h=>
    simp only[Bool.and_eq_true]at h
    exact .agg (.cons (Enc.sub a0 h.1).2 (.cons (Enc.sub a1 h.2).2 .nil))
  | _=>cases h
@[simp] theorem g5f (b a : PV) : is Sp (.agg [b, a]) = (is Str b && is (List Lin) a) := rfl
@[simp] theorem g5b (b a : PV) : (dec (.agg [b, a]) : Sp) = ⟨dec b, dec a⟩ := rfl
instance:Enc Pm where
 sz:=5
 enc x:=.agg [enc x.name,enc x.given,enc x.ty.elem,enc x.ty.row,enc x.ty.dims]
 dec | .agg [a0,a1,a2,a3,a4]=>⟨dec a0,dec a1,⟨dec a2,dec a3,dec a4⟩⟩|_=>⟨⟨[]⟩,false,⟨⟨[]⟩,⟨[]⟩,[]⟩⟩
 is | .agg [a0,a1,a2,a3,a4]=>is Str a0&&is Bool a1&&is Str a2&&is Str a3&&is (List Lin) a4|_=>false
 is_enc v:=by simp
 dec_enc v:=by simp
 sub p h:=by
  cases p with
  | agg xs=>
   match xs,h with
   | [a0,a1,a2,a3,a4],h=>
    simp only[Bool.and_eq_true]at h
    exact .agg (.cons (Enc.sub a0 h.1.1.1.1).2 (.cons (Enc.sub a1 h.1.1.1.2).2 (.cons (Enc.sub a2 h.1.1.2).2 (.cons (Enc.sub a3 h.1.2).2 (.cons (Enc.sub a4 h.2).2 .nil)))))
  | _=>cases h
@[simp] theorem g5e (h a g b e : PV) : is Pm (.agg [h, a, g, b, e]) = (is Str h && is Bool a && is Str g && is Str b && is (List Lin) e) := rfl
@[simp] theorem g4x (h a g b e : PV) : (dec (.agg [h, a, g, b, e]) : Pm) = ⟨dec h, dec a, ⟨dec g, dec b, dec e⟩⟩ := rfl
instance:Enc Df where
 sz:=17
 enc x:=.agg [enc x.name,enc x.line,enc x.ps,enc x.given,enc x.res.elem,enc x.res.row,enc x.res.dims,enc x.n.kind,enc x.n.line,enc x.n.name,enc x.n.num,enc x.n.elem,enc x.n.dims,enc x.n.data,enc x.n.sizes,enc x.n.ranks,enc x.ks]
 dec | .agg [a0,a1,a2,a3,a4,a5,a6,a7,a8,a9,a10,a11,a12,a13,a14,a15,a16]=>⟨dec a0,dec a1,dec a2,dec a3,⟨dec a4,dec a5,dec a6⟩,⟨dec a7,dec a8,dec a9,dec a10,dec a11,dec a12,dec a13,dec a14,dec a15⟩,dec a16⟩|_=>⟨⟨[]⟩,0,[],false,⟨⟨[]⟩,⟨[]⟩,[]⟩,⟨0,0,⟨[]⟩,0,⟨[]⟩,[],[],[],[]⟩,[]⟩
 is | .agg [a0,a1,a2,a3,a4,a5,a6,a7,a8,a9,a10,a11,a12,a13,a14,a15,a16]=>is Str a0&&is Int a1&&is (List Pm) a2&&is Bool a3&&is Str a4&&is Str a5&&is (List Lin) a6&&is Int a7&&is Int a8&&is Str a9&&is Int a10&&is Str a11&&is (List Int) a12&&is (List Int) a13&&is (List Lin) a14&&is (List Int) a15&&is (List Tm) a16|_=>false
 is_enc v:=by simp
 dec_enc v:=by simp
 sub p h:=by
  cases p with
  | agg xs=>
   match xs,h with
   | [a0,a1,a2,a3,a4,a5,a6,a7,a8,a9,a10,a11,a12,a13,a14,a15,a16],h=>
    simp only[Bool.and_eq_true]at h
    exact .agg (.cons (Enc.sub a0 h.1.1.1.1.1.1.1.1.1.1.1.1.1.1.1.1).2 (.cons (Enc.sub a1 h.1.1.1.1.1.1.1.1.1.1.1.1.1.1.1.2).2 (.cons (Enc.sub a2 h.1.1.1.1.1.1.1.1.1.1.1.1.1.1.2).2 (.cons (Enc.sub a3 h.1.1.1.1.1.1.1.1.1.1.1.1.1.2).2 (.cons (Enc.sub a4 h.1.1.1.1.1.1.1.1.1.1.1.1.2).2 (.cons (Enc.sub a5 h.1.1.1.1.1.1.1.1.1.1.1.2).2 (.cons (Enc.sub a6 h.1.1.1.1.1.1.1.1.1.1.2).2 (.cons (Enc.sub a7 h.1.1.1.1.1.1.1.1.1.2).2 (.cons (Enc.sub a8 h.1.1.1.1.1.1.1.1.2).2 (.cons (Enc.sub a9 h.1.1.1.1.1.1.1.2).2 (.cons (Enc.sub a10 h.1.1.1.1.1.1.2).2 (.cons (Enc.sub a11 h.1.1.1.1.1.2).2 (.cons (Enc.sub a12 h.1.1.1.1.2).2 (.cons (Enc.sub a13 h.1.1.1.2).2 (.cons (Enc.sub a14 h.1.1.2).2 (.cons (Enc.sub a15 h.1.2).2 (.cons (Enc.sub a16 h.2).2 .nil)))))))))))))))))
  | _=>cases h
@[simp] theorem g1d (s m y q u A k l z r j h g b e a i : PV) : is Df (.agg [s, m, y, q, u, A, k, l, z, r, j, h, g, b, e, a, i]) = (is Str s && is Int m && is (List Pm) y && is Bool q && is Str u && is Str A && is (List Lin) k && is Int l && is Int z && is Str r && is Int j && is Str h && is (List Int) g && is (List Int) b && is (List Lin) e && is (List Int) a && is (List Tm) i) := rfl
@[simp] theorem f1p (s m y q u A k l z r j h g b e a i : PV) : (dec (.agg [s, m, y, q, u, A, k, l, z, r, j, h, g, b, e, a, i]) : Df) = ⟨dec s, dec m, dec y, dec q, ⟨dec u, dec A, dec k⟩, ⟨dec l, dec z, dec r, dec j, dec h, dec g, dec b, dec e, dec a⟩, dec i⟩ := rfl
instance:Enc Mdu where
 sz:=4
 enc x:=.agg [enc x.name,enc x.im,enc x.ex,enc x.ds]
 dec | .agg [a0,a1,a2,a3]=>⟨dec a0,dec a1,dec a2,dec a3⟩|_=>⟨⟨[]⟩,[],[],[]⟩
 is | .agg [a0,a1,a2,a3]=>is Str a0&&is (List Str) a1&&is (List Str) a2&&is (List Df) a3|_=>false
 is_enc v:=by simp
 dec_enc v:=by simp
 sub p h:=by
  cases p with
  | agg xs=>
   match xs,h with
   | [a0,a1,a2,a3],h=>
    simp only[Bool.and_eq_true]at h
    exact .agg (.cons (Enc.sub a0 h.1.1.1).2 (.cons (Enc.sub a1 h.1.1.2).2 (.cons (Enc.sub a2 h.1.2).2 (.cons (Enc.sub a3 h.2).2 .nil))))
  | _=>cases h
@[simp] theorem f1d (g a e b : PV) : is Mdu (.agg [g, a, e, b]) = (is Str g && is (List Str) a && is (List Str) e && is (List Df) b) := rfl
@[simp] theorem e0q (g a e b : PV) : (dec (.agg [g, a, e, b]) : Mdu) = ⟨dec g, dec a, dec e, dec b⟩ := rfl
def Df.body(d:Df):Tm:=.mk d.n d.ks
def wTy(t:TyS):Nat:=t.elem.s.length+t.row.s.length+(t.dims.map PX).sum+1
def wPm(p:Pm):Nat:=p.name.s.length+wTy p.ty+1
def wDf(d:Df):Nat:=d.name.s.length+(d.ps.map wPm).sum+wTy d.res+KC d.body+1
def wSt(s:Str):Nat:=s.s.length+1
def wMd(m:Mdu):Nat:=m.name.s.length+(m.im.map wSt).sum+(m.ex.map wSt).sum+(m.ds.map wDf).sum+1
def yW(t:TyS):Bool:=decide (wTy t<=1048576)
def pW(p:Pm):Bool:=decide (wPm p<=1048576)
def dW(d:Df):Bool:=decide (wDf d<=1048576)
def mW(m:Mdu):Bool:=decide (wMd m<=1048576)
def P5(s:Sp):Bool:=decide (s.row.s.length<=1048576)&&decide (s.dims.length<=1048576)&&s.dims.all Xx
def evB(s:List UInt8):Bool:=match s with
 | []=>false
 | c::r=>decide (65<=c)&&decide (c<=90)&&r.all digB&&decide (r.length<=29)
def NS(s:List UInt8):Bool:=decide (s=Xb)||decide (s=YM)||evB s
def KV(row:Str)(dims:List Lin):Bool:=(decide (row.s=[])||nameB row)&&decide (dims.length<=6)&&dims.all Zg
def QZ(t:TyS):Bool:=NS t.elem.s&&KV t.row t.dims
def Q7(l:Lin):Bool:=(Va l).all fun s=>nameI s.s
def Y7(t:TyS):Bool:=QZ t&&(decide (t.elem.s=Xb)||decide (t.elem.s=YM))&&(decide (t.row.s=[])||nameI t.row.s)&&t.dims.all Q7
def Yy(b:Bool)(t:TyS):Bool:=if b then Y7 t else decide (t.elem.s=[])&&decide (t.row.s=[])&&decide (t.dims.length=0)
def Bi(p:Pm):Bool:=nameI p.name.s&&Yy p.given p.ty
def Z6(d:Df):Bool:=nameI d.name.s&&decide (d.ps.length<=8)&&Yy d.given d.res&&YK d.body&&d.ps.all Bi
def JP(row:Str)(dims:List Lin):List (List UInt8):=(if row.s=[]then []else [row.s++[46,46]])++dims.map ZC
def Qo(row:Str)(dims:List Lin):List UInt8:=[91]++Zv (JP row dims)++[93]
def PY(row:Str)(dims:List Lin):Str×Int:=if KV row dims then(⟨Qo row dims⟩,0)else(⟨[]⟩,1)
def tyT(t:TyS):List UInt8:=(if Qo t.row t.dims=[91,93]then []else Qo t.row t.dims)++t.elem.s
def KX(t:TyS):Str×Int:=if QZ t then(⟨tyT t⟩,0)else(⟨[]⟩,1)
def K5(b:Bool)(t:TyS):List UInt8:=if b then [58,32]++(KX t).1.s else []
def pmT(p:Pm):List UInt8:=p.name.s++K5 p.given p.ty
def Ku(d:Df):List UInt8:=[100,101,102,32]++d.name.s++[40]++Zv (d.ps.map pmT)++[41]++K5 d.given d.res++[32,61,32]++ZM d.body
def Hl(d:Df):Str:=⟨Ku d⟩
def Q5(w:List UInt8)(l:List Str):List (List UInt8):=if l=[]then []else [w++[32]++Zv (l.map (·.s))]
def e4a:List UInt8:=[109,111,100,117,108,101]
def Ao:List UInt8:=[105,109,112,111,114,116]
def SL:List UInt8:=[101,120,112,111,114,116]
def a9y(m:Mdu):List (List UInt8):=[e4a++[32]++m.name.s]++Q5 Ao m.im++Q5 SL m.ex++m.ds.map Ku
def Qd(l:List (List UInt8)):List UInt8:=l.flatMap fun s=>s++[10]
def f1m(m:Mdu):Str:=⟨Qd (a9y m)⟩
def V6(m:Mdu):Bool:=nameI m.name.s&&(m.im.all fun s=>nameI s.s)&&(m.ex.all fun s=>nameI s.s)&&decide (m.im.length<=20)&&decide (m.ex.length<=60)&&decide (m.ds.length<=60)
def QO(m:Mdu):Str×Int:=if V6 m&&m.ds.all Z6 then Jg (f1m m)else(⟨[]⟩,1)
def PW(p:Pm):Str:=⟨pmT p⟩
def F3:List (List UInt8)->List UInt8
 | []=>[]
 | [s]=>s
 | s::r=>s++[10]++F3 r
def nlS(l:List Str):Str:=⟨F3 (l.map (·.s))⟩
def Rt(l:List Str):Bool:=decide (l.length<=1048576)&&decide ((F3 (l.map (·.s))).length<=1099511627776)
def JN:List UInt8:=[48,49,50,51,52,53,54,55,56,57]
def RX(s:List UInt8):List UInt8:=(s.reverse.dropWhile (JN.contains ·)).reverse.dropWhile (JN.contains ·)
theorem b4t(c:UInt8):JN.contains c=digB c:=by
 have : ∀ n:Fin 256,JN.contains (UInt8.ofNat n.val)=digB (UInt8.ofNat n.val):=by decide +kernel
 have h:=this ⟨c.toNat,c.toNat_lt⟩
 simpa using h
theorem G6{α:Type}{p:α->Bool}{l:List α}:l.dropWhile p=[] ↔ ∀ x∈l,p x=true:=by
 induction l with
 | nil=>simp
 | cons a l ih=>
  rw[List.dropWhile_cons]
  cases h:p a <;> simp[h,ih]
theorem c1y(s:List UInt8):RX s=[] ↔ s.all digB=true:=by
 unfold RX
 rw[List.all_eq_true,G6]
 constructor
 ·intro h x a
  by_cases h2:s.reverse.dropWhile (JN.contains ·)=[]
  ·have:=G6.1 h2 x (by simp[a])
   rwa [b4t]at this
  ·exfalso
   have h3:=List.head_dropWhile_not (JN.contains ·) h2
   have b:=h ((s.reverse.dropWhile (JN.contains ·)).head h2) (by rw[List.mem_reverse];exact List.head_mem h2)
   rw[b]at h3
   cases h3
 ·intro h x a
  rw[List.mem_reverse]at a
  have h1:=(List.dropWhile_sublist (l:=s.reverse) (JN.contains ·)).subset a
  rw[List.mem_reverse]at h1
  rw[b4t]
  exact h x h1
theorem Bc{row:Str}{dims:List Lin}(h:KV row dims=true):(Qo row dims).length<=6100:=by
 unfold KV at h
 simp only[Bool.and_eq_true,Bool.or_eq_true,decide_eq_true_eq]at h
 have h1:=YW (JP row dims)
 have h2:((JP row dims).map fun s=>s.length+2).sum<=34+1002*dims.length:=by
  unfold JP
  rw[List.map_append,List.sum_append]
  have a:(((if row.s=[]then []else [row.s++[46,46]]):List (List UInt8)).map fun s=>s.length+2).sum<=34:=by
   by_cases hr:row.s=[]
   ·rw[if_pos hr];simp
   ·rw[if_neg hr]
    have:=Ve (h.1.1.resolve_left hr)
    simp
    omega
  have b:((dims.map ZC).map fun s=>s.length+2).sum<=1002*dims.length:=by
   rw[List.map_map]
   exact QB (f:=(fun s:List UInt8=>s.length+2) ∘ ZC) (c:=1002) (l:=dims) fun x _=>by
    have:=Wv x
    show(ZC x).length+2<=_
    omega
  omega
 unfold Qo
 rw[List.length_append,List.length_append]
 show 1+_+1<=_
 have:=h.1.2
 omega
theorem e7k{s:List UInt8}(h:evB s=true):s.length<=30:=by
 cases s with
 | nil=>simp
 | cons c r=>
  unfold evB at h
  simp only[Bool.and_eq_true,decide_eq_true_eq]at h
  rw[List.length_cons];omega
theorem e0e{s:List UInt8}(h:NS s=true):s.length<=30:=by
 unfold NS at h
 simp only[Bool.or_eq_true,decide_eq_true_eq]at h
 rcases h with (h|h)|h
 ·rw[h];decide
 ·rw[h];decide
 ·exact e7k h
theorem e3o{t:TyS}(h:QZ t=true):(tyT t).length<=6130:=by
 unfold QZ at h
 rw[Bool.and_eq_true]at h
 have h1:=e0e h.1
 have h2:=Bc h.2
 unfold tyT
 rw[List.length_append]
 split
 ·show 0+_<=_;omega
 ·omega
theorem TM(t:TyS):(KX t).1.s.length<=6130:=by
 unfold KX
 by_cases h:QZ t=true
 ·rw[if_pos h];exact e3o h
 ·rw[if_neg h];exact Nat.zero_le _
theorem PH(b:Bool)(t:TyS):(K5 b t).length<=6132:=by
 unfold K5
 have:=TM t
 split
 ·rw[List.length_append];show 2+_<=_;omega
 ·exact Nat.zero_le _
theorem b4v{p:Pm}(h:pW p=true):(pmT p).length<=1060000:=by
 have h:=of_decide_eq_true h
 unfold wPm at h
 have:=PH p.given p.ty
 unfold pmT
 rw[List.length_append];omega
theorem b5n{l:List Pm}(h:l.length<=8)(b : ∀ p∈l,pW p=true):(Zv (l.map pmT)).length<=8480016:=by
 have h1:=YW (l.map pmT)
 rw[List.map_map]at h1
 have h2:=QB (f:=(fun s:List UInt8=>s.length+2) ∘ pmT) (c:=1060002) (l:=l) fun x a=>by
  have:=b4v (b x a)
  show(pmT x).length+2<=_
  omega
 omega
structure DfB (d:Df):Prop where
 name:d.name.s.length<=1048576
 ps:d.ps.length<=1048576
 pw : ∀ p∈d.ps,pW p=true
 res:yW d.res=true
 body:tW d.body=true
theorem dfB{d:Df}(h:dW d=true):DfB d:=by
 have h:=of_decide_eq_true h
 unfold wDf at h
 have hs:=Ut (f:=wPm) (fun x=>by unfold wPm;omega) d.ps
 exact⟨by omega,by omega,fun p a=>decide_eq_true (by have:wPm p<=(d.ps.map wPm).sum:=U7 a;omega),decide_eq_true (by omega),decide_eq_true (by omega)⟩
structure MdB (m:Mdu):Prop where
 name:m.name.s.length<=1048576
 iml:m.im.length<=1048576
 exl:m.ex.length<=1048576
 dsl:m.ds.length<=1048576
 im : ∀ s∈m.im,s.s.length<=1048576
 ex : ∀ s∈m.ex,s.s.length<=1048576
 ds : ∀ d∈m.ds,dW d=true
theorem mdB{m:Mdu}(h:mW m=true):MdB m:=by
 have h:=of_decide_eq_true h
 unfold wMd at h
 have h1:=Ut (f:=wSt) (fun x=>by unfold wSt;omega) m.im
 have h2:=Ut (f:=wSt) (fun x=>by unfold wSt;omega) m.ex
 have h3:=Ut (f:=wDf) (fun x=>by unfold wDf;omega) m.ds
 refine⟨by omega,by omega,by omega,by omega,fun s hs=> ?_,fun s hs=> ?_,fun d hd=>decide_eq_true ?_⟩
 ·have:wSt s<=(m.im.map wSt).sum:=U7 hs
  have e:wSt s=s.s.length+1:=rfl
  omega
 ·have:wSt s<=(m.ex.map wSt).sum:=U7 hs
  have e:wSt s=s.s.length+1:=rfl
  omega
 ·have:wDf d<=(m.ds.map wDf).sum:=U7 hd
  omega
structure TyB (t:TyS):Prop where
 elem:t.elem.s.length<=1048576
 row:t.row.s.length<=1048576
 dims:t.dims.length<=1048576
 lin : ∀ l∈t.dims,Xx l=true
theorem tyB{t:TyS}(h:yW t=true):TyB t:=by
 have h:=of_decide_eq_true h
 unfold wTy at h
 have hs:=Ut (f:=PX) (fun x=>by unfold PX;omega) t.dims
 refine⟨by omega,by omega,by omega,fun l a=> ?_⟩
 have h3:PX l<=(t.dims.map PX).sum:=U7 a
 have h2:=Ut (f:=Ez) (fun x=>by unfold Ez;omega) l.t
 have h5:PX l=(l.t.map Ez).sum+2:=rfl
 unfold Xx XK
 rw[decide_eq_true (by omega),Bool.true_and,List.all_eq_true]
 intro c hc
 have h4:Ez c<=(l.t.map Ez).sum:=U7 hc
 have h6:Ez c=c.v.s.length+2:=rfl
 exact decide_eq_true (by omega)
theorem Az{d:Df}(h:dW d=true)(a:Z6 d=true):(Ku d).length<=1200000000:=by
 have b:=dfB h
 unfold Z6 at a
 simp only[Bool.and_eq_true,decide_eq_true_eq]at a
 have h1:=b5n a.1.1.1.2 b.pw
 have h2:=PH d.given d.res
 have h3:Z9 d.body=true:=Jq (by have:=a.1.2;unfold YK at this;rw[Bool.and_eq_true]at this;exact this.1)
 have h4:=K6 b.body h3
 have h5:=b.name
 unfold Ku
 simp only[List.length_append,List.length_cons,List.length_nil]
 omega
end Go.Pl
namespace Go.Pl
open Go.RowKit
open Enc (enc dec is)
def a2d(t:TyS):List AV:=[.pv (.str t.elem.s),.pv (.str t.row.s),.pv (.sl 2 false (t.dims.map enc))]
def FE(d:Df):List AV:=[.pv (.str d.name.s),.pv (.int .i64 d.line),.pv (.sl 5 false (d.ps.map enc)),.pv (.bool d.given),.pv (.str d.res.elem.s),.pv (.str d.res.row.s),.pv (.sl 2 false (d.res.dims.map enc)),.pv (.int .i64 d.n.kind),.pv (.int .i64 d.n.line),.pv (.str d.n.name.s),.pv (.int .i64 d.n.num),.pv (.str d.n.elem.s),.pv (.sl 1 false (d.n.dims.map enc)),.pv (.sl 1 false (d.n.data.map enc)),.pv (.sl 2 false (d.n.sizes.map enc)),.pv (.sl 1 false (d.n.ranks.map enc)),.pv (.sl 10 false (d.ks.map enc))]
def c1o(m:Mdu):List AV:=[.pv (.str m.name.s),.pv (.sl 1 false (m.im.map enc)),.pv (.sl 1 false (m.ex.map enc)),.pv (.sl 17 false (m.ds.map enc))]
end Go.Pl
namespace Go.Pl
open Go.RowKit
open Enc (enc dec is)
open EncL (encL decL isL)
set_option maxRecDepth 100000
abbrev f8h(ps:List PV)(k:Bool->Prop):Prop:=Yn (fun(x:Str×Unit)=>decide (List.length (Str.s (Prod.fst x))<=1048576)) (fun(x:Str×Unit)=>evB (Str.s (Prod.fst x))) ps k
abbrev f9w(ps:List PV)(k:Bool->Prop):Prop:=Yn (fun(x:Lin×Unit)=>XK (Prod.fst x)) (fun(x:Lin×Unit)=>Zg (Prod.fst x)) ps k
abbrev f8x(ps:List PV)(k:Bool->Prop):Prop:=ceP (fun(x:Str×Unit)=>nameB (Prod.fst x)) ps k
abbrev e9m(ps:List PV)(k:Bool->Prop):Prop:=Yn (fun(x:Sp×Unit)=>P5 (Prod.fst x)) (fun(x:Sp×Unit)=>KV (Sp.row (Prod.fst x)) (Sp.dims (Prod.fst x))) ps k
abbrev e8q(ps:List PV)(k:Str->Prop):Prop:=Yn (fun(x:Lin×Unit)=>Wu (Prod.fst x)) (fun(x:Lin×Unit)=>Str.mk (ZC (Prod.fst x))) ps k
abbrev g2l(ps:List PV)(k:Bool->Prop):Prop:=Yn (fun(x:Str×Unit)=>decide (List.length (Str.s (Prod.fst x))<=1048576)) (fun(x:Str×Unit)=>NS (Str.s (Prod.fst x))) ps k
abbrev e9h(ps:List PV)(k:Bool->Prop):Prop:=Yn (fun(x:TyS×Unit)=>yW (Prod.fst x)) (fun(x:TyS×Unit)=>QZ (Prod.fst x)) ps k
abbrev f9z(ps:List PV)(k:Str×Int->Prop):Prop:=Yn (fun(x:Sp×Unit)=>P5 (Prod.fst x)) (fun(x:Sp×Unit)=>PY (Sp.row (Prod.fst x)) (Sp.dims (Prod.fst x))) ps k
abbrev Px(ps:List PV)(k:Bool->Prop):Prop:=Yn (fun(x:Str×Unit)=>decide (List.length (Str.s (Prod.fst x))<=1048576)) (fun(x:Str×Unit)=>nameI (Str.s (Prod.fst x))) ps k
abbrev g1u(ps:List PV)(k:Bool->Prop):Prop:=Yn (fun(x:TyS×Unit)=>yW (Prod.fst x)) (fun(x:TyS×Unit)=>Y7 (Prod.fst x)) ps k
abbrev c7f(ps:List PV)(k:Bool->Prop):Prop:=Yn (fun(x:Bool×TyS×Unit)=>yW (Prod.fst (Prod.snd x))) (fun(x:Bool×TyS×Unit)=>Yy (Prod.fst x) (Prod.fst (Prod.snd x))) ps k
abbrev f2t(ps:List PV)(k:Bool->Prop):Prop:=Yn (fun(x:Tm×Unit)=>tW (Prod.fst x)) (fun(x:Tm×Unit)=>YK (Prod.fst x)) ps k
abbrev f1g(ps:List PV)(k:Str×Int->Prop):Prop:=Yn (fun(x:TyS×Unit)=>yW (Prod.fst x)) (fun(x:TyS×Unit)=>KX (Prod.fst x)) ps k
abbrev b1j(ps:List PV)(k:Str->Prop):Prop:=Yn (fun(x:TyS×Unit)=>yW (Prod.fst x)) (fun(x:TyS×Unit)=>Prod.fst (KX (Prod.fst x))) ps k
abbrev d8s(ps:List PV)(k:Str->Prop):Prop:=Yn (fun(x:Tm×Unit)=>tW (Prod.fst x)&&Z9 (Prod.fst x)) (fun(x:Tm×Unit)=>Zr (Prod.fst x)) ps k
abbrev f3d(ps:List PV)(k:Bool->Prop):Prop:=Yn (fun(x:Df×Unit)=>dW (Prod.fst x)) (fun(x:Df×Unit)=>Z6 (Prod.fst x)) ps k
abbrev f1v(ps:List PV)(k:Str->Prop):Prop:=Yn (fun(x:Df×Unit)=>dW (Prod.fst x)&&Z6 (Prod.fst x)) (fun(x:Df×Unit)=>Hl (Prod.fst x)) ps k
abbrev d2d(ps:List PV)(k:Bool->Prop):Prop:=Yn (fun(x:List Str×Unit)=>Xg (Prod.fst x)) (fun(x:List Str×Unit)=>List.all (Prod.fst x) fun(s:Str)=>nameI (Str.s s)) ps k
abbrev d6j(ps:List PV)(k:Str->Prop):Prop:=Yn (fun(x:Str×List Str×Unit)=>decide (List.length (Str.s (Prod.fst x))<=30)&&decide (Str.s (Prod.fst x)≠[])&&decide (List.length (Prod.fst (Prod.snd x))<=60)&&List.all (Prod.fst (Prod.snd x)) fun(s:Str)=>nameI (Str.s s)) (fun(x:Str×List Str×Unit)=>Str.mk (Qd (Q5 (Str.s (Prod.fst x)) (Prod.fst (Prod.snd x))))) ps k
noncomputable def Qr:IC:=YR Proofs.Tryz.f161
def QD:List IRes:=[(.tmp 2)]
abbrev d8c:Nat:=38
def K7:ZB:=Yi []
theorem b3s{G:PV->Prop}(s:List UInt8)(h:At K7 0 (Za QD G) Qr 0 38 [(0,(.pv (.str s))),(3,(.pv (.int .i64 1)))] []):Zd K7 0 (Za QD G) Qr [] (Zx 38 [.str s]):=Zd.tp (.nil) h
theorem RF{G:PV->Prop}(s:List UInt8)(i:Int)(h:if (decide (i<(↑(List.length s):Int)))=true then(decide (0<=i)&&decide (Int.toNat i<List.length s))=true∧(if (decide ((↑(UInt8.toNat (List.getD s (Int.toNat i) (0:UInt8))):Int)<48))=true then G ((.bool false))else((decide (0<=i)&&decide (Int.toNat i<List.length s))=true∧(if (decide ((↑(UInt8.toNat (List.getD s (Int.toNat i) (0:UInt8))):Int)>57))=true then G ((.bool false))else(At K7 0 (Za QD G) Qr 0 38 [(0,(.pv (.str s))),(3,(.pv (.int .i64 (IntKind.wrap IntKind.i64 (i+1)))))] []))))else(if (decide ((↑(List.length s):Int) ≥ 1))=true then if (decide ((↑(List.length s):Int)<=30))=true then(decide (0<=0)&&decide (Int.toNat 0<List.length s))=true∧(if (decide ((↑(UInt8.toNat (List.getD s (Int.toNat 0) (0:UInt8))):Int) ≥ 65))=true then(decide (0<=0)&&decide (Int.toNat 0<List.length s))=true∧(G ((.bool (decide ((↑(UInt8.toNat (List.getD s (Int.toNat 0) (0:UInt8))):Int)<=90)))))else(G ((.bool false))))else(G ((.bool false)))else(G ((.bool false))))):At K7 0 (Za QD G) Qr 0 38 [(0,.pv (.str s)),(3,.pv (.int .i64 i))] []:=At.tp (dm [] 83 0x222222222220222222202220222120064222120134222202342020001422212202222200642101942) h
noncomputable def a0b:IC:=YR Proofs.Tryz.f137
def EO:List IRes:=[(.tmp 2)]
abbrev d6l:Nat:=13
def b7j:ZB:=Yi [(161,.pure (preT (fun x:Str×Unit=>decide (x.1.s.length<=1048576))) (Zi (fun x:Str×Unit=>evB x.1.s)))]
theorem e6l{G:PV->Prop}(s:List UInt8)(h:if (s==[(105:UInt8),(110:UInt8),(116:UInt8)])=true then G ((.bool true))else(if (s==[(98:UInt8),(111:UInt8),(111:UInt8),(108:UInt8)])=true then G ((.bool true))else((f8h [(.str s)] fun a=>(G ((.bool a))))))):Zd b7j 0 (Za EO G) a0b [] (Zx 13 [.str s]):=Zd.tp (dm [dv Bool] 27 0x2512022003422202222200642) h
noncomputable def KH:IC:=YR Proofs.Tryz.f138
def KT:List IRes:=[(.tmp 2)]
abbrev c8n:Nat:=32
def GL:ZB:=Yi [(112,.pure (preT (fun x:Lin×Unit=>XK x.1)) (Zi (fun x:Lin×Unit=>Zg x.1))),(141,.pure (preT (fun _:Str×Unit=>true)) (Zi (fun x:Str×Unit=>nameB x.1)))]
theorem e7f{G:PV->Prop}(r:Str)(l:List Lin)(h:At GL 0 (Za KT G) KH 0 32 [(1,(.ptr 0 0)),(3,(.pv (.int .i64 0)))] [(.obj (.box [(.pv (.str (Str.s r))),(.pv (.sl 2 false (List.map enc l)))]))]):Zd GL 0 (Za KT G) KH [] (Zx 32 [.agg [enc r,enc l]]):=Zd.tp (.nil) h
theorem a4h{G:PV->Prop}(r:Str)(l:List Lin)(i:Int)(h:if (Al l i)=true then(Xv l i 2 fun a=>((f9w [(enc a)] fun e=>(if (!e)=true then G ((.bool false))else(At GL 0 (Za KT G) KH 0 32 [(1,(.ptr 0 0)),(3,(.pv (.int .i64 (IntKind.wrap IntKind.i64 (i+1)))))] [(.obj (.box [(.pv (.str (Str.s r))),(.pv (.sl 2 false (List.map enc l)))]))])))))else(if (decide ((↑(List.length (List.map enc l)):Int)<=6))=true then if (Str.s r==[])=true then G ((.bool true))else(f8x [(.str (Str.s r))] fun b=>(G ((.bool b))))else(G ((.bool false))))):At GL 0 (Za KT G) KH 0 32 [(1,.ptr 0 0),(3,.pv (.int .i64 i))] [.obj (.box [.pv (enc r),.pv (enc l)])]:=At.tp (dm [dr Lin,dv Bool] 51 0x2222202226222022222006422220164202000146125100c42) h
noncomputable def UI:IC:=YR Proofs.Tryz.f108
def VN:List IRes:=[(.tmp 2),(.tmp 3)]
abbrev d6z:Nat:=37
def Qf:ZB:=Yi [(138,.pure (preT (fun x:Sp×Unit=>P5 x.1)) (Zi (fun x:Sp×Unit=>KV x.1.row x.1.dims))),(79,.pure (preT (fun x:Lin×Unit=>Wu x.1)) (Zi (fun x:Lin×Unit=>(⟨ZC x.1⟩:Str))))]
theorem e4u{G:PV->Prop}(r:Str)(l:List Lin)(h:(e9m [(enc (Sp.mk r l))] fun a=>(if (!a)=true then G ((.tup [(.str []),(.int .i64 1)]))else(if (!Str.s r==[])=true then ZA (Str.s r) [(46:UInt8),(46:UInt8)]∧(At Qf 0 (Za VN G) UI 0 37 [(1,(.ptr 0 0)),(4,(.pv (.str (Str.s r++[(46:UInt8),(46:UInt8)])))),(5,(.pv (.int .i64 0)))] [(.obj (.box [(.pv (.str (Str.s r))),(.pv (.sl 2 false (List.map enc l)))]))])else(At Qf 0 (Za VN G) UI 0 37 [(1,(.ptr 0 0)),(4,(.pv (.str []))),(5,(.pv (.int .i64 0)))] [(.obj (.box [(.pv (.str (Str.s r))),(.pv (.sl 2 false (List.map enc l)))]))]))))):Zd Qf 0 (Za VN G) UI [] (Zx 37 [.agg [enc r,enc l]]):=Zd.tp (dm [dv Bool] 16 0x1002420001451) h
theorem a0j{G:PV->Prop}(r:Str)(l:List Lin)(o:List UInt8)(i:Int)(h:if (Al l i)=true then if (!o==[])=true then ZA o [(44:UInt8),(32:UInt8)]∧((Xv l i 2 fun e=>((e8q [(enc e)] fun b=>(ZA (o++[(44:UInt8),(32:UInt8)]) (Str.s b)∧(At Qf 0 (Za VN G) UI 0 37 [(1,(.ptr 0 0)),(4,(.pv (.str (o++[(44:UInt8),(32:UInt8)]++Str.s b)))),(5,(.pv (.int .i64 (IntKind.wrap IntKind.i64 (i+1)))))] [(.obj (.box [(.pv (.str (Str.s r))),(.pv (.sl 2 false (List.map enc l)))]))]))))))else((Xv l i 2 fun g=>((e8q [(enc g)] fun a=>(ZA o (Str.s a)∧(At Qf 0 (Za VN G) UI 0 37 [(1,(.ptr 0 0)),(4,(.pv (.str (o++Str.s a)))),(5,(.pv (.int .i64 (IntKind.wrap IntKind.i64 (i+1)))))] [(.obj (.box [(.pv (.str (Str.s r))),(.pv (.sl 2 false (List.map enc l)))]))]))))))else(ZA [(91:UInt8)] o∧(ZA ([(91:UInt8)]++o) [(93:UInt8)]∧(G ((.tup [(.str ([(91:UInt8)]++o++[(93:UInt8)])),(.int .i64 0)])))))):At Qf 0 (Za VN G) UI 0 37 [(1,.ptr 0 0),(4,.pv (.str o)),(5,.pv (.int .i64 i))] [.obj (.box [.pv (enc r),.pv (enc l)])]:=At.tp (dm [dr Lin,dv Str] 31 0x11021612510216125110094201642) h
noncomputable def a4j:IC:=YR Proofs.Tryz.f105
def a4b:List IRes:=[(.tmp 2)]
abbrev d9l:Nat:=11
def b5i:ZB:=Yi [(137,.pure (preT (fun x:Str×Unit=>decide (x.1.s.length<=1048576))) (Zi (fun x:Str×Unit=>NS x.1.s))),(138,.pure (preT (fun x:Sp×Unit=>P5 x.1)) (Zi (fun x:Sp×Unit=>KV x.1.row x.1.dims)))]
theorem e5a{G:PV->Prop}(t:TyS)(h:(g2l [(.str (Str.s (TyS.elem t)))] fun a=>(if (a)=true then(e9m [(enc (Sp.mk (TyS.row t) (TyS.dims t)))] fun b=>(G ((.bool b))))else(G ((.bool false)))))):Zd b5i 0 (Za a4b G) a4j [] (Zx 11 [.agg [enc t.elem,enc t.row,enc t.dims]]):=Zd.tp (dm [dv Bool] 17 0x222025122006451) h
noncomputable def EJ:IC:=YR Proofs.Tryz.f72
def PM:List IRes:=[(.tmp 2),(.tmp 3)]
abbrev d8i:Nat:=21
def FU:ZB:=Yi [(105,.pure (preT (fun x:TyS×Unit=>yW x.1)) (Zi (fun x:TyS×Unit=>QZ x.1))),(108,.pure (preT (fun x:Sp×Unit=>P5 x.1)) (Zi (fun x:Sp×Unit=>PY x.1.row x.1.dims)))]
theorem e3h{G:PV->Prop}(t:TyS)(h:(e9h [(enc t)] fun b=>(if (!b)=true then G ((.tup [(.str []),(.int .i64 1)]))else((f9z [(enc (Sp.mk (TyS.row t) (TyS.dims t)))] fun a=>(if (Str.s a.1==[(91:UInt8),(93:UInt8)])=true then ZA ([]:List UInt8) (Str.s (TyS.elem t))∧(G ((.tup [(.str (([]:List UInt8)++Str.s (TyS.elem t))),(.int .i64 0)])))else(ZA (Str.s a.1) (Str.s (TyS.elem t))∧(G ((.tup [(.str (Str.s a.1++Str.s (TyS.elem t))),(.int .i64 0)])))))))))):Zd FU 0 (Za PM G) EJ [] (Zx 21 [.agg [enc t.elem,enc t.row,enc t.dims]]):=Zd.tp (dm [dv Bool,dv (Str×Int)] 19 0x10100242610001451) h
noncomputable def XA:IC:=YR Proofs.Tryz.f69
def Xi:List IRes:=[(.tmp 2)]
abbrev b9h:Nat:=64
def XW:ZB:=Yi [(105,.pure (preT (fun x:TyS×Unit=>yW x.1)) (Zi (fun x:TyS×Unit=>QZ x.1))),(20,.pure (preT (fun x:Str×Unit=>decide (x.1.s.length<=1048576))) (Zi (fun x:Str×Unit=>nameI x.1.s)))]
abbrev O7(a:PV->Prop)(XV:TyS):Prop:=(At XW 0 (Za Xi a) XA 0 64 [(1,(.ptr 0 0)),(3,(.pv (.int .i64 0)))] [(.obj (.box (a2d XV)))])
theorem d9h{G:PV->Prop}(t:TyS)(h:(e9h [(enc t)] fun b=>(if (!b)=true then G ((.bool false))else(if (!Str.s (TyS.elem t)==[(105:UInt8),(110:UInt8),(116:UInt8)])=true then if (!Str.s (TyS.elem t)==[(98:UInt8),(111:UInt8),(111:UInt8),(108:UInt8)])=true then G ((.bool false))else(if (!Str.s (TyS.row t)==[])=true then(Px [(.str (Str.s (TyS.row t)))] fun e=>(if (!e)=true then G ((.bool false))else(O7 G t)))else(O7 G t))else(if (!Str.s (TyS.row t)==[])=true then(Px [(.str (Str.s (TyS.row t)))] fun a=>(if (!a)=true then G ((.bool false))else(O7 G t)))else(O7 G t)))))):Zd XW 0 (Za Xi G) XA [] (Zx 64 [.agg [enc t.elem,enc t.row,enc t.dims]]):=Zd.tp (dm [dv Bool] 119 0x2222222200001422225122200f42222222222202222222200001422225122200f422222022222220084222222033422220222222222222200e451) h
theorem Mf{G:PV->Prop}(t:TyS)(i k:Int)(h:(Xv (TyS.dims t) i 2 fun e=>(if (decide (k<(↑(List.length (PV.asXs (List.getD (List.drop 1 (PV.cells (enc e))) 0 default))):Int)))=true then(Xv (TyS.dims t) i 2 fun a=>((decide (0<=k)&&decide (Int.toNat k<List.length (PV.asXs (List.getD (List.drop 1 (PV.cells (enc a))) 0 default)))&&2==2)=true∧((decide (0+List.length [Sh.str]<=List.length (List.drop 0 (PV.cells (List.getD (PV.asXs (List.getD (List.drop 1 (PV.cells (enc a))) 0 default)) (Int.toNat k) default))))&&YV (List.drop 0 (PV.cells (List.getD (PV.asXs (List.getD (List.drop 1 (PV.cells (enc a))) 0 default)) (Int.toNat k) default))) 0 [Sh.str])=true∧((Px [(.str (PV.asStr (List.getD (List.drop 0 (PV.cells (List.getD (PV.asXs (List.getD (List.drop 1 (PV.cells (enc a))) 0 default)) (Int.toNat k) default))) 0 default)))] fun b=>(if (!b)=true then G ((.bool false))else(At XW 0 (Za Xi G) XA 1 64 [(1,(.ptr 0 0)),(3,(.pv (.int .i64 i))),(4,(.pv (.int .i64 (IntKind.wrap IntKind.i64 (k+1)))))] [(.obj (.box (a2d t)))])))))))else(At XW 0 (Za Xi G) XA 0 64 [(1,(.ptr 0 0)),(3,(.pv (.int .i64 (IntKind.wrap IntKind.i64 (i+1)))))] [(.obj (.box (a2d t)))])))):At XW 0 (Za Xi G) XA 1 64 [(1,.ptr 0 0),(3,.pv (.int .i64 i)),(4,.pv (.int .i64 k))] [.obj (.box [.pv (enc t.elem),.pv (enc t.row),.pv (enc t.dims)])]:=At.tp (dm [dr Lin,dv Bool] 26 0x202000146113125100f42251) h
theorem Nz{G:PV->Prop}(t:TyS)(i:Int)(h:if (Al (TyS.dims t) i)=true then At XW 0 (Za Xi G) XA 1 64 [(1,(.ptr 0 0)),(3,(.pv (.int .i64 i))),(4,(.pv (.int .i64 0)))] [(.obj (.box (a2d t)))]else(G ((.bool true)))):At XW 0 (Za Xi G) XA 0 64 [(1,.ptr 0 0),(3,.pv (.int .i64 i))] [.obj (.box [.pv (enc t.elem),.pv (enc t.row),.pv (enc t.dims)])]:=At.tp (dm [] 8 0x142) h
noncomputable def MB:IC:=YR Proofs.Tryz.f43
def M4:List IRes:=[(.tmp 4)]
abbrev b8q:Nat:=24
def a3o:ZB:=Yi [(69,.pure (preT (fun x:TyS×Unit=>yW x.1)) (Zi (fun x:TyS×Unit=>Y7 x.1)))]
theorem c7j{G:PV->Prop}(b:Bool)(t:TyS)(h:if (b)=true then(g1u [(enc t)] fun a=>(G ((.bool a))))else(if (Str.s (TyS.elem t)==[])=true then if (Str.s (TyS.row t)==[])=true then G ((.bool ((↑(List.length (List.map enc (TyS.dims t))):Int)==0)))else(G ((.bool false)))else(G ((.bool false))))):Zd a3o 0 (Za M4 G) MB [] (Zx 24 [.bool b,.agg [enc t.elem,enc t.row,enc t.dims]]):=Zd.tp (dm [dv Bool] 46 0x22222222220222220222222007422222016420510034) h
noncomputable def KM:IC:=YR Proofs.Tryz.f23
def KS:List IRes:=[(.tmp 2)]
abbrev c9u:Nat:=56
def Gp:ZB:=Yi [(20,.pure (preT (fun x:Str×Unit=>decide (x.1.s.length<=1048576))) (Zi (fun x:Str×Unit=>nameI x.1.s))),(43,.pure (preT (fun x:Bool×TyS×Unit=>yW x.2.1)) (Zi (fun x:Bool×TyS×Unit=>Yy x.1 x.2.1))),(44,.pure (preT (fun x:Tm×Unit=>tW x.1)) (Zi (fun x:Tm×Unit=>YK x.1)))]
theorem e3k{G:PV->Prop}(d:Df)(h:At Gp 0 (Za KS G) KM 0 56 [(1,(.ptr 0 0)),(3,(.pv (.int .i64 0)))] [(.obj (.box (FE d)))]):Zd Gp 0 (Za KS G) KM [] (Zx 56 [.agg [enc d.name,enc d.line,enc d.ps,enc d.given,enc d.res.elem,enc d.res.row,enc d.res.dims,enc d.n.kind,enc d.n.line,enc d.n.name,enc d.n.num,enc d.n.elem,enc d.n.dims,enc d.n.data,enc d.n.sizes,enc d.n.ranks,enc d.ks]]):=Zd.tp (.nil) h
theorem EY{G:PV->Prop}(d:Df)(i:Int)(h:if (Al (Df.ps d) i)=true then(Xv (Df.ps d) i 5 fun a=>((Px [(.str (Str.s (Pm.name a)))] fun m=>(if (!m)=true then G ((.bool false))else((Xv (Df.ps d) i 5 fun k=>((Xv (Df.ps d) i 5 fun j=>((c7f [(.bool (Pm.given k)),(enc (Pm.ty j))] fun b=>(if (!b)=true then G ((.bool false))else(At Gp 0 (Za KS G) KM 0 56 [(1,(.ptr 0 0)),(3,(.pv (.int .i64 (IntKind.wrap IntKind.i64 (i+1)))))] [(.obj (.box (FE d)))]))))))))))))else((Px [(.str (Str.s (Df.name d)))] fun g=>(if (g)=true then if (decide ((↑(List.length (List.map enc (Df.ps d))):Int)<=8))=true then(c7f [(.bool (Df.given d)),(enc (Df.res d))] fun l=>(if (l)=true then(f2t (CO (Df.n d) (Df.ks d)) fun e=>(G ((.bool e))))else(G ((.bool false)))))else(G ((.bool false)))else(G ((.bool false))))))):At Gp 0 (Za KS G) KM 0 56 [(1,.ptr 0 0),(3,.pv (.int .i64 i))] [.obj (.box [.pv (enc d.name),.pv (enc d.line),.pv (enc d.ps),.pv (enc d.given),.pv (enc d.res.elem),.pv (enc d.res.row),.pv (enc d.res.dims),.pv (enc d.n.kind),.pv (enc d.n.line),.pv (enc d.n.name),.pv (enc d.n.num),.pv (enc d.n.elem),.pv (enc d.n.dims),.pv (enc d.n.data),.pv (enc d.n.sizes),.pv (enc d.n.ranks),.pv (enc d.ks)])]:=At.tp (dm [dr Pm,dv Bool] 121 0x22222222222222022222222202220261220064261222201542222202846102000142261222251222222251222022222222222222201046125103642) h
noncomputable def d6u:IC:=YR Proofs.Tryz.f45
def d2n:List IRes:=[(.tmp 2)]
abbrev f4c:Nat:=11
def e9i:ZB:=Yi [(72,.pure (preT (fun x:TyS×Unit=>yW x.1)) (Zi (fun x:TyS×Unit=>KX x.1)))]
theorem f8j{G:PV->Prop}(t:TyS)(h:(f1g [(enc t)] fun a=>(G ((.str (Str.s a.1)))))):Zd e9i 0 (Za d2n G) d6u [] (Zx 11 [.agg [enc t.elem,enc t.row,enc t.dims]]):=Zd.tp (.req (FV (Str×Int) (.nil))) h
noncomputable def Qa:IC:=YR Proofs.Tryz.f24
def U4:List IRes:=[(.tmp 2)]
abbrev e3d:Nat:=60
def Jh:ZB:=Yi [(45,.pure (preT (fun x:TyS×Unit=>yW x.1)) (Zi (fun x:TyS×Unit=>(KX x.1).1))),(46,.pure (preT (fun x:Tm×Unit=>tW x.1&&Z9 x.1)) (Zi (fun x:Tm×Unit=>Zr x.1)))]
theorem f5u{G:PV->Prop}(d:Df)(h:ZA [(100:UInt8),(101:UInt8),(102:UInt8),(32:UInt8)] (Str.s (Df.name d))∧(ZA ([(100:UInt8),(101:UInt8),(102:UInt8),(32:UInt8)]++Str.s (Df.name d)) [(40:UInt8)]∧(At Jh 0 (Za U4 G) Qa 0 60 [(1,(.ptr 0 0)),(3,(.pv (.str ([(100:UInt8),(101:UInt8),(102:UInt8),(32:UInt8)]++Str.s (Df.name d)++[(40:UInt8)])))),(4,(.pv (.int .i64 0)))] [(.obj (.box (FE d)))]))):Zd Jh 0 (Za U4 G) Qa [] (Zx 60 [.agg [enc d.name,enc d.line,enc d.ps,enc d.given,enc d.res.elem,enc d.res.row,enc d.res.dims,enc d.n.kind,enc d.n.line,enc d.n.name,enc d.n.num,enc d.n.elem,enc d.n.dims,enc d.n.data,enc d.n.sizes,enc d.n.ranks,enc d.ks]]):=Zd.tp (.req (.req (.nil))) h
theorem b5z{G:PV->Prop}(d:Df)(o:List UInt8)(i:Int)(h:if (Al (Df.ps d) i)=true then if (decide (i>0))=true then ZA o [(44:UInt8),(32:UInt8)]∧((Xv (Df.ps d) i 5 fun e=>(ZA (o++[(44:UInt8),(32:UInt8)]) (Str.s (Pm.name e))∧((Xv (Df.ps d) i 5 fun u=>(if (Pm.given u)=true then(Xv (Df.ps d) i 5 fun q=>((b1j [(enc (Pm.ty q))] fun k=>(ZA [(58:UInt8),(32:UInt8)] (Str.s k)∧(ZA (o++[(44:UInt8),(32:UInt8)]++Str.s (Pm.name e)) ([(58:UInt8),(32:UInt8)]++Str.s k)∧(At Jh 0 (Za U4 G) Qa 0 60 [(1,(.ptr 0 0)),(3,(.pv (.str (o++[(44:UInt8),(32:UInt8)]++Str.s (Pm.name e)++([(58:UInt8),(32:UInt8)]++Str.s k))))),(4,(.pv (.int .i64 (IntKind.wrap IntKind.i64 (i+1)))))] [(.obj (.box (FE d)))]))))))else(At Jh 0 (Za U4 G) Qa 0 60 [(1,(.ptr 0 0)),(3,(.pv (.str (o++[(44:UInt8),(32:UInt8)]++Str.s (Pm.name e))))),(4,(.pv (.int .i64 (IntKind.wrap IntKind.i64 (i+1)))))] [(.obj (.box (FE d)))])))))))else((Xv (Df.ps d) i 5 fun g=>(ZA o (Str.s (Pm.name g))∧((Xv (Df.ps d) i 5 fun m=>(if (Pm.given m)=true then(Xv (Df.ps d) i 5 fun r=>((b1j [(enc (Pm.ty r))] fun j=>(ZA [(58:UInt8),(32:UInt8)] (Str.s j)∧(ZA (o++Str.s (Pm.name g)) ([(58:UInt8),(32:UInt8)]++Str.s j)∧(At Jh 0 (Za U4 G) Qa 0 60 [(1,(.ptr 0 0)),(3,(.pv (.str (o++Str.s (Pm.name g)++([(58:UInt8),(32:UInt8)]++Str.s j))))),(4,(.pv (.int .i64 (IntKind.wrap IntKind.i64 (i+1)))))] [(.obj (.box (FE d)))]))))))else(At Jh 0 (Za U4 G) Qa 0 60 [(1,(.ptr 0 0)),(3,(.pv (.str (o++Str.s (Pm.name g))))),(4,(.pv (.int .i64 (IntKind.wrap IntKind.i64 (i+1)))))] [(.obj (.box (FE d)))])))))))else(ZA o [(41:UInt8)]∧(if (Df.given d)=true then(b1j [(enc (Df.res d))] fun a=>(ZA [(58:UInt8),(32:UInt8)] (Str.s a)∧(ZA (o++[(41:UInt8)]) ([(58:UInt8),(32:UInt8)]++Str.s a)∧(ZA (o++[(41:UInt8)]++([(58:UInt8),(32:UInt8)]++Str.s a)) [(32:UInt8),(61:UInt8),(32:UInt8)]∧((d8s (CO (Df.n d) (Df.ks d)) fun l=>(ZA (o++[(41:UInt8)]++([(58:UInt8),(32:UInt8)]++Str.s a)++[(32:UInt8),(61:UInt8),(32:UInt8)]) (Str.s l)∧(G ((.str (o++[(41:UInt8)]++([(58:UInt8),(32:UInt8)]++Str.s a)++[(32:UInt8),(61:UInt8),(32:UInt8)]++Str.s l)))))))))))else(ZA (o++[(41:UInt8)]) [(32:UInt8),(61:UInt8),(32:UInt8)]∧((d8s (CO (Df.n d) (Df.ks d)) fun b=>(ZA (o++[(41:UInt8)]++[(32:UInt8),(61:UInt8),(32:UInt8)]) (Str.s b)∧(G ((.str (o++[(41:UInt8)]++[(32:UInt8),(61:UInt8),(32:UInt8)]++Str.s b))))))))))):At Jh 0 (Za U4 G) Qa 0 60 [(1,.ptr 0 0),(3,.pv (.str o)),(4,.pv (.int .i64 i))] [.obj (.box [.pv (enc d.name),.pv (enc d.line),.pv (enc d.ps),.pv (enc d.given),.pv (enc d.res.elem),.pv (enc d.res.row),.pv (enc d.res.dims),.pv (enc d.n.kind),.pv (enc d.n.line),.pv (enc d.n.name),.pv (enc d.n.num),.pv (enc d.n.elem),.pv (enc d.n.dims),.pv (enc d.n.data),.pv (enc d.n.sizes),.pv (enc d.n.ranks),.pv (enc d.ks)])]:=At.tp (dm [dr Pm,dv Str] 75 0x1611016111161009410202116125100942511251020211612510094251125110174203242) h
noncomputable def VA:IC:=YR Proofs.Tryz.f22
def Vw:List IRes:=[(.tmp 4)]
abbrev c3g:Nat:=34
def UT:ZB:=Yi []
abbrev b2c(a:List Str):Nat×AV:=(1,(.pv (.sl 1 false (List.map enc a))))
theorem d4n{G:PV->Prop}(w:List UInt8)(l:List Str)(h:At UT 0 (Za Vw G) VA 0 34 [(0,(.pv (.str w))),(b2c l),(5,(.pv (.str []))),(6,(.pv (.int .i64 0)))] []):Zd UT 0 (Za Vw G) VA [] (Zx 34 [.str w,enc l]):=Zd.tp (.nil) h
theorem Gg{G:PV->Prop}(w:List UInt8)(l:List Str)(o:List UInt8)(i:Int)(h:if (Al l i)=true then if (i==0)=true then ZA w [(32:UInt8)]∧((Xv l i 1 fun b=>(ZA (w++[(32:UInt8)]) (Str.s b)∧(At UT 0 (Za Vw G) VA 0 34 [(0,(.pv (.str w))),(b2c l),(5,(.pv (.str (w++[(32:UInt8)]++Str.s b)))),(6,(.pv (.int .i64 (IntKind.wrap IntKind.i64 (i+1)))))] []))))else((Xv l i 1 fun a=>(ZA [(44:UInt8),(32:UInt8)] (Str.s a)∧(ZA o ([(44:UInt8),(32:UInt8)]++Str.s a)∧(At UT 0 (Za Vw G) VA 0 34 [(0,(.pv (.str w))),(b2c l),(5,(.pv (.str (o++([(44:UInt8),(32:UInt8)]++Str.s a))))),(6,(.pv (.int .i64 (IntKind.wrap IntKind.i64 (i+1)))))] [])))))else(if (!o==[])=true then ZA o [(10:UInt8)]∧(G ((.str (o++[(10:UInt8)]))))else(G ((.str o))))):At UT 0 (Za Vw G) VA 0 34 [(0,.pv (.str w)),(1,.pv (enc l)),(5,.pv (.str o)),(6,.pv (.int .i64 i))] []:=At.tp (dm [dr Str] 33 0x100242021125102125110074201342) h
noncomputable def Qg:IC:=YR Proofs.Tryz.f21
def Qh:List IRes:=[(.tmp 2)]
abbrev b7u:Nat:=16
def Kl:ZB:=Yi [(20,.pure (preT (fun x:Str×Unit=>decide (x.1.s.length<=1048576))) (Zi (fun x:Str×Unit=>nameI x.1.s)))]
theorem c4i{G:PV->Prop}(l:List Str)(h:At Kl 0 (Za Qh G) Qg 0 16 [(0,(.pv (.sl 1 false (List.map enc l)))),(3,(.pv (.int .i64 0)))] []):Zd Kl 0 (Za Qh G) Qg [] (Zx 16 [enc l]):=Zd.tp (.nil) h
theorem NB{G:PV->Prop}(l:List Str)(i:Int)(h:if (Al l i)=true then(Xv l i 1 fun a=>((Px [(.str (Str.s a))] fun b=>(if (!b)=true then G ((.bool false))else(At Kl 0 (Za Qh G) Qg 0 16 [(0,(.pv (.sl 1 false (List.map enc l)))),(3,(.pv (.int .i64 (IntKind.wrap IntKind.i64 (i+1)))))] [])))))else(G ((.bool true)))):At Kl 0 (Za Qh G) Qg 0 16 [(0,.pv (enc l)),(3,.pv (.int .i64 i))] []:=At.tp (dm [dr Str,dv Bool] 19 0x2000146125100c42) h
noncomputable def Ux:IC:=YR Proofs.Tryz.f8
def VV:List IRes:=[(.tmp 2),(.tmp 3)]
abbrev e1g:Nat:=87
def QE:ZB:=Yi [(20,.pure (preT (fun x:Str×Unit=>decide (x.1.s.length<=1048576))) (Zi (fun x:Str×Unit=>nameI x.1.s))),(21,.pure (preT (fun x:List Str×Unit=>Xg x.1)) (Zi (fun x:List Str×Unit=>x.1.all fun s:Str=>nameI s.s))),(22,.pure (preT (fun x:Str×List Str×Unit=>decide (x.1.s.length<=30)&&decide (x.1.s≠[])&&decide (x.2.1.length<=60)&&x.2.1.all fun s:Str=>nameI s.s)) (Zi (fun x:Str×List Str×Unit=>(⟨Qd (Q5 x.1.s x.2.1)⟩:Str)))),(23,.pure (preT (fun x:Df×Unit=>dW x.1)) (Zi (fun x:Df×Unit=>Z6 x.1))),(24,.pure (preT (fun x:Df×Unit=>dW x.1&&Z6 x.1)) (Zi (fun x:Df×Unit=>Hl x.1)))]
theorem f0n{G:PV->Prop}(m:Mdu)(h:(Px [(.str (Str.s (Mdu.name m)))] fun g=>(if (!g)=true then G ((.tup [(.str []),(.int .i64 1)]))else((d2d [(.sl 1 false (List.map enc (Mdu.im m)))] fun i=>(if (!i)=true then G ((.tup [(.str []),(.int .i64 1)]))else((d2d [(.sl 1 false (List.map enc (Mdu.ex m)))] fun e=>(if (!e)=true then G ((.tup [(.str []),(.int .i64 1)]))else(if (decide ((↑(List.length (List.map enc (Mdu.im m))):Int)>20))=true then G ((.tup [(.str []),(.int .i64 1)]))else(if (decide ((↑(List.length (List.map enc (Mdu.ex m))):Int)>60))=true then G ((.tup [(.str []),(.int .i64 1)]))else(if (decide ((↑(List.length (List.map enc (Mdu.ds m))):Int)>60))=true then G ((.tup [(.str []),(.int .i64 1)]))else(ZA [(109:UInt8),(111:UInt8),(100:UInt8),(117:UInt8),(108:UInt8),(101:UInt8),(32:UInt8)] (Str.s (Mdu.name m))∧(ZA ([(109:UInt8),(111:UInt8),(100:UInt8),(117:UInt8),(108:UInt8),(101:UInt8),(32:UInt8)]++Str.s (Mdu.name m)) [(10:UInt8)]∧((d6j [(.str [(105:UInt8),(109:UInt8),(112:UInt8),(111:UInt8),(114:UInt8),(116:UInt8)]),(.sl 1 false (List.map enc (Mdu.im m)))] fun a=>(ZA ([(109:UInt8),(111:UInt8),(100:UInt8),(117:UInt8),(108:UInt8),(101:UInt8),(32:UInt8)]++Str.s (Mdu.name m)++[(10:UInt8)]) (Str.s a)∧((d6j [(.str [(101:UInt8),(120:UInt8),(112:UInt8),(111:UInt8),(114:UInt8),(116:UInt8)]),(.sl 1 false (List.map enc (Mdu.ex m)))] fun b=>(ZA ([(109:UInt8),(111:UInt8),(100:UInt8),(117:UInt8),(108:UInt8),(101:UInt8),(32:UInt8)]++Str.s (Mdu.name m)++[(10:UInt8)]++Str.s a) (Str.s b)∧(At QE 0 (Za VV G) Ux 0 87 [(1,(.ptr 0 0)),(4,(.pv (.str ([(109:UInt8),(111:UInt8),(100:UInt8),(117:UInt8),(108:UInt8),(101:UInt8),(32:UInt8)]++Str.s (Mdu.name m)++[(10:UInt8)]++Str.s a++Str.s b)))),(5,(.pv (.int .i64 0)))] [(.obj (.box (c1o m)))]))))))))))))))))))))):Zd QE 0 (Za VV G) Ux [] (Zx 87 [.agg [enc m.name,enc m.im,enc m.ex,enc m.ds]]):=Zd.tp (dm [dv Bool,dv Str] 144 0x1611611100014222220222220064222220222222222200b4222220222222222222222010422512202222222222222222222201542251220222222222222222222222222201a451) h
theorem b5h{G:PV->Prop}(m:Mdu)(o:List UInt8)(i:Int)(h:if (Al (Mdu.ds m) i)=true then(Xv (Mdu.ds m) i 17 fun b=>((f1v [(enc b)] fun a=>(ZA (Str.s a) [(10:UInt8)]∧(ZA o (Str.s a++[(10:UInt8)])∧(At QE 0 (Za VV G) Ux 1 87 [(1,(.ptr 0 0)),(4,(.pv (.str (o++(Str.s a++[(10:UInt8)]))))),(6,(.pv (.int .i64 (IntKind.wrap IntKind.i64 (i+1)))))] [(.obj (.box (c1o m)))]))))))else(if (decide ((↑(List.length o):Int)>20000))=true then G ((.tup [(.str []),(.int .i64 3)]))else(G ((.tup [(.str o),(.int .i64 0)]))))):At QE 0 (Za VV G) Ux 1 87 [(1,.ptr 0 0),(4,.pv (.str o)),(6,.pv (.int .i64 i))] [.obj (.box [.pv (enc m.name),.pv (enc m.im),.pv (enc m.ex),.pv (enc m.ds)])]:=At.tp (dm [dr Df,dv Str] 22 0x14202116125100942) h
theorem b5g{G:PV->Prop}(m:Mdu)(o:List UInt8)(i:Int)(h:if (Al (Mdu.ds m) i)=true then(Xv (Mdu.ds m) i 17 fun a=>((f3d [(enc a)] fun b=>(if (!b)=true then G ((.tup [(.str []),(.int .i64 1)]))else(At QE 0 (Za VV G) Ux 0 87 [(1,(.ptr 0 0)),(4,(.pv (.str o))),(5,(.pv (.int .i64 (IntKind.wrap IntKind.i64 (i+1)))))] [(.obj (.box (c1o m)))])))))else(At QE 0 (Za VV G) Ux 1 87 [(1,(.ptr 0 0)),(4,(.pv (.str o))),(6,(.pv (.int .i64 0)))] [(.obj (.box (c1o m)))])):At QE 0 (Za VV G) Ux 0 87 [(1,.ptr 0 0),(4,.pv (.str o)),(5,.pv (.int .i64 i))] [.obj (.box [.pv (enc m.name),.pv (enc m.im),.pv (enc m.ex),.pv (enc m.ds)])]:=At.tp (dm [dr Df,dv Bool] 19 0x2000146125100c42) h
end Go.Pl
namespace Go.Pl
open Go.RowKit
open Enc (enc dec is)
open EncL (encL decL isL)
set_option maxRecDepth 100000
abbrev g3q(ps:List PV)(k:Str->Prop):Prop:=Yn (fun(x:Str×Str×Unit)=>decide (List.length (Str.s (Prod.fst x))<=1048576)&&decide (Str.s (Prod.fst (Prod.snd x))=JN)) (fun(x:Str×Str×Unit)=>Str.mk (RX (Str.s (Prod.fst x)))) ps k
abbrev g0j(ps:List PV)(k:Bool->Prop):Prop:=Yn (fun(x:Lin×Unit)=>Xx (Prod.fst x)) (fun(x:Lin×Unit)=>Zg (Prod.fst x)) ps k
abbrev g3o(ps:List PV)(k:Bool->Prop):Prop:=Yn (fun(x:Lin×Unit)=>Xx (Prod.fst x)) (fun(x:Lin×Unit)=> !Zg (Prod.fst x)) ps k
abbrev g1q(ps:List PV)(k:Int->Prop):Prop:=Yn (fun(x:List Lin×FnV 159×Unit)=>decide (List.length (Prod.fst x)<=1048576)&&List.all (Prod.fst x) Xx) (fun(x:List Lin×FnV 159×Unit)=>Yq (fun(l:Lin)=> !Zg l) (Prod.fst x)) ps k
abbrev e8l(ps:List PV)(k:Bool->Prop):Prop:=Yn (fun(x:List Lin×FnV 159×Unit)=>decide (List.length (Prod.fst x)<=1048576)&&List.all (Prod.fst x) Xx) (fun(x:List Lin×FnV 159×Unit)=>List.any (Prod.fst x) fun(l:Lin)=> !Zg l) ps k
abbrev g3w(ps:List PV)(k:Bool->Prop):Prop:=Yn (fun(x:Str×Unit)=>decide (List.length (Str.s (Prod.fst x))<=281474976710656)) (fun(x:Str×Unit)=>nameB (Prod.fst x)) ps k
abbrev e9v(ps:List PV)(k:Str->Prop):Prop:=Yn (fun(x:Lin×Unit)=>Wu (Prod.fst x)) (fun(x:Lin×Unit)=>Str.mk (ZC (Prod.fst x))) ps k
abbrev g1b(ps:List PV)(k:Str->Prop):Prop:=ceP (fun(x:List Str×Str×Unit)=>Yh (Prod.fst x)) ps k
abbrev g1n(ps:List PV)(k:Str->Prop):Prop:=Yn (fun(x:List Str×Str×Unit)=>YO (Prod.fst x)&&decide (Str.s (Prod.fst (Prod.snd x))=[(44:UInt8),(32:UInt8)])) (fun(x:List Str×Str×Unit)=>Yh (Prod.fst x)) ps k
abbrev b2w(ps:List PV)(k:Bool->Prop):Prop:=Yn (fun(x:Sp×Unit)=>P5 (Prod.fst x)) (fun(x:Sp×Unit)=>KV (Sp.row (Prod.fst x)) (Sp.dims (Prod.fst x))) ps k
abbrev f5j(ps:List PV)(k:Str->Prop):Prop:=Yn (fun(x:Sp×Unit)=>KV (Sp.row (Prod.fst x)) (Sp.dims (Prod.fst x))) (fun(x:Sp×Unit)=>Str.mk (Qo (Sp.row (Prod.fst x)) (Sp.dims (Prod.fst x)))) ps k
abbrev f5b(ps:List PV)(k:Bool->Prop):Prop:=Yn (fun(x:Str×Unit)=>decide (List.length (Str.s (Prod.fst x))<=1048576)) (fun(x:Str×Unit)=>evB (Str.s (Prod.fst x))) ps k
abbrev f5k(ps:List PV)(k:Str×Int->Prop):Prop:=Yn (fun(x:Sp×Unit)=>P5 (Prod.fst x)) (fun(x:Sp×Unit)=>PY (Sp.row (Prod.fst x)) (Sp.dims (Prod.fst x))) ps k
abbrev d9a(ps:List PV)(k:Bool->Prop):Prop:=Yn (fun(x:TyS×Unit)=>yW (Prod.fst x)) (fun(x:TyS×Unit)=>QZ (Prod.fst x)) ps k
abbrev f0z(ps:List PV)(k:Str->Prop):Prop:=Yn (fun(x:TyS×Unit)=>yW (Prod.fst x)&&QZ (Prod.fst x)) (fun(x:TyS×Unit)=>Str.mk (tyT (Prod.fst x))) ps k
abbrev f2z(ps:List PV)(k:List Str->Prop):Prop:=Yn (fun(x:Lin×Unit)=>decide (List.length (Lin.t (Prod.fst x))<=1000000)) (fun(x:Lin×Unit)=>Va (Prod.fst x)) ps k
abbrev JY(ps:List PV)(k:Bool->Prop):Prop:=Yn (fun(x:List Str×Unit)=>Xg (Prod.fst x)) (fun(x:List Str×Unit)=>List.all (Prod.fst x) fun(s:Str)=>nameI (Str.s s)) ps k
abbrev f5e(ps:List PV)(k:Bool->Prop):Prop:=Yn (fun(x:Lin×Unit)=>Zg (Prod.fst x)) (fun(x:Lin×Unit)=> !Q7 (Prod.fst x)) ps k
abbrev f0j(ps:List PV)(k:Int->Prop):Prop:=Yn (fun(x:List Lin×FnV 100×Unit)=>decide (List.length (Prod.fst x)<=1048576)&&List.all (Prod.fst x) Zg) (fun(x:List Lin×FnV 100×Unit)=>Yq (fun(l:Lin)=> !Q7 l) (Prod.fst x)) ps k
abbrev Ov(ps:List PV)(k:Bool->Prop):Prop:=Yn (fun(x:List Lin×FnV 100×Unit)=>decide (List.length (Prod.fst x)<=1048576)&&List.all (Prod.fst x) Zg) (fun(x:List Lin×FnV 100×Unit)=>List.any (Prod.fst x) fun(l:Lin)=> !Q7 l) ps k
abbrev f7e(ps:List PV)(k:Bool->Prop):Prop:=Yn (fun(x:TyS×Unit)=>yW (Prod.fst x)) (fun(x:TyS×Unit)=>Y7 (Prod.fst x)) ps k
abbrev c7g(ps:List PV)(k:Bool->Prop):Prop:=Yn (fun(x:Bool×TyS×Unit)=>yW (Prod.fst (Prod.snd x))) (fun(x:Bool×TyS×Unit)=>Yy (Prod.fst x) (Prod.fst (Prod.snd x))) ps k
abbrev f2g(ps:List PV)(k:Bool->Prop):Prop:=Yn (fun(x:Pm×Unit)=>pW (Prod.fst x)) (fun(x:Pm×Unit)=> !Bi (Prod.fst x)) ps k
abbrev f2s(ps:List PV)(k:Int->Prop):Prop:=Yn (fun(x:List Pm×FnV 33×Unit)=>decide (List.length (Prod.fst x)<=1048576)&&List.all (Prod.fst x) pW) (fun(x:List Pm×FnV 33×Unit)=>Yq (fun(p:Pm)=> !Bi p) (Prod.fst x)) ps k
abbrev f1x(ps:List PV)(k:Bool->Prop):Prop:=Yn (fun(x:Tm×Unit)=>tW (Prod.fst x)) (fun(x:Tm×Unit)=>YK (Prod.fst x)) ps k
abbrev f3p(ps:List PV)(k:Bool->Prop):Prop:=Yn (fun(x:List Pm×FnV 33×Unit)=>decide (List.length (Prod.fst x)<=1048576)&&List.all (Prod.fst x) pW) (fun(x:List Pm×FnV 33×Unit)=>List.any (Prod.fst x) fun(p:Pm)=> !Bi p) ps k
abbrev f1h(ps:List PV)(k:Str×Int->Prop):Prop:=Yn (fun(x:TyS×Unit)=>yW (Prod.fst x)) (fun(x:TyS×Unit)=>KX (Prod.fst x)) ps k
abbrev c7s(ps:List PV)(k:Str->Prop):Prop:=Yn (fun(x:Bool×TyS×Unit)=>yW (Prod.fst (Prod.snd x))) (fun(x:Bool×TyS×Unit)=>Str.mk (K5 (Prod.fst x) (Prod.fst (Prod.snd x)))) ps k
abbrev f3m(ps:List PV)(k:Str->Prop):Prop:=Yn (fun(x:Pm×Unit)=>pW (Prod.fst x)) (fun(x:Pm×Unit)=>Str.mk (pmT (Prod.fst x))) ps k
abbrev F9(ps:List PV)(k:Str->Prop):Prop:=Yn (fun(x:List Str×Unit)=>YO (Prod.fst x)) (fun(x:List Str×Unit)=>Yh (Prod.fst x)) ps k
abbrev f7i(ps:List PV)(k:Str->Prop):Prop:=Yn (fun(x:List Pm×FnV 35×Unit)=>decide (List.length (Prod.fst x)<=8)&&List.all (Prod.fst x) pW) (fun(x:List Pm×FnV 35×Unit)=>Yh (List.map PW (Prod.fst x))) ps k
abbrev f7t(ps:List PV)(k:Str->Prop):Prop:=Yn (fun(x:Tm×Unit)=>tW (Prod.fst x)&&Z9 (Prod.fst x)) (fun(x:Tm×Unit)=>Zr (Prod.fst x)) ps k
abbrev f2d(ps:List PV)(k:Bool->Prop):Prop:=Yn (fun(x:Df×Unit)=>dW (Prod.fst x)) (fun(x:Df×Unit)=>Z6 (Prod.fst x)) ps k
abbrev f1n(ps:List PV)(k:Str->Prop):Prop:=Yn (fun(x:Df×Unit)=>dW (Prod.fst x)&&Z6 (Prod.fst x)) (fun(x:Df×Unit)=>Hl (Prod.fst x)) ps k
abbrev f1s(ps:List PV)(k:Str×Int->Prop):Prop:=ceP (fun(x:Str×Unit)=>Jg (Prod.fst x)) ps k
abbrev f1u(ps:List PV)(k:Str->Prop):Prop:=Yn (fun(x:List Str×Str×Unit)=>Rt (Prod.fst x)&&decide (Str.s (Prod.fst (Prod.snd x))=[(10:UInt8)])) (fun(x:List Str×Str×Unit)=>nlS (Prod.fst x)) ps k
noncomputable def c4l:IC:=YR Proofs.Tryz.f133
def d3h:List IRes:=[(.tmp 2)]
abbrev f0q:Nat:=25
def e8n:ZB:=Yi [(158,.pure (preT (fun x:Str×Str×Unit=>decide (x.1.s.length<=1048576)&&decide (x.2.1.s=JN))) (Zi (fun x:Str×Str×Unit=>(⟨RX x.1.s⟩:Str))))]
theorem e9k{G:PV->Prop}(s:List UInt8)(h:if (decide ((↑(List.length s):Int)<1))=true then G ((.bool false))else(if (decide ((↑(List.length s):Int)>30))=true then G ((.bool false))else((decide (0<=0)&&decide (Int.toNat 0<List.length s))=true∧(if (decide ((↑(UInt8.toNat (List.getD s (Int.toNat 0) (0:UInt8))):Int)<65))=true then G ((.bool false))else((decide (0<=0)&&decide (Int.toNat 0<List.length s))=true∧(if (decide ((↑(UInt8.toNat (List.getD s (Int.toNat 0) (0:UInt8))):Int)>90))=true then G ((.bool false))else((decide (0<=1)&&true&&decide (Int.toNat 1<=List.length s)&&decide (List.length s<=List.length s))=true∧((g3q [(.str (List.drop (Int.toNat 1) (List.take (List.length s) s))),(.str [(48:UInt8),(49:UInt8),(50:UInt8),(51:UInt8),(52:UInt8),(53:UInt8),(54:UInt8),(55:UInt8),(56:UInt8),(57:UInt8)])] fun a=>(G ((.bool (Str.s a==[]))))))))))))):Zd e8n 0 (Za d3h G) c4l [] (Zx 25 [.str s]):=Zd.tp (dm [dv Str] 65 0x251100014222120222200542221202222222200942222022222222222200d42) h
noncomputable def c6e:IC:=OW
def d3s:List IRes:=[(.tmp 2)]
abbrev f4f:Nat:=6
def e9q:ZB:=Yi [(91,.pure (preT (fun x:Lin×Unit=>Xx x.1)) (Zi (fun x:Lin×Unit=>Zg x.1)))]
theorem g0s{G:PV->Prop}(l:Lin)(h:(g0j [(enc l)] fun a=>(G ((.bool !a))))):Zd e9q 0 (Za d3s G) c6e [] (Zx 6 [.agg [enc l.k,enc l.t]]):=Zd.tp (.req (FV (Bool) (.nil))) h
noncomputable def BV:IC:=JS
def Ah:List IRes:=[(.tmp 4)]
abbrev f1t:Nat:=19
def LC:ZB:=Yi [(159,.pure (preT (fun x:Lin×Unit=>Xx x.1)) (Zi (fun x:Lin×Unit=> !(Zg x.1))))]
abbrev Ed(a:List Lin):Nat×AV:=(0,(.pv (.sl 2 false (List.map enc a))))
theorem g0g{G:PV->Prop}(l:List Lin)(h:At LC 0 (Za Ah G) BV 0 19 [(Ed l),(1,(.pv (.fn 159))),(7,(.pv (.int .i64 (↑(List.length (List.map enc l)):Int)))),(8,(.pv (.int .i64 0)))] []):Zd LC 0 (Za Ah G) BV [] (Zx 19 [enc l,.fn 159]):=Zd.tp (.nil) h
theorem c9o{G:PV->Prop}(l:List Lin)(i:Int)(h:if (decide (i<(↑(List.length l):Int)))=true then(Xv l i 2 fun a=>((g3o [(enc a)] fun b=>(if (b)=true then G ((.int .i64 i))else(At LC 0 (Za Ah G) BV 0 19 [(Ed l),(1,(.pv (.fn 159))),(7,(.pv (.int .i64 (↑(List.length l):Int)))),(8,(.pv (.int .i64 (IntKind.wrap IntKind.i64 (i+1)))))] [])))))else(G ((.int .i64 (-1))))):At LC 0 (Za Ah G) BV 0 19 [(0,.pv (enc l)),(1,.pv (.fn 159)),(7,.pv (.int .i64 l.length)),(8,.pv (.int .i64 i))] []:=At.tp (dm [dr Lin,dv Bool] 19 0x2000146125100c42) h
noncomputable def c7h:IC:=FD
def d5b:List IRes:=[(.tmp 4)]
abbrev f1j:Nat:=9
def e8e:ZB:=Yi [(135,.pure (preT (fun x:List Lin×FnV 159×Unit=>decide (x.1.length<=1048576)&&x.1.all Xx)) (Zi (fun x:List Lin×FnV 159×Unit=>Yq (fun l:Lin=> !(Zg l)) x.1)))]
theorem f8r{G:PV->Prop}(l:List Lin)(h:(g1q [(.sl 2 false (List.map enc l)),(.fn 159)] fun a=>(G ((.bool (decide (a ≥ 0))))))):Zd e8e 0 (Za d5b G) c7h [] (Zx 9 [enc l,.fn 159]):=Zd.tp (.req (FV (Int) (.lit (.nil)))) h
noncomputable def MO:IC:=YR Proofs.Tryz.f134
def AX:List IRes:=[(.tmp 2)]
abbrev c2g:Nat:=23
def R7:ZB:=Yi [(128,.pure (preT (fun x:Str×Unit=>decide (x.1.s.length<=281474976710656))) (Zi (fun x:Str×Unit=>nameB x.1))),(99,.pure (preT (fun x:List Lin×FnV 159×Unit=>decide (x.1.length<=1048576)&&x.1.all Xx)) (Zi (fun x:List Lin×FnV 159×Unit=>x.1.any fun l:Lin=> !(Zg l))))]
theorem c7c{G:PV->Prop}(r:Str)(l:List Lin)(h:if (Str.s r==[])=true then if (decide ((↑(List.length (List.map enc l)):Int)<=6))=true then(e8l [(.sl 2 false (List.map enc l)),(.fn 159)] fun b=>(G ((.bool !b))))else(G ((.bool false)))else((g3w [(.str (Str.s r))] fun e=>(if (e)=true then if (decide ((↑(List.length (List.map enc l)):Int)<=6))=true then(e8l [(.sl 2 false (List.map enc l)),(.fn 159)] fun a=>(G ((.bool !a))))else(G ((.bool false)))else(G ((.bool false))))))):Zd R7 0 (Za AX G) MO [] (Zx 23 [.agg [enc r,enc l]]):=Zd.tp (dm [dv Bool] 71 0x222222222022220225122007422222015425122022220225122007422222222201942) h
noncomputable def VH:IC:=YR Proofs.Tryz.f160
def Vh:List IRes:=[(.tmp 2)]
abbrev c9e:Nat:=32
def Uw:ZB:=Yi [(58,.pure (preT (fun x:Lin×Unit=>Wu x.1)) (Zi (fun x:Lin×Unit=>(⟨ZC x.1⟩:Str)))),(19,.pure (preT (fun x:List Str×Str×Unit=>YO x.1&&decide (x.2.1.s=[44,32]))) (Zi (fun x:List Str×Str×Unit=>Yh x.1)))]
abbrev FY(a:List Lin):Nat×AV:=(16,(.pv (.sl 2 false (List.map enc a))))
theorem e6p{G:PV->Prop}(r:Str)(l:List Lin)(h:if (!Str.s r==[])=true then ZA (Str.s r) [(46:UInt8),(46:UInt8)]∧(At Uw 0 (Za Vh G) VH 0 32 [(3,(.row 0 1 0 1)),(FY l),(17,(.pv (.int .i64 (↑(List.length (List.map enc l)):Int)))),(18,(.pv (.int .i64 0)))] [(.obj (.row false 9 1 [(.str (Str.s r++[(46:UInt8),(46:UInt8)]))]))])else(At Uw 0 (Za Vh G) VH 0 32 [(3,(.pv (.sl 0 true []))),(FY l),(17,(.pv (.int .i64 (↑(List.length (List.map enc l)):Int)))),(18,(.pv (.int .i64 0)))] [])):Zd Uw 0 (Za Vh G) VH [] (Zx 32 [.agg [enc r,enc l]]):=Zd.tp (dm [] 14 0x22222100742) h
theorem Ml{G:PV->Prop}(r:Str)(l:List Lin)(i:Int)(h:if (decide (i<(↑(List.length l):Int)))=true then(Xv l i 2 fun b=>((e9v [(enc b)] fun e=>(At Uw 0 (Za Vh G) VH 0 32 [(3,(.row 0 1 0 1)),(FY l),(17,(.pv (.int .i64 (↑(List.length l):Int)))),(18,(.pv (.int .i64 (IntKind.wrap IntKind.i64 (i+1)))))] [(.obj (.row false 9 1 [(.str (Str.s e))]))]))))else(g1b [(.sl 0 true []),(.str [(44:UInt8),(32:UInt8)])] fun a=>(ZA [(91:UInt8)] (Str.s a)∧(ZA ([(91:UInt8)]++Str.s a) [(93:UInt8)]∧(G ((.str ([(91:UInt8)]++Str.s a++[(93:UInt8)])))))))):At Uw 0 (Za Vh G) VH 0 32 [(3,.pv (.sl 0 true [])),(16,.pv (enc l)),(17,.pv (.int .i64 l.length)),(18,.pv (.int .i64 i))] []:=At.tp (dm [dr Lin,dv Str] 23 0x116202222226125100c42) h
theorem LD{G:PV->Prop}(r:Str)(l:List Lin)(i:Int)(k:Nat)(o:List Str)(h:if (decide (i<(↑(List.length l):Int)))=true then(Xv l i 2 fun e=>((e9v [(enc e)] fun a=>((List.length (List.map enc o)==k&&k==k&&decide ((k+List.length (List.drop 0 (List.take 1 [enc a])))*16<=1099511627776)&&decide (k+List.length (List.drop 0 (List.take 1 [enc a]))<=1099511627776))=true∧(At Uw 0 (Za Vh G) VH 0 32 [(3,(.row 0 (k+List.length (List.drop 0 (List.take 1 [enc a]))) 0 (k+List.length (List.drop 0 (List.take 1 [enc a]))))),(FY l),(17,(.pv (.int .i64 (↑(List.length l):Int)))),(18,(.pv (.int .i64 (IntKind.wrap IntKind.i64 (i+1)))))] [(.obj (.row false 9 1 (List.map enc o++List.drop 0 (List.take 1 [enc a]))))])))))else((List.length (List.map enc o)==k)=true∧((g1n [(.sl 1 false (List.drop 0 (List.take k (List.map enc o)))),(.str [(44:UInt8),(32:UInt8)])] fun b=>(ZA [(91:UInt8)] (Str.s b)∧(ZA ([(91:UInt8)]++Str.s b) [(93:UInt8)]∧(G ((.str ([(91:UInt8)]++Str.s b++[(93:UInt8)])))))))))):At Uw 0 (Za Vh G) VH 0 32 [(3,.row 0 k 0 k),(16,.pv (enc l)),(17,.pv (.int .i64 l.length)),(18,.pv (.int .i64 i))] [.obj (.row false 9 1 (o.map enc))]:=At.tp (dm [dr Lin,dv Str] 22 0x11611021226125100a42) h
noncomputable def LU:IC:=YR Proofs.Tryz.f136
def MH:List IRes:=[(.tmp 2),(.tmp 3)]
abbrev c2w:Nat:=9
def a2j:ZB:=Yi [(134,.pure (preT (fun x:Sp×Unit=>P5 x.1)) (Zi (fun x:Sp×Unit=>KV x.1.row x.1.dims))),(160,.pure (preT (fun x:Sp×Unit=>KV x.1.row x.1.dims)) (Zi (fun x:Sp×Unit=>(⟨Qo x.1.row x.1.dims⟩:Str))))]
theorem c6h{G:PV->Prop}(r:Str)(l:List Lin)(h:(b2w [(enc (Sp.mk r l))] fun a=>(if (!a)=true then G ((.tup [(.str []),(.int .i64 1)]))else((f5j [(enc (Sp.mk r l))] fun b=>(G ((.tup [(.str (Str.s b)),(.int .i64 0)])))))))):Zd a2j 0 (Za MH G) LU [] (Zx 9 [.agg [enc r,enc l]]):=Zd.tp (dm [dv Bool,dv Str] 11 0x610001451) h
noncomputable def Mv:IC:=YR Proofs.Tryz.f98
def LJ:List IRes:=[(.tmp 2)]
abbrev c1z:Nat:=21
def a2t:ZB:=Yi [(133,.pure (preT (fun x:Str×Unit=>decide (x.1.s.length<=1048576))) (Zi (fun x:Str×Unit=>evB x.1.s))),(134,.pure (preT (fun x:Sp×Unit=>P5 x.1)) (Zi (fun x:Sp×Unit=>KV x.1.row x.1.dims)))]
theorem d5y{G:PV->Prop}(t:TyS)(h:if (Str.s (TyS.elem t)==[(105:UInt8),(110:UInt8),(116:UInt8)])=true then(b2w [(enc (Sp.mk (TyS.row t) (TyS.dims t)))] fun b=>(G ((.bool b))))else(if (Str.s (TyS.elem t)==[(98:UInt8),(111:UInt8),(111:UInt8),(108:UInt8)])=true then(b2w [(enc (Sp.mk (TyS.row t) (TyS.dims t)))] fun e=>(G ((.bool e))))else((f5b [(.str (Str.s (TyS.elem t)))] fun a=>(if (a)=true then(b2w [(enc (Sp.mk (TyS.row t) (TyS.dims t)))] fun g=>(G ((.bool g))))else(G ((.bool false)))))))):Zd a2t 0 (Za LJ G) Mv [] (Zx 21 [.agg [enc t.elem,enc t.row,enc t.dims]]):=Zd.tp (dm [dv Bool] 57 0x222025122006425122025122222200a422220251222222222200e42) h
noncomputable def a4y:IC:=YR Proofs.Tryz.f102
def a3k:List IRes:=[(.tmp 2)]
abbrev c7x:Nat:=19
def b5k:ZB:=Yi [(136,.pure (preT (fun x:Sp×Unit=>P5 x.1)) (Zi (fun x:Sp×Unit=>PY x.1.row x.1.dims)))]
theorem e2v{G:PV->Prop}(t:TyS)(h:(f5k [(enc (Sp.mk (TyS.row t) (TyS.dims t)))] fun a=>(if (Str.s a.1==[(91:UInt8),(93:UInt8)])=true then G ((.str (Str.s (TyS.elem t))))else(ZA (Str.s a.1) (Str.s (TyS.elem t))∧(G ((.str (Str.s a.1++Str.s (TyS.elem t))))))))):Zd b5k 0 (Za a3k G) a4y [] (Zx 19 [.agg [enc t.elem,enc t.row,enc t.dims]]):=Zd.tp (dm [dv (Str×Int)] 11 0x100014251) h
noncomputable def N8:IC:=YR Proofs.Tryz.f66
def Mh:List IRes:=[(.tmp 2),(.tmp 3)]
abbrev c1l:Nat:=9
def a1s:ZB:=Yi [(98,.pure (preT (fun x:TyS×Unit=>yW x.1)) (Zi (fun x:TyS×Unit=>QZ x.1))),(102,.pure (preT (fun x:TyS×Unit=>yW x.1&&QZ x.1)) (Zi (fun x:TyS×Unit=>(⟨tyT x.1⟩:Str))))]
theorem d3g{G:PV->Prop}(t:TyS)(h:(d9a [(enc t)] fun a=>(if (!a)=true then G ((.tup [(.str []),(.int .i64 1)]))else((f0z [(enc t)] fun b=>(G ((.tup [(.str (Str.s b)),(.int .i64 0)])))))))):Zd a1s 0 (Za Mh G) N8 [] (Zx 9 [.agg [enc t.elem,enc t.row,enc t.dims]]):=Zd.tp (dm [dv Bool,dv Str] 11 0x610001451) h
noncomputable def b5q:IC:=YR Proofs.Tryz.f100
def b2q:List IRes:=[(.tmp 2)]
abbrev e7i:Nat:=7
def c8j:ZB:=Yi [(101,.pure (preT (fun x:Lin×Unit=>decide (x.1.t.length<=1000000))) (Zi (fun x:Lin×Unit=>Va x.1))),(14,.pure (preT (fun x:List Str×Unit=>Xg x.1)) (Zi (fun x:List Str×Unit=>x.1.all fun s:Str=>nameI s.s)))]
theorem f7m{G:PV->Prop}(l:Lin)(h:(f2z [(enc l)] fun a=>((JY [(.sl 1 false (List.map enc a))] fun b=>(G ((.bool !b))))))):Zd c8j 0 (Za b2q G) b5q [] (Zx 7 [.agg [enc l.k,enc l.t]]):=Zd.tp (.req (FV (List Str) (.req (FV (Bool) (.nil))))) h
noncomputable def BI:IC:=JS
def Bp:List IRes:=[(.tmp 4)]
abbrev f1i:Nat:=19
def NC:ZB:=Yi [(100,.pure (preT (fun x:Lin×Unit=>Zg x.1)) (Zi (fun x:Lin×Unit=> !(Q7 x.1))))]
theorem f9f{G:PV->Prop}(l:List Lin)(h:At NC 0 (Za Bp G) BI 0 19 [(Ed l),(1,(.pv (.fn 100))),(7,(.pv (.int .i64 (↑(List.length (List.map enc l)):Int)))),(8,(.pv (.int .i64 0)))] []):Zd NC 0 (Za Bp G) BI [] (Zx 19 [enc l,.fn 100]):=Zd.tp (.nil) h
theorem d2v{G:PV->Prop}(l:List Lin)(i:Int)(h:if (decide (i<(↑(List.length l):Int)))=true then(Xv l i 2 fun a=>((f5e [(enc a)] fun b=>(if (b)=true then G ((.int .i64 i))else(At NC 0 (Za Bp G) BI 0 19 [(Ed l),(1,(.pv (.fn 100))),(7,(.pv (.int .i64 (↑(List.length l):Int)))),(8,(.pv (.int .i64 (IntKind.wrap IntKind.i64 (i+1)))))] [])))))else(G ((.int .i64 (-1))))):At NC 0 (Za Bp G) BI 0 19 [(0,.pv (enc l)),(1,.pv (.fn 100)),(7,.pv (.int .i64 l.length)),(8,.pv (.int .i64 i))] []:=At.tp (dm [dr Lin,dv Bool] 19 0x2000146125100c42) h
noncomputable def d1g:IC:=FD
def c5y:List IRes:=[(.tmp 4)]
abbrev f2j:Nat:=9
def e8d:ZB:=Yi [(135,.pure (preT (fun x:List Lin×FnV 100×Unit=>decide (x.1.length<=1048576)&&x.1.all Zg)) (Zi (fun x:List Lin×FnV 100×Unit=>Yq (fun l:Lin=> !(Q7 l)) x.1)))]
theorem g0n{G:PV->Prop}(l:List Lin)(h:(f0j [(.sl 2 false (List.map enc l)),(.fn 100)] fun a=>(G ((.bool (decide (a ≥ 0))))))):Zd e8d 0 (Za c5y G) d1g [] (Zx 9 [enc l,.fn 100]):=Zd.tp (.req (FV (Int) (.lit (.nil)))) h
noncomputable def Mt:IC:=YR Proofs.Tryz.f64
def Av:List IRes:=[(.tmp 2)]
abbrev c1c:Nat:=35
def TW:ZB:=Yi [(98,.pure (preT (fun x:TyS×Unit=>yW x.1)) (Zi (fun x:TyS×Unit=>QZ x.1))),(14,.pure (preT (fun x:List Str×Unit=>Xg x.1)) (Zi (fun x:List Str×Unit=>x.1.all fun s:Str=>nameI s.s))),(99,.pure (preT (fun x:List Lin×FnV 100×Unit=>decide (x.1.length<=1048576)&&x.1.all Zg)) (Zi (fun x:List Lin×FnV 100×Unit=>x.1.any fun l:Lin=> !(Q7 l))))]
theorem c4h{G:PV->Prop}(t:TyS)(h:(d9a [(enc t)] fun a=>(if (!a)=true then G ((.bool false))else(if (!Str.s (TyS.elem t)==[(105:UInt8),(110:UInt8),(116:UInt8)])=true then if (!Str.s (TyS.elem t)==[(98:UInt8),(111:UInt8),(111:UInt8),(108:UInt8)])=true then G ((.bool false))else(if (!Str.s (TyS.row t)==[])=true then(JY [(.sl 1 false [(.str (Str.s (TyS.row t)))])] fun k=>(if (!k)=true then G ((.bool false))else((Ov [(.sl 2 false (List.map enc (TyS.dims t))),(.fn 100)] fun i=>(G ((.bool !i)))))))else((Ov [(.sl 2 false (List.map enc (TyS.dims t))),(.fn 100)] fun g=>(G ((.bool !g))))))else(if (!Str.s (TyS.row t)==[])=true then(JY [(.sl 1 false [(.str (Str.s (TyS.row t)))])] fun b=>(if (!b)=true then G ((.bool false))else((Ov [(.sl 2 false (List.map enc (TyS.dims t))),(.fn 100)] fun e=>(G ((.bool !e)))))))else((Ov [(.sl 2 false (List.map enc (TyS.dims t))),(.fn 100)] fun j=>(G ((.bool !j)))))))))):Zd TW 0 (Za Av G) Mt [] (Zx 35 [.agg [enc t.elem,enc t.row,enc t.dims]]):=Zd.tp (dm [dv Bool] 135 0x51222222222051000142222512222220144222222222220512222222220510001422225122222201442222202222222008422222203b422220222222222222200e451) h
noncomputable def MC:IC:=YR Proofs.Tryz.f31
def Lc:List IRes:=[(.tmp 4)]
abbrev b9m:Nat:=24
def EL:ZB:=Yi [(64,.pure (preT (fun x:TyS×Unit=>yW x.1)) (Zi (fun x:TyS×Unit=>Y7 x.1)))]
theorem d2x{G:PV->Prop}(b:Bool)(t:TyS)(h:if (b)=true then(f7e [(enc t)] fun a=>(G ((.bool a))))else(if (Str.s (TyS.elem t)==[])=true then if (Str.s (TyS.row t)==[])=true then G ((.bool ((↑(List.length (List.map enc (TyS.dims t))):Int)==0)))else(G ((.bool false)))else(G ((.bool false))))):Zd EL 0 (Za Lc G) MC [] (Zx 24 [.bool b,.agg [enc t.elem,enc t.row,enc t.dims]]):=Zd.tp (dm [dv Bool] 46 0x22222222220222220222222007422222016420510034) h
noncomputable def b2x:IC:=YR Proofs.Tryz.f33
def b6s:List IRes:=[(.tmp 2)]
abbrev e0t:Nat:=16
def d4l:ZB:=Yi [(14,.pure (preT (fun x:List Str×Unit=>Xg x.1)) (Zi (fun x:List Str×Unit=>x.1.all fun s:Str=>nameI s.s))),(31,.pure (preT (fun x:Bool×TyS×Unit=>yW x.2.1)) (Zi (fun x:Bool×TyS×Unit=>Yy x.1 x.2.1)))]
theorem f6y{G:PV->Prop}(p:Pm)(h:(JY [(.sl 1 false [(.str (Str.s (Pm.name p)))])] fun a=>(if (!a)=true then G ((.bool true))else((c7g [(.bool (Pm.given p)),(enc (Pm.ty p))] fun b=>(G ((.bool !b)))))))):Zd d4l 0 (Za b6s G) b2x [] (Zx 16 [.agg [enc p.name,enc p.given,enc p.ty.elem,enc p.ty.row,enc p.ty.dims]]):=Zd.tp (dm [dv Bool] 25 0x22512222022222200745122) h
noncomputable def AZ:IC:=YR Proofs.Tryz.f65
def Bz:List IRes:=[(.tmp 4)]
abbrev f4g:Nat:=19
def MJ:ZB:=Yi [(33,.pure (preT (fun x:Pm×Unit=>pW x.1)) (Zi (fun x:Pm×Unit=> !(Bi x.1))))]
theorem g3v{G:PV->Prop}(l:List Pm)(h:At MJ 0 (Za Bz G) AZ 0 19 [(0,(.pv (.sl 5 false (List.map enc l)))),(1,(.pv (.fn 33))),(7,(.pv (.int .i64 (↑(List.length (List.map enc l)):Int)))),(8,(.pv (.int .i64 0)))] []):Zd MJ 0 (Za Bz G) AZ [] (Zx 19 [enc l,.fn 33]):=Zd.tp (.nil) h
theorem d8m{G:PV->Prop}(l:List Pm)(i:Int)(h:if (decide (i<(↑(List.length l):Int)))=true then(Xv l i 5 fun a=>((f2g [(enc a)] fun b=>(if (b)=true then G ((.int .i64 i))else(At MJ 0 (Za Bz G) AZ 0 19 [(0,(.pv (.sl 5 false (List.map enc l)))),(1,(.pv (.fn 33))),(7,(.pv (.int .i64 (↑(List.length l):Int)))),(8,(.pv (.int .i64 (IntKind.wrap IntKind.i64 (i+1)))))] [])))))else(G ((.int .i64 (-1))))):At MJ 0 (Za Bz G) AZ 0 19 [(0,.pv (enc l)),(1,.pv (.fn 33)),(7,.pv (.int .i64 l.length)),(8,.pv (.int .i64 i))] []:=At.tp (dm [dr Pm,dv Bool] 19 0x2000146125100c42) h
noncomputable def c8w:IC:=YR Proofs.Tryz.f32
def d8v:List IRes:=[(.tmp 4)]
abbrev f4e:Nat:=9
def e8x:ZB:=Yi [(65,.pure (preT (fun x:List Pm×FnV 33×Unit=>decide (x.1.length<=1048576)&&x.1.all pW)) (Zi (fun x:List Pm×FnV 33×Unit=>Yq (fun p:Pm=> !(Bi p)) x.1)))]
theorem g2j{G:PV->Prop}(l:List Pm)(h:(f2s [(.sl 5 false (List.map enc l)),(.fn 33)] fun a=>(G ((.bool (decide (a ≥ 0))))))):Zd e8x 0 (Za d8v G) c8w [] (Zx 9 [enc l,.fn 33]):=Zd.tp (.req (FV (Int) (.lit (.nil)))) h
noncomputable def Lm:IC:=YR Proofs.Tryz.f16
def BG:List IRes:=[(.tmp 2)]
abbrev c3u:Nat:=31
def TY:ZB:=Yi [(14,.pure (preT (fun x:List Str×Unit=>Xg x.1)) (Zi (fun x:List Str×Unit=>x.1.all fun s:Str=>nameI s.s))),(31,.pure (preT (fun x:Bool×TyS×Unit=>yW x.2.1)) (Zi (fun x:Bool×TyS×Unit=>Yy x.1 x.2.1))),(26,.pure (preT (fun x:Tm×Unit=>tW x.1)) (Zi (fun x:Tm×Unit=>YK x.1))),(32,.pure (preT (fun x:List Pm×FnV 33×Unit=>decide (x.1.length<=1048576)&&x.1.all pW)) (Zi (fun x:List Pm×FnV 33×Unit=>x.1.any fun p:Pm=> !(Bi p))))]
theorem d0s{G:PV->Prop}(d:Df)(h:(JY [(.sl 1 false [(.str (Str.s (Df.name d)))])] fun b=>(if (b)=true then if (decide ((↑(List.length (List.map enc (Df.ps d))):Int)<=8))=true then(c7g [(.bool (Df.given d)),(enc (Df.res d))] fun e=>(if (e)=true then(f1x (CO (Df.n d) (Df.ks d)) fun a=>(if (a)=true then(f3p [(.sl 5 false (List.map enc (Df.ps d))),(.fn 33)] fun g=>(G ((.bool !g))))else(G ((.bool false)))))else(G ((.bool false)))))else(G ((.bool false)))else(G ((.bool false)))))):Zd TY 0 (Za BG G) Lm [] (Zx 31 [.agg [enc d.name,enc d.line,enc d.ps,enc d.given,enc d.res.elem,enc d.res.row,enc d.res.dims,enc d.n.kind,enc d.n.line,enc d.n.name,enc d.n.num,enc d.n.elem,enc d.n.dims,enc d.n.data,enc d.n.sizes,enc d.n.ranks,enc d.ks]]):=Zd.tp (dm [dv Bool] 94 0x22222222222222222220222222222222220222222220222202251220074251220154251222202942222204145122) h
noncomputable def NM:IC:=YR Proofs.Tryz.f36
def Ls:List IRes:=[(.tmp 4)]
abbrev c3t:Nat:=16
def a5l:ZB:=Yi [(66,.pure (preT (fun x:TyS×Unit=>yW x.1)) (Zi (fun x:TyS×Unit=>KX x.1)))]
theorem c4b{G:PV->Prop}(b:Bool)(t:TyS)(h:if (!b)=true then G ((.str []))else((f1h [(enc t)] fun a=>(ZA [(58:UInt8),(32:UInt8)] (Str.s a.1)∧(G ((.str ([(58:UInt8),(32:UInt8)]++Str.s a.1)))))))):Zd a5l 0 (Za Ls G) NM [] (Zx 16 [.bool b,.agg [enc t.elem,enc t.row,enc t.dims]]):=Zd.tp (dm [dv (Str×Int)] 10 0x15100014) h
noncomputable def b4k:IC:=YR Proofs.Tryz.f35
def b4q:List IRes:=[(.tmp 2)]
abbrev e4v:Nat:=11
def c5z:ZB:=Yi [(36,.pure (preT (fun x:Bool×TyS×Unit=>yW x.2.1)) (Zi (fun x:Bool×TyS×Unit=>(⟨K5 x.1 x.2.1⟩:Str))))]
theorem f0s{G:PV->Prop}(p:Pm)(h:(c7s [(.bool (Pm.given p)),(enc (Pm.ty p))] fun a=>(ZA (Str.s (Pm.name p)) (Str.s a)∧(G ((.str (Str.s (Pm.name p)++Str.s a))))))):Zd c5z 0 (Za b4q G) b4k [] (Zx 11 [.agg [enc p.name,enc p.given,enc p.ty.elem,enc p.ty.row,enc p.ty.dims]]):=Zd.tp (.req (FV (Str) (.req (.nil)))) h
noncomputable def GJ:IC:=YR Proofs.Tryz.f34
def Gv:List IRes:=[(.tmp 4)]
abbrev e7m:Nat:=27
def Ae:ZB:=Yi [(35,.pure (preT (fun x:Pm×Unit=>pW x.1)) (Zi (fun x:Pm×Unit=>(⟨pmT x.1⟩:Str)))),(15,.pure (preT (fun x:List Str×Unit=>YO x.1)) (Zi (fun x:List Str×Unit=>Yh x.1)))]
theorem f4y{G:PV->Prop}(l:List Pm)(h:(decide (0<=(↑(List.length (List.map enc l)):Int))&&(↑(List.length (List.map enc l)):Int)==(↑(List.length (List.map enc l)):Int)&&decide ((↑(List.length (List.map enc l)):Int)*(↑16:Int)<=1099511627776)&&decide ((↑(List.length (List.map enc l)):Int)<=1099511627776))=true∧(At Ae 0 (Za Gv G) GJ 0 27 [(1,(.pv (.fn 35))),(5,(.row 0 (Int.toNat (↑(List.length (List.map enc l)):Int)) 0 (Int.toNat (↑(List.length (List.map enc l)):Int)))),(11,(.pv (.sl 5 false (List.map enc l)))),(12,(.pv (.int .i64 (↑(List.length (List.map enc l)):Int)))),(13,(.pv (.int .i64 0)))] [(.obj (.row false 9 1 (List.replicate (Int.toNat (↑(List.length (List.map enc l)):Int)) (PV.str []))))])):Zd Ae 0 (Za Gv G) GJ [] (Zx 27 [enc l,.fn 35]):=Zd.tp (.req (.nil)) h
theorem b3x{G:PV->Prop}(l:List Pm)(i:Int)(o:List Str)(h:if (decide (i<(↑(List.length l):Int)))=true then(Xv l i 5 fun b=>((f3m [(enc b)] fun a=>((decide (0<=i)&&decide (0+Int.toNat i<List.length l)&&List.length (List.map enc o)==List.length l)=true∧((List.length (List.map enc o)==List.length l&&decide (0+Int.toNat i<List.length (List.map enc o))&&List.length (PV.cells (enc a))==1&&decide (0+1<=List.length (PV.cells (List.getD (List.map enc o) (0+Int.toNat i) default)))&&PV.cellsOk (enc a))=true∧(At Ae 0 (Za Gv G) GJ 0 27 [(1,(.pv (.fn 35))),(5,(.row 0 (List.length l) 0 (List.length l))),(11,(.pv (.sl 5 false (List.map enc l)))),(12,(.pv (.int .i64 (↑(List.length l):Int)))),(13,(.pv (.int .i64 (IntKind.wrap IntKind.i64 (i+1)))))] [(.obj (.row false 9 1 (List.set (List.map enc o) (0+Int.toNat i) (PV.withCells (List.getD (List.map enc o) (0+Int.toNat i) default) (splice (PV.cells (List.getD (List.map enc o) (0+Int.toNat i) default)) 0 (PV.cells (enc a)))))))]))))))else((List.length (List.map enc o)==List.length l)=true∧((F9 [(.sl 1 false (List.drop 0 (List.take (List.length l) (List.map enc o))))] fun e=>(G ((.str (Str.s e)))))))):At Ae 0 (Za Gv G) GJ 0 27 [(1,.pv (.fn 35)),(5,.row 0 l.length 0 l.length),(11,.pv (enc l)),(12,.pv (.int .i64 l.length)),(13,.pv (.int .i64 i))] [.obj (.row false 9 1 (o.map enc))]:=At.tp (dm [dr Pm,dv Str] 20 0x611021316125100a42) h
noncomputable def a1n:IC:=YR Proofs.Tryz.f17
def ES:List IRes:=[(.tmp 2)]
abbrev c6i:Nat:=25
def b7m:ZB:=Yi [(34,.pure (preT (fun x:List Pm×FnV 35×Unit=>decide (x.1.length<=8)&&x.1.all pW)) (Zi (fun x:List Pm×FnV 35×Unit=>Yh (x.1.map PW)))),(36,.pure (preT (fun x:Bool×TyS×Unit=>yW x.2.1)) (Zi (fun x:Bool×TyS×Unit=>(⟨K5 x.1 x.2.1⟩:Str)))),(27,.pure (preT (fun x:Tm×Unit=>tW x.1&&Z9 x.1)) (Zi (fun x:Tm×Unit=>Zr x.1)))]
theorem e5s{G:PV->Prop}(d:Df)(h:(f7i [(.sl 5 false (List.map enc (Df.ps d))),(.fn 35)] fun a=>(ZA [(100:UInt8),(101:UInt8),(102:UInt8),(32:UInt8)] (Str.s (Df.name d))∧(ZA ([(100:UInt8),(101:UInt8),(102:UInt8),(32:UInt8)]++Str.s (Df.name d)) [(40:UInt8)]∧(ZA ([(100:UInt8),(101:UInt8),(102:UInt8),(32:UInt8)]++Str.s (Df.name d)++[(40:UInt8)]) (Str.s a)∧(ZA ([(100:UInt8),(101:UInt8),(102:UInt8),(32:UInt8)]++Str.s (Df.name d)++[(40:UInt8)]++Str.s a) [(41:UInt8)]∧((c7s [(.bool (Df.given d)),(enc (Df.res d))] fun b=>(ZA ([(100:UInt8),(101:UInt8),(102:UInt8),(32:UInt8)]++Str.s (Df.name d)++[(40:UInt8)]++Str.s a++[(41:UInt8)]) (Str.s b)∧(ZA ([(100:UInt8),(101:UInt8),(102:UInt8),(32:UInt8)]++Str.s (Df.name d)++[(40:UInt8)]++Str.s a++[(41:UInt8)]++Str.s b) [(32:UInt8),(61:UInt8),(32:UInt8)]∧((f7t (CO (Df.n d) (Df.ks d)) fun e=>(ZA ([(100:UInt8),(101:UInt8),(102:UInt8),(32:UInt8)]++Str.s (Df.name d)++[(40:UInt8)]++Str.s a++[(41:UInt8)]++Str.s b++[(32:UInt8),(61:UInt8),(32:UInt8)]) (Str.s e)∧(G ((.str ([(100:UInt8),(101:UInt8),(102:UInt8),(32:UInt8)]++Str.s (Df.name d)++[(40:UInt8)]++Str.s a++[(41:UInt8)]++Str.s b++[(32:UInt8),(61:UInt8),(32:UInt8)]++Str.s e))))))))))))))))):Zd b7m 0 (Za ES G) a1n [] (Zx 25 [.agg [enc d.name,enc d.line,enc d.ps,enc d.given,enc d.res.elem,enc d.res.row,enc d.res.dims,enc d.n.kind,enc d.n.line,enc d.n.name,enc d.n.num,enc d.n.elem,enc d.n.dims,enc d.n.data,enc d.n.sizes,enc d.n.ranks,enc d.ks]]):=Zd.tp (dm [dv Str] 15 0x1511151111151) h
noncomputable def Uv:IC:=YR Proofs.Tryz.f7
def V4:List IRes:=[(.tmp 2),(.tmp 3)]
abbrev d9u:Nat:=90
def Qp:ZB:=Yi [(14,.pure (preT (fun x:List Str×Unit=>Xg x.1)) (Zi (fun x:List Str×Unit=>x.1.all fun s:Str=>nameI s.s))),(15,.pure (preT (fun x:List Str×Unit=>YO x.1)) (Zi (fun x:List Str×Unit=>Yh x.1))),(16,.pure (preT (fun x:Df×Unit=>dW x.1)) (Zi (fun x:Df×Unit=>Z6 x.1))),(17,.pure (preT (fun x:Df×Unit=>dW x.1&&Z6 x.1)) (Zi (fun x:Df×Unit=>Hl x.1))),(19,.pure (preT (fun x:List Str×Str×Unit=>Rt x.1&&decide (x.2.1.s=[10]))) (Zi (fun x:List Str×Str×Unit=>nlS x.1))),(18,.pure (preT (fun _:Str×Unit=>true)) (Zi (fun x:Str×Unit=>Jg x.1)))]
abbrev Pf(a:Mdu):Nat×AV:=(69,(.pv (.sl 17 false (List.map enc (Mdu.ds a)))))
theorem f3y{G:PV->Prop}(m:Mdu)(h:(JY [(.sl 1 false [(.str (Str.s (Mdu.name m)))])] fun g=>(if (!g)=true then G ((.tup [(.str []),(.int .i64 1)]))else((JY [(.sl 1 false (List.map enc (Mdu.im m)))] fun j=>(if (!j)=true then G ((.tup [(.str []),(.int .i64 1)]))else((JY [(.sl 1 false (List.map enc (Mdu.ex m)))] fun i=>(if (!i)=true then G ((.tup [(.str []),(.int .i64 1)]))else(if (decide ((↑(List.length (List.map enc (Mdu.im m))):Int)>20))=true then G ((.tup [(.str []),(.int .i64 1)]))else(if (decide ((↑(List.length (List.map enc (Mdu.ex m))):Int)>60))=true then G ((.tup [(.str []),(.int .i64 1)]))else(if (decide ((↑(List.length (List.map enc (Mdu.ds m))):Int)>60))=true then G ((.tup [(.str []),(.int .i64 1)]))else(ZA [(109:UInt8),(111:UInt8),(100:UInt8),(117:UInt8),(108:UInt8),(101:UInt8),(32:UInt8)] (Str.s (Mdu.name m))∧(if (decide ((↑(List.length (List.map enc (Mdu.im m))):Int)>0))=true then(F9 [(.sl 1 false (List.map enc (Mdu.im m)))] fun a=>(ZA [(105:UInt8),(109:UInt8),(112:UInt8),(111:UInt8),(114:UInt8),(116:UInt8),(32:UInt8)] (Str.s a)∧(if (decide ((↑(List.length (List.map enc (Mdu.ex m))):Int)>0))=true then(F9 [(.sl 1 false (List.map enc (Mdu.ex m)))] fun b=>(ZA [(101:UInt8),(120:UInt8),(112:UInt8),(111:UInt8),(114:UInt8),(116:UInt8),(32:UInt8)] (Str.s b)∧(At Qp 0 (Za V4 G) Uv 0 90 [(4,(.row 0 3 0 3)),(Pf m),(70,(.pv (.int .i64 (↑(List.length (List.map enc (Mdu.ds m))):Int)))),(71,(.pv (.int .i64 0)))] [(.obj (.row false 9 1 [(.str ([(109:UInt8),(111:UInt8),(100:UInt8),(117:UInt8),(108:UInt8),(101:UInt8),(32:UInt8)]++Str.s (Mdu.name m))),(.str ([(105:UInt8),(109:UInt8),(112:UInt8),(111:UInt8),(114:UInt8),(116:UInt8),(32:UInt8)]++Str.s a)),(.str ([(101:UInt8),(120:UInt8),(112:UInt8),(111:UInt8),(114:UInt8),(116:UInt8),(32:UInt8)]++Str.s b))]))])))else(At Qp 0 (Za V4 G) Uv 0 90 [(4,(.row 0 2 0 2)),(Pf m),(70,(.pv (.int .i64 (↑(List.length (List.map enc (Mdu.ds m))):Int)))),(71,(.pv (.int .i64 0)))] [(.obj (.row false 9 1 [(.str ([(109:UInt8),(111:UInt8),(100:UInt8),(117:UInt8),(108:UInt8),(101:UInt8),(32:UInt8)]++Str.s (Mdu.name m))),(.str ([(105:UInt8),(109:UInt8),(112:UInt8),(111:UInt8),(114:UInt8),(116:UInt8),(32:UInt8)]++Str.s a))]))]))))else(if (decide ((↑(List.length (List.map enc (Mdu.ex m))):Int)>0))=true then(F9 [(.sl 1 false (List.map enc (Mdu.ex m)))] fun e=>(ZA [(101:UInt8),(120:UInt8),(112:UInt8),(111:UInt8),(114:UInt8),(116:UInt8),(32:UInt8)] (Str.s e)∧(At Qp 0 (Za V4 G) Uv 0 90 [(4,(.row 0 2 0 2)),(Pf m),(70,(.pv (.int .i64 (↑(List.length (List.map enc (Mdu.ds m))):Int)))),(71,(.pv (.int .i64 0)))] [(.obj (.row false 9 1 [(.str ([(109:UInt8),(111:UInt8),(100:UInt8),(117:UInt8),(108:UInt8),(101:UInt8),(32:UInt8)]++Str.s (Mdu.name m))),(.str ([(101:UInt8),(120:UInt8),(112:UInt8),(111:UInt8),(114:UInt8),(116:UInt8),(32:UInt8)]++Str.s e))]))])))else(At Qp 0 (Za V4 G) Uv 0 90 [(4,(.row 0 1 0 1)),(Pf m),(70,(.pv (.int .i64 (↑(List.length (List.map enc (Mdu.ds m))):Int)))),(71,(.pv (.int .i64 0)))] [(.obj (.row false 9 1 [(.str ([(109:UInt8),(111:UInt8),(100:UInt8),(117:UInt8),(108:UInt8),(101:UInt8),(32:UInt8)]++Str.s (Mdu.name m)))]))])))))))))))))))):Zd Qp 0 (Za V4 G) Uv [] (Zx 90 [.agg [enc m.name,enc m.im,enc m.ex,enc m.ds]]):=Zd.tp (dm [dv Bool,dv Str] 176 0x222161007420022216100742222161013422100014222220222220064222220222222222200b4222220222222222222222010422512202222222222222222222201542251220222222222222222222222222201a45122) h
theorem b3u{G:PV->Prop}(m:Mdu)(i:Int)(k:Nat)(o:List Str)(h:if (decide (i<(↑(List.length (Mdu.ds m)):Int)))=true then(Xv (Mdu.ds m) i 17 fun b=>((f2d [(enc b)] fun j=>(if (!j)=true then G ((.tup [(.str []),(.int .i64 1)]))else((f1n [(enc b)] fun a=>((List.length (List.map enc o)==k&&k==k&&decide ((k+List.length (List.drop 0 (List.take 1 [enc a])))*16<=1099511627776)&&decide (k+List.length (List.drop 0 (List.take 1 [enc a]))<=1099511627776))=true∧(At Qp 0 (Za V4 G) Uv 0 90 [(4,(.row 0 (k+List.length (List.drop 0 (List.take 1 [enc a]))) 0 (k+List.length (List.drop 0 (List.take 1 [enc a]))))),(Pf m),(70,(.pv (.int .i64 (↑(List.length (Mdu.ds m)):Int)))),(71,(.pv (.int .i64 (IntKind.wrap IntKind.i64 (i+1)))))] [(.obj (.row false 9 1 (List.map enc o++List.drop 0 (List.take 1 [enc a]))))]))))))))else((List.length (List.map enc o)==k)=true∧((f1u [(.sl 1 false (List.drop 0 (List.take k (List.map enc o)))),(.str [(10:UInt8)])] fun g=>(ZA (Str.s g) [(10:UInt8)]∧(f1s [(.str (Str.s g++[(10:UInt8)]))] fun e=>(G ((.tup [(.str (Str.s e.1)),(.int .i64 e.2)]))))))))):At Qp 0 (Za V4 G) Uv 0 90 [(4,.row 0 k 0 k),(69,.pv (enc m.ds)),(70,.pv (.int .i64 m.ds.length)),(71,.pv (.int .i64 i))] [.obj (.row false 9 1 (o.map enc))]:=At.tp (dm [dr Df,dv Bool,dv Str,dv (Str×Int)] 30 0x8217110212271000146125101142) h
end Go.Pl
namespace Go.Pl
open Go.RowKit
open Enc (enc dec is)
open EncL (encL decL isL)
theorem TA{α:Type}(p:α->Bool): ∀ l:List α,(!(l.any fun x=> !(p x)))=l.all p
 | []=>rfl
 | a::l=>by rw[List.any_cons,List.all_cons,Bool.not_or,TA p l,Bool.not_not]
theorem d1m(r:List UInt8):(RX r==[])=r.all digB:=by
 rw[Bool.eq_iff_iff,beq_iff_eq,c1y]
theorem e2w: ∀ x:Str×Unit,decide (x.1.s.length<=1048576)=true->Zd e8n 0 (Za d3h (Zf (evB x.1.s))) c4l [] (Zx f0q (encL x)):=by
 rintro⟨⟨s⟩,⟨⟩⟩ h
 cases s with
 | nil=>exact e9k [] (ZN (by decide) (Zl rfl))
 | cons c r=>
  have hl:r.length+1<=1048576:=of_decide_eq_true h
  have e:List.drop (Int.toNat 1) (List.take (List.length (c::r)) (c::r))=r:=by rw[List.take_length];rfl
  have ev:evB (c::r)=(decide (65<=c)&&decide (c<=90)&&r.all digB&&decide (r.length<=29)):=rfl
  refine e9k (c::r) (ZV (by simp;omega) (ZU (fun h1=>Zl ?_) fun h1=>⟨by simp,ZU (fun h2=>Zl ?_) fun h2=>⟨by simp,ZU (fun h3=>Zl ?_) fun h3=>⟨by simp,?_⟩⟩⟩))
  ·rw[ev,decide_eq_false (show ¬ r.length<=29 by rw[List.length_cons]at h1;omega),Bool.and_false]
  ·have h2:(c.toNat:Int)<65:=h2
   rw[ev,decide_eq_false (fun k:(65:UInt8)<=c=>by have:65<=c.toNat:=UInt8.le_iff_toNat_le.1 k;omega)]
   rfl
  ·have h3:(c.toNat:Int)>90:=h3
   rw[ev,decide_eq_false (fun k:c<=(90:UInt8)=>by have:c.toNat<=90:=UInt8.le_iff_toNat_le.1 k;omega),Bool.and_false]
   rfl
  ·rw[e]
   have h2 : ¬ (c.toNat:Int)<65:=h2
   have h3 : ¬ (c.toNat:Int)>90:=h3
   refine⟨Zc ((⟨r⟩:Str),(⟨JN⟩:Str),()) rfl (by show(decide (r.length<=1048576)&&decide (JN=JN))=true;rw[decide_eq_true (by omega),decide_eq_true rfl];rfl),Zb ((⟨r⟩:Str),(⟨JN⟩:Str),()) rfl (Zl ?_)⟩
   show(RX r==[])=_
   rw[d1m,ev,decide_eq_true (show(65:UInt8)<=c from UInt8.le_iff_toNat_le.2 (by show 65<=c.toNat;omega)),decide_eq_true (show c<=(90:UInt8)from UInt8.le_iff_toNat_le.2 (by show c.toNat<=90;omega)),decide_eq_true (show r.length<=29 by rw[List.length_cons]at h1;omega),Bool.and_true]
   rfl
theorem e6e: ∀ x:Lin×Unit,Xx x.1=true->Zd e9q 0 (Za d3s (Zf (!(Zg x.1)))) c6e [] (Zx f4f (encL x)):=by
 rintro⟨l,⟨⟩⟩ h
 exact g0s l ⟨Zc (l,()) rfl h,Zb (l,()) rfl (Zl rfl)⟩
theorem d0y(l:List Lin)(hs : ∀ s∈l,Xx s=true)(hl:l.length<=1048576): ∀ (m i:Nat),m+i=l.length->(∀ j (h:j<l.length),j<i->(!(Zg l[j]))=false) ->
  At LC 0 (Za Ah (Zf (Yq (fun s:Lin=> !(Zg s)) l))) BV 0 19 [(0,.pv (enc l)),(1,.pv (.fn 159)),(7,.pv (.int .i64 l.length)),(8,.pv (.int .i64 i))] []:=by
 intro m
 induction m with
 | zero=>
  intro i hi b
  refine c9o l i (ZV (YD (by omega)) (UK ?_))
  rw[Gu _ _ (fun j e=>b j e (by omega))]
 | succ m ih=>
  intro i hi b
  have a:i<l.length:=by omega
  refine c9o l i (ZN (Yw a) ⟨Zt a rfl,ZK a ⟨Zc (l[i],()) rfl (hs _ (List.getElem_mem a)),Zb (l[i],()) rfl (YX (fun hb=> ?_) fun hb=> ?_)⟩⟩)
  ·exact UK (Gn (fun s:Lin=> !(Zg s)) l i a b hb).symm
  ·rw[next (by omega)]
   refine ih (i+1) (by omega) fun j e hji=> ?_
   by_cases he:j=i
   ·subst he;exact hb
   ·exact b j e (by omega)
theorem e0a: ∀ x:List Lin×FnV 159×Unit,(decide (x.1.length<=1048576)&&x.1.all Xx)=true->Zd LC 0 (Za Ah (Zf (Yq (fun s:Lin=> !(Zg s)) x.1))) BV [] (Zx f1t (encL x)):=by
 rintro⟨l,g,⟨⟩⟩ h
 simp only[Bool.and_eq_true,decide_eq_true_eq,List.all_eq_true]at h
 refine g0g l ?_
 rw[List.length_map]
 exact d0y l h.2 h.1 l.length 0 (by omega) fun j hj hji=>by omega
theorem e1x: ∀ x:List Lin×FnV 159×Unit,(decide (x.1.length<=1048576)&&x.1.all Xx)=true->Zd e8e 0 (Za d5b (Zf (x.1.any fun s:Lin=> !(Zg s)))) c7h [] (Zx f1j (encL x)):=by
 rintro⟨l,g,⟨⟩⟩ h
 exact f8r l ⟨Zc (l,{},()) rfl h,Zb (l,{},()) rfl (Zl (Wx _ _))⟩
structure SpB (r:Str) (l:List Lin):Prop where
 row:r.s.length<=1048576
 len:l.length<=1048576
 lin:l.all Xx=true
theorem spB{r:Str}{l:List Lin}(h:P5 ⟨r,l⟩=true):SpB r l:=by
 unfold P5 at h
 simp only[Bool.and_eq_true,decide_eq_true_eq]at h
 exact⟨h.1.1,h.1.2,h.2⟩
theorem TyB.sp{t:TyS}(h:TyB t):P5 ⟨t.row,t.dims⟩=true:=by
 unfold P5
 rw[decide_eq_true h.row,decide_eq_true h.dims,List.all_eq_true.2 h.lin];rfl
theorem a9q: ∀ x:Sp×Unit,P5 x.1=true->Zd R7 0 (Za AX (Zf (KV x.1.row x.1.dims))) MO [] (Zx c2g (encL x)):=by
 rintro⟨⟨r,l⟩,⟨⟩⟩ h
 have i:=spB h
 have m:(fun x:List Lin×FnV 159×Unit=>decide (x.1.length<=1048576)&&x.1.all Xx) (l,{},())=true:=by show(decide (l.length<=1048576)&&l.all Xx)=true;rw[decide_eq_true i.len,i.lin];rfl
 show Zd R7 0 (Za AX (Zf (KV r l))) _ _ _
 have k:(decide (r.s=[])||nameB r)=true->l.length<=6->(!(l.any fun x=> !(Zg x)))=KV r l:=fun a b=>by unfold KV;rw[TA,a,decide_eq_true b];rfl
 have j : ¬ l.length<=6->false=KV r l:=fun b=>by unfold KV;rw[decide_eq_false b,Bool.and_false];rfl
 refine c7c r l (Zy (fun g=>ZU (fun e=>⟨Zc (l,{},()) rfl m,Zb (l,{},()) rfl (Zl (k (by rw[decide_eq_true g];rfl) (by rw[List.length_map]at e;omega)))⟩) fun e=>Zl (j (by rw[List.length_map]at e;omega))) fun g=>⟨Zc (r,()) rfl (decide_eq_true (by have:=i.row;show r.s.length<=_;omega)),Zb (r,()) rfl (YX (fun hn=>ZU (fun e=>⟨Zc (l,{},()) rfl m,Zb (l,{},()) rfl (Zl (k (by rw[show nameB r=true from hn,Bool.or_true]) (by rw[List.length_map]at e;omega)))⟩) fun e=>Zl (j (by rw[List.length_map]at e;omega))) fun hn=>Zl ?_)⟩)
 have hn:nameB r=false:=hn
 unfold KV
 rw[hn,decide_eq_false g];rfl
theorem b1o: ∀ x:Sp×Unit,P5 x.1=true->Zd a2j 0 (Za MH (Zf (PY x.1.row x.1.dims))) LU [] (Zx c2w (encL x)):=by
 rintro⟨⟨r,l⟩,⟨⟩⟩ h
 refine c6h r l ⟨Zc (⟨r,l⟩,()) rfl h,Zb (⟨r,l⟩,()) rfl (Y8 (fun a=> ?_) fun a=>⟨Zc (⟨r,l⟩,()) rfl a,Zb (⟨r,l⟩,()) rfl ?_⟩)⟩
 ·have a:KV r l=false:=a
  exact Zh (x:=((⟨[]⟩,1):Str×Int)) (by show _=PY r l;unfold PY;rw[a];rfl)
 ·have a:KV r l=true:=a
  exact Zh (x:=((⟨Qo r l⟩,0):Str×Int)) (by show _=PY r l;unfold PY;rw[a];rfl)
theorem a8n: ∀ x:TyS×Unit,yW x.1=true->Zd a2t 0 (Za LJ (Zf (QZ x.1))) Mv [] (Zx c1z (encL x)):=by
 rintro⟨t,⟨⟩⟩ h
 have a:=tyB h
 have y:NS t.elem.s=true->KV t.row t.dims=QZ t:=fun e=>by unfold QZ;rw[e];rfl
 refine d5y t (Zy (fun h1=>⟨Zc (⟨t.row,t.dims⟩,()) rfl a.sp,Zb (⟨t.row,t.dims⟩,()) rfl (Zl (y ?_))⟩) fun h1=>Zy (fun h2=>⟨Zc (⟨t.row,t.dims⟩,()) rfl a.sp,Zb (⟨t.row,t.dims⟩,()) rfl (Zl (y ?_))⟩) fun h2=>⟨Zc (t.elem,()) rfl (decide_eq_true a.elem),Zb (t.elem,()) rfl (YX (fun h3=>⟨Zc (⟨t.row,t.dims⟩,()) rfl a.sp,Zb (⟨t.row,t.dims⟩,()) rfl (Zl (y ?_))⟩) fun h3=>Zl ?_)⟩)
 ·unfold NS;rw[show t.elem.s=Xb from h1];rfl
 ·unfold NS;rw[show t.elem.s=YM from h2];rfl
 ·unfold NS;rw[show evB t.elem.s=true from h3,Bool.or_true]
 ·have h3:evB t.elem.s=false:=h3
  unfold QZ NS
  rw[h3,decide_eq_false (show ¬ t.elem.s=Xb from h1),decide_eq_false (show ¬ t.elem.s=YM from h2)];rfl
theorem b7z: ∀ x:TyS×Unit,(yW x.1&&QZ x.1)=true->Zd b5k 0 (Za a3k (Zf (⟨tyT x.1⟩:Str))) a4y [] (Zx c7x (encL x)):=by
 rintro⟨t,⟨⟩⟩ h
 simp only[Bool.and_eq_true]at h
 have b:=tyB h.1
 have a:QZ t=true:=h.2
 have hs:KV t.row t.dims=true:=by unfold QZ at a;rw[Bool.and_eq_true]at a;exact a.2
 have e:PY t.row t.dims=(⟨Qo t.row t.dims⟩,0):=by unfold PY;rw[hs];rfl
 refine e2v t ⟨Zc (⟨t.row,t.dims⟩,()) rfl b.sp,Zb (⟨t.row,t.dims⟩,()) rfl ?_⟩
 rw[show PY (((⟨t.row,t.dims⟩,()):Sp×Unit).1).row (((⟨t.row,t.dims⟩,()):Sp×Unit).1).dims=_ from e]
 have l1:=Bc hs
 refine Zy (fun h1=>Zh (x:=t.elem) ?_) fun h1=>⟨Zj (by have:=b.elem;show(Qo t.row t.dims).length+t.elem.s.length<=_;omega),Zh (x:=(⟨Qo t.row t.dims++t.elem.s⟩:Str)) ?_⟩
 ·show _=(⟨tyT t⟩:Str)
  unfold tyT;rw[if_pos h1];rfl
 ·show _=(⟨tyT t⟩:Str)
  unfold tyT;rw[if_neg h1]
theorem a7n: ∀ x:TyS×Unit,yW x.1=true->Zd a1s 0 (Za Mh (Zf (KX x.1))) N8 [] (Zx c1l (encL x)):=by
 rintro⟨t,⟨⟩⟩ h
 refine d3g t ⟨Zc (t,()) rfl h,Zb (t,()) rfl (Y8 (fun a=> ?_) fun a=>⟨Zc (t,()) rfl ?_,Zb (t,()) rfl ?_⟩)⟩
 ·have a:QZ t=false:=a
  exact Zh (x:=((⟨[]⟩,1):Str×Int)) (by show _=KX t;unfold KX;rw[a];rfl)
 ·have h:yW t=true:=h
  show(yW t&&QZ t)=true
  rw[h,show QZ t=true from a];rfl
 ·have a:QZ t=true:=a
  exact Zh (x:=((⟨tyT t⟩,0):Str×Int)) (by show _=KX t;unfold KX;rw[a];rfl)
theorem b1v{l:Lin}(h:Zg l=true):Xg (Va l)=true:=by
 have h1:=Uh h
 unfold Xg Va
 rw[List.length_map,decide_eq_true (by omega),Bool.true_and,List.all_eq_true]
 intro s hs
 obtain⟨c,hc,rfl⟩:=List.mem_map.1 hs
 have:=Ve (WK h hc).1
 exact decide_eq_true (by omega)
theorem d2s: ∀ x:Lin×Unit,Zg x.1=true->Zd c8j 0 (Za b2q (Zf (!(Q7 x.1)))) b5q [] (Zx e7i (encL x)):=by
 rintro⟨l,⟨⟩⟩ h
 have h:Zg l=true:=h
 have h1:=Uh h
 exact f7m l ⟨Zc (l,()) rfl (decide_eq_true (by show l.t.length<=_;omega)),Zb (l,()) rfl ⟨Zc (Va l,()) rfl (b1v h),Zb (Va l,()) rfl (Zl rfl)⟩⟩
theorem d7j(l:List Lin)(hs : ∀ s∈l,Zg s=true)(hl:l.length<=1048576): ∀ (m i:Nat),m+i=l.length->(∀ j (h:j<l.length),j<i->(!(Q7 l[j]))=false) ->
  At NC 0 (Za Bp (Zf (Yq (fun s:Lin=> !(Q7 s)) l))) BI 0 19 [(0,.pv (enc l)),(1,.pv (.fn 100)),(7,.pv (.int .i64 l.length)),(8,.pv (.int .i64 i))] []:=by
 intro m
 induction m with
 | zero=>
  intro i hi b
  refine d2v l i (ZV (YD (by omega)) (UK ?_))
  rw[Gu _ _ (fun j e=>b j e (by omega))]
 | succ m ih=>
  intro i hi b
  have a:i<l.length:=by omega
  refine d2v l i (ZN (Yw a) ⟨Zt a rfl,ZK a ⟨Zc (l[i],()) rfl (hs _ (List.getElem_mem a)),Zb (l[i],()) rfl (YX (fun hb=> ?_) fun hb=> ?_)⟩⟩)
  ·exact UK (Gn (fun s:Lin=> !(Q7 s)) l i a b hb).symm
  ·rw[next (by omega)]
   refine ih (i+1) (by omega) fun j e hji=> ?_
   by_cases he:j=i
   ·subst he;exact hb
   ·exact b j e (by omega)
theorem e1f: ∀ x:List Lin×FnV 100×Unit,(decide (x.1.length<=1048576)&&x.1.all Zg)=true->Zd NC 0 (Za Bp (Zf (Yq (fun s:Lin=> !(Q7 s)) x.1))) BI [] (Zx f1i (encL x)):=by
 rintro⟨l,g,⟨⟩⟩ h
 simp only[Bool.and_eq_true,decide_eq_true_eq,List.all_eq_true]at h
 refine f9f l ?_
 rw[List.length_map]
 exact d7j l h.2 h.1 l.length 0 (by omega) fun j hj hji=>by omega
theorem e0m: ∀ x:List Lin×FnV 100×Unit,(decide (x.1.length<=1048576)&&x.1.all Zg)=true->Zd e8d 0 (Za c5y (Zf (x.1.any fun s:Lin=> !(Q7 s)))) d1g [] (Zx f2j (encL x)):=by
 rintro⟨l,g,⟨⟩⟩ h
 exact g0n l ⟨Zc (l,{},()) rfl h,Zb (l,{},()) rfl (Zl (Wx _ _))⟩
theorem JX{s:Str}(h:s.s.length<=1048576):Xg [s]=true:=by
 unfold Xg
 rw[decide_eq_true (by simp),List.all_cons,List.all_nil,decide_eq_true h];rfl
theorem Jm(s:Str):([s].all fun s:Str=>nameI s.s)=nameI s.s:=by rw[List.all_cons,List.all_nil,Bool.and_true]
theorem a1o{t:TyS}(h:QZ t=true):t.dims.length<=6∧t.dims.all Zg=true:=by
 unfold QZ KV at h
 simp only[Bool.and_eq_true,decide_eq_true_eq]at h
 exact⟨h.2.1.2,h.2.2⟩
theorem BP{α:Type}[BEq α][LawfulBEq α]{x y:α}{P Q:Prop}(h1:x≠y->P)(h2:x=y->Q):if (!(x==y))=true then P else Q:=by
 by_cases h:x=y
 ·rw[if_neg (by simpa using h)];exact h2 h
 ·rw[if_pos (by simpa using h)];exact h1 h
theorem b1p: ∀ x:TyS×Unit,yW x.1=true->Zd TW 0 (Za Av (Zf (Y7 x.1))) Mt [] (Zx c1c (encL x)):=by
 rintro⟨t,⟨⟩⟩ h
 have j:=tyB h
 show Zd TW 0 (Za Av (Zf (Y7 t))) _ _ _
 have es : ∀ b:Bool,(fun x:List Str×Unit=>x.1.all fun s:Str=>nameI s.s) ([t.row],())=b->nameI t.row.s=b:=fun b hb=>by rw[<- hb];exact(Jm t.row).symm
 have i:QZ t=true->(fun x:List Lin×FnV 100×Unit=>decide (x.1.length<=1048576)&&x.1.all Zg) (t.dims,{},())=true:=fun e=>by
  obtain⟨a,b⟩:=a1o e
  show(decide (t.dims.length<=1048576)&&t.dims.all Zg)=true
  rw[b,decide_eq_true (by omega)];rfl
 have fin:QZ t=true->(t.elem.s=Xb∨t.elem.s=YM)->(t.row.s=[]∨nameI t.row.s=true)->(!(t.dims.any fun l=> !(Q7 l)))=Y7 t:=fun a b c=>by
  unfold Y7
  rw[TA,a]
  have m:(decide (t.elem.s=Xb)||decide (t.elem.s=YM))=true:=by simpa using b
  have k:(decide (t.row.s=[])||nameI t.row.s)=true:=by simpa using c
  rw[m,k];rfl
 refine c4h t ⟨Zc (t,()) rfl h,Zb (t,()) rfl (Y8 (fun e=>Zl ?_) fun e=>BP (fun h1=> ?_) fun h1=> ?_)⟩
 ·have e:QZ t=false:=e
  unfold Y7;rw[e];rfl
 ·have e:QZ t=true:=e
  have h1:t.elem.s≠Xb:=h1
  refine BP (fun h2=>Zl ?_) fun h2=>BP (fun h3=>⟨Zc ([t.row],()) rfl (JX j.row),Zb ([t.row],()) rfl (Y8 (fun g=>Zl ?_) fun g=>⟨Zc (t.dims,{},()) rfl (i e),Zb (t.dims,{},()) rfl (Zl (fin e (.inr ?_) (.inr (es _ g))))⟩)⟩) fun h3=>⟨Zc (t.dims,{},()) rfl (i e),Zb (t.dims,{},()) rfl (Zl (fin e (.inr ?_) (.inl ?_)))⟩
  ·have h2:t.elem.s≠YM:=h2
   unfold Y7
   rw[decide_eq_false h1,decide_eq_false h2,Bool.or_self,Bool.and_false];rfl
  ·have h3:t.row.s≠[]:=h3
   unfold Y7
   rw[decide_eq_false h3,es _ g,Bool.or_self,Bool.and_false];rfl
  ·exact h2
  ·exact h2
  ·exact h3
 ·have e:QZ t=true:=e
  have h1:t.elem.s=Xb:=h1
  refine BP (fun h3=>⟨Zc ([t.row],()) rfl (JX j.row),Zb ([t.row],()) rfl (Y8 (fun g=>Zl ?_) fun g=>⟨Zc (t.dims,{},()) rfl (i e),Zb (t.dims,{},()) rfl (Zl (fin e (.inl h1) (.inr (es _ g))))⟩)⟩) fun h3=>⟨Zc (t.dims,{},()) rfl (i e),Zb (t.dims,{},()) rfl (Zl (fin e (.inl h1) (.inl ?_)))⟩
  ·have h3:t.row.s≠[]:=h3
   unfold Y7
   rw[decide_eq_false h3,es _ g,Bool.or_self,Bool.and_false];rfl
  ·exact h3
theorem a9g: ∀ x:Bool×TyS×Unit,yW x.2.1=true->Zd EL 0 (Za Lc (Zf (Yy x.1 x.2.1))) MC [] (Zx b9m (encL x)):=by
 rintro⟨b,t,⟨⟩⟩ h
 refine d2x b t (YX (fun hb=>⟨Zc (t,()) rfl h,Zb (t,()) rfl (Zl ?_)⟩) fun hb=>Zy (fun h1=>Zy (fun h2=>Zl ?_) fun h2=>Zl ?_) fun h1=>Zl ?_)
 ·show Y7 t=Yy b t
  unfold Yy;rw[hb];rfl
 ·show _=Yy b t
  unfold Yy
  rw[hb,decide_eq_true h1,decide_eq_true h2,List.length_map]
  by_cases h3:t.dims.length=0
  ·rw[h3];rfl
  ·rw[decide_eq_false h3]
   show((t.dims.length:Int)==0)=false
   simpa using h3
 ·show _=Yy b t
  unfold Yy
  rw[hb,decide_eq_false h2,Bool.and_false];rfl
 ·show _=Yy b t
  unfold Yy
  rw[hb,decide_eq_false h1];rfl
theorem CK{p:Pm}(h:pW p=true):p.name.s.length<=1048576∧yW p.ty=true:=by
 have h:=of_decide_eq_true h
 unfold wPm at h
 exact⟨by omega,decide_eq_true (by omega)⟩
theorem d0d: ∀ x:Pm×Unit,pW x.1=true->Zd d4l 0 (Za b6s (Zf (!(Bi x.1)))) b2x [] (Zx e0t (encL x)):=by
 rintro⟨p,⟨⟩⟩ h
 have a:=CK h
 refine f6y p ⟨Zc ([p.name],()) rfl (JX a.1),Zb ([p.name],()) rfl (Y8 (fun h1=>Zl ?_) fun h1=>⟨Zc (p.given,p.ty,()) rfl a.2,Zb (p.given,p.ty,()) rfl (Zl ?_)⟩)⟩
 ·have h1:nameI p.name.s=false:=(Jm p.name).symm.trans h1
  show true = !(Bi p)
  unfold Bi;rw[h1];rfl
 ·have h1:nameI p.name.s=true:=(Jm p.name).symm.trans h1
  show(!(Yy p.given p.ty)) = !(Bi p)
  unfold Bi;rw[h1];rfl
theorem d8t(l:List Pm)(hs : ∀ s∈l,pW s=true)(hl:l.length<=1048576): ∀ (m i:Nat),m+i=l.length->(∀ j (h:j<l.length),j<i->(!(Bi l[j]))=false) ->
  At MJ 0 (Za Bz (Zf (Yq (fun s:Pm=> !(Bi s)) l))) AZ 0 19 [(0,.pv (enc l)),(1,.pv (.fn 33)),(7,.pv (.int .i64 l.length)),(8,.pv (.int .i64 i))] []:=by
 intro m
 induction m with
 | zero=>
  intro i hi b
  refine d8m l i (ZV (YD (by omega)) (UK ?_))
  rw[Gu _ _ (fun j e=>b j e (by omega))]
 | succ m ih=>
  intro i hi b
  have a:i<l.length:=by omega
  refine d8m l i (ZN (Yw a) ⟨Zt a rfl,ZK a ⟨Zc (l[i],()) rfl (hs _ (List.getElem_mem a)),Zb (l[i],()) rfl (YX (fun hb=> ?_) fun hb=> ?_)⟩⟩)
  ·exact UK (Gn (fun s:Pm=> !(Bi s)) l i a b hb).symm
  ·rw[next (by omega)]
   refine ih (i+1) (by omega) fun j e hji=> ?_
   by_cases he:j=i
   ·subst he;exact hb
   ·exact b j e (by omega)
theorem e5f: ∀ x:List Pm×FnV 33×Unit,(decide (x.1.length<=1048576)&&x.1.all pW)=true->Zd MJ 0 (Za Bz (Zf (Yq (fun s:Pm=> !(Bi s)) x.1))) AZ [] (Zx f4g (encL x)):=by
 rintro⟨l,g,⟨⟩⟩ h
 simp only[Bool.and_eq_true,decide_eq_true_eq,List.all_eq_true]at h
 refine g3v l ?_
 rw[List.length_map]
 exact d8t l h.2 h.1 l.length 0 (by omega) fun j hj hji=>by omega
theorem e3f: ∀ x:List Pm×FnV 33×Unit,(decide (x.1.length<=1048576)&&x.1.all pW)=true->Zd e8x 0 (Za d8v (Zf (x.1.any fun s:Pm=> !(Bi s)))) c8w [] (Zx f4e (encL x)):=by
 rintro⟨l,g,⟨⟩⟩ h
 exact g2j l ⟨Zc (l,{},()) rfl h,Zb (l,{},()) rfl (Zl (Wx _ _))⟩
theorem UA(d:Df):CO d.n d.ks=encL (d.body,()):=ZY d.n d.ks
theorem a8h: ∀ x:Df×Unit,dW x.1=true->Zd TY 0 (Za BG (Zf (Z6 x.1))) Lm [] (Zx c3u (encL x)):=by
 rintro⟨d,⟨⟩⟩ h
 have b:=dfB h
 have e:(fun x:List Pm×FnV 33×Unit=>decide (x.1.length<=1048576)&&x.1.all pW) (d.ps,{},())=true:=by
  show(decide (d.ps.length<=1048576)&&d.ps.all pW)=true
  rw[decide_eq_true b.ps,List.all_eq_true.2 b.pw];rfl
 show Zd TY 0 (Za BG (Zf (Z6 d))) _ _ _
 refine d0s d ⟨Zc ([d.name],()) rfl (JX b.name),Zb ([d.name],()) rfl (YX (fun h1=>ZU (fun h2=>⟨Zc (d.given,d.res,()) rfl b.res,Zb (d.given,d.res,()) rfl (YX (fun h3=>⟨Zc (d.body,()) (UA d) b.body,Zb (d.body,()) (UA d) (YX (fun a=>⟨Zc (d.ps,{},()) rfl e,Zb (d.ps,{},()) rfl (Zl ?_)⟩) fun a=>Zl ?_)⟩) fun h3=>Zl ?_)⟩) fun h2=>Zl ?_) fun h1=>Zl ?_)⟩
 ·have h1:nameI d.name.s=true:=(Jm d.name).symm.trans h1
  have h3:Yy d.given d.res=true:=h3
  have a:YK d.body=true:=a
  show(!(d.ps.any fun p=> !(Bi p)))=Z6 d
  unfold Z6
  rw[TA,h1,h3,a,decide_eq_true (show d.ps.length<=8 by rw[List.length_map]at h2;omega)];rfl
 ·have a:YK d.body=false:=a
  unfold Z6;rw[a,Bool.and_false];rfl
 ·have h3:Yy d.given d.res=false:=h3
  unfold Z6;rw[h3,Bool.and_false];rfl
 ·unfold Z6;rw[decide_eq_false (show ¬ d.ps.length<=8 by rw[List.length_map]at h2;omega),Bool.and_false];rfl
 ·have h1:nameI d.name.s=false:=(Jm d.name).symm.trans h1
  unfold Z6;rw[h1];rfl
theorem a9k: ∀ x:Bool×TyS×Unit,yW x.2.1=true->Zd a5l 0 (Za Ls (Zf (⟨K5 x.1 x.2.1⟩:Str))) NM [] (Zx c3t (encL x)):=by
 rintro⟨b,t,⟨⟩⟩ h
 have:=TM t
 refine c4b b t (Y8 (fun hb=>Zh (x:=(⟨[]⟩:Str)) ?_) fun hb=>⟨Zc (t,()) rfl h,Zb (t,()) rfl ⟨Zj (by show 2+(KX t).1.s.length<=_;omega),Zh (x:=(⟨[58,32]++(KX t).1.s⟩:Str)) ?_⟩⟩)
 ·show _=(⟨K5 b t⟩:Str)
  unfold K5;rw[hb];rfl
 ·show _=(⟨K5 b t⟩:Str)
  unfold K5;rw[hb];rfl
theorem c8x: ∀ x:Pm×Unit,pW x.1=true->Zd c5z 0 (Za b4q (Zf (⟨pmT x.1⟩:Str))) b4k [] (Zx e4v (encL x)):=by
 rintro⟨p,⟨⟩⟩ h
 have a:=CK (p:=p) h
 have:=PH p.given p.ty
 exact f0s p ⟨Zc (p.given,p.ty,()) rfl a.2,Zb (p.given,p.ty,()) rfl ⟨Zj (by show p.name.s.length+(K5 p.given p.ty).length<=_;omega),Zh (x:=(⟨p.name.s++K5 p.given p.ty⟩:Str)) rfl⟩⟩
theorem b7x(l:List Pm)(hl:l.length<=1048576)(k : ∀ x∈l,pW x=true)(j:YO (l.map PW)=true): ∀ (d i:Nat),d+i=l.length ->
  At Ae 0 (Za Gv (Zf (Yh (l.map PW)))) GJ 0 27 [(1,.pv (.fn 35)),(5,.row 0 l.length 0 l.length),(11,.pv (enc l)),(12,.pv (.int .i64 l.length)),(13,.pv (.int .i64 i))] [.obj (.row false 9 1 ((G5 (l.map PW) i).map enc))]:=by
 intro d
 induction d with
 | zero=>
  intro i hi
  have g:i=l.length:=by omega
  subst g
  have e:G5 (l.map PW) l.length=l.map PW:=by have:=TH (l.map PW);rw[List.length_map]at this;exact this
  rw[e]
  have b:=BC (m:=l.map PW)
  rw[List.length_map]at b
  refine b3x l _ _ (ZV (YD (by omega)) ⟨by simp,?_⟩)
  rw[b]
  exact⟨Zc (l.map PW,()) rfl j,Zb (l.map PW,()) rfl (Zh rfl)⟩
 | succ d ih=>
  intro i hi
  have a:i<l.length:=by omega
  have ho:(G5 (l.map PW) i).length=l.length:=by rw[Tf _ _ (by rw[List.length_map];omega),List.length_map]
  refine b3x l _ _ (ZN (Yw a) ⟨Zt a rfl,ZK a ⟨Zc (l[i],()) rfl (k _ (List.getElem_mem a)),Zb (l[i],()) rfl ⟨Ex a ho,FX a ho,?_⟩⟩⟩)
  have e:(G5 (l.map PW) i).set i (PW l[i])=G5 (l.map PW) (i+1):=by
   have:=TG (m:=l.map PW) (i:=i) (by rw[List.length_map];exact a)
   rw[List.getElem_map]at this
   exact this
  have b:=Ob (o:=G5 (l.map PW) i) (i:=i) (by omega) (PW l[i])
  rw[e]at b
  rw[next (by omega)]
  have h:=ih (i+1) (by omega)
  rw[<- b]at h
  exact h
theorem f7z(l:List Pm):(Yh (l.map PW)).s=Zv (l.map pmT):=by unfold Yh;rw[List.map_map];rfl
theorem d5v: ∀ x:List Pm×FnV 35×Unit,(decide (x.1.length<=8)&&x.1.all pW)=true->Zd Ae 0 (Za Gv (Zf (Yh (x.1.map PW)))) GJ [] (Zx e7m (encL x)):=by
 rintro⟨l,g,⟨⟩⟩ h
 simp only[Bool.and_eq_true,decide_eq_true_eq,List.all_eq_true]at h
 have h1:l.length<=8:=h.1
 have a:YO (l.map PW)=true:=by
  have h2:=b5n h1 h.2
  unfold YO
  rw[decide_eq_true (by rw[List.length_map];omega),Bool.true_and]
  refine decide_eq_true ?_
  rw[List.map_map]
  exact Nat.le_trans h2 (by omega)
 refine f4y l ⟨by rw[List.length_map];exact b6n _ (by omega),?_⟩
 have:=b7x l (by omega) h.2 a l.length 0 (by omega)
 rw[CE,List.map_replicate,List.length_map]at this
 rw[List.length_map,Int.toNat_natCast]
 exact this
theorem b8i: ∀ x:Df×Unit,(dW x.1&&Z6 x.1)=true->Zd b7m 0 (Za ES (Zf (Hl x.1))) a1n [] (Zx c6i (encL x)):=by
 rintro⟨d,⟨⟩⟩ h
 simp only[Bool.and_eq_true]at h
 obtain⟨h,e⟩:=h
 have h:dW d=true:=h
 have e:Z6 d=true:=e
 have i:=dfB h
 have g:=Az h e
 unfold Z6 at e
 simp only[Bool.and_eq_true,decide_eq_true_eq]at e
 have m:(fun x:List Pm×FnV 35×Unit=>decide (x.1.length<=8)&&x.1.all pW) (d.ps,{},())=true:=by
  show(decide (d.ps.length<=8)&&d.ps.all pW)=true
  rw[decide_eq_true e.1.1.1.2,List.all_eq_true.2 i.pw];rfl
 have k:Z9 d.body=true:=Jq (by have:=e.1.2;unfold YK at this;rw[Bool.and_eq_true]at this;exact this.1)
 have j:=f7z d.ps
 unfold Ku at g
 rw[<- j]at g
 simp only[List.length_append,List.length_cons,List.length_nil]at g
 have l:(fun x:Tm×Unit=>tW x.1&&Z9 x.1) (d.body,())=true:=by show(tW d.body&&Z9 d.body)=true;rw[i.body,k];rfl
 have L : ∀ a b:List UInt8,a.length+b.length<=1200000000->a.length+b.length<=1099511627776:=fun a b h=>by omega
 refine e5s d ⟨Zc (d.ps,{},()) rfl m,Zb (d.ps,{},()) rfl ⟨Zj (L _ _ ?_),Zj (L _ _ ?_),Zj (L _ _ ?_),Zj (L _ _ ?_),Zc (d.given,d.res,()) rfl i.res,Zb (d.given,d.res,()) rfl ⟨Zj (L _ _ ?_),Zj (L _ _ ?_),Zc (d.body,()) (UA d) l,Zb (d.body,()) (UA d) ⟨Zj (L _ _ ?_),Zh (x:=(⟨_⟩:Str)) ?_⟩⟩⟩⟩
 case refine_8=>
  show(⟨_⟩:Str)=Hl d
  unfold Hl Ku
  rw[<- j]
  rfl
 all_goals
  show List.length (_:List UInt8)+List.length (_:List UInt8)<=_
  simp only[List.length_append,List.length_cons,List.length_nil,Zr]
  omega
theorem b6o(r:Str)(l:List Lin)(b:KV r l=true): ∀ (d i:Nat) (o:List Str),d+i=l.length->o.map (·.s)++(l.drop i).map ZC=JP r l ->
  At Uw 0 (Za Vh (Zf (⟨Qo r l⟩:Str))) VH 0 32 [(3,.row 0 o.length 0 o.length),(16,.pv (enc l)),(17,.pv (.int .i64 l.length)),(18,.pv (.int .i64 i))] [.obj (.row false 9 1 (o.map enc))]:=by
 have m:=Bc b
 have h6:l.length<=6:=by unfold KV at b;simp only[Bool.and_eq_true,decide_eq_true_eq]at b;exact b.1.2
 have k : ∀ x∈l,Zg x=true:=by unfold KV at b;simp only[Bool.and_eq_true]at b;exact List.all_eq_true.1 b.2
 have g:(JP r l).length<=7:=by unfold JP;rw[List.length_append,List.length_map];split <;> simp <;> omega
 unfold Qo at m
 rw[List.length_append,List.length_append]at m
 intro d
 induction d with
 | zero=>
  intro i o hi j
  rw[List.drop_eq_nil_of_le (by omega),List.map_nil,List.append_nil]at j
  have ho:o.length<=7:=by rw[<- j,List.length_map]at g;exact g
  have e:Yh o=⟨Zv (JP r l)⟩:=by unfold Yh;rw[j]
  refine LD r l i o.length o (ZV (YD (by omega)) ⟨by simp,?_⟩)
  rw[BC]
  refine⟨Zc (o,(⟨[44,32]⟩:Str),()) rfl ?_,Zb (o,(⟨[44,32]⟩:Str),()) rfl ?_⟩
  ·show(YO o&&decide _)=true
   unfold YO
   rw[decide_eq_true (show o.length<=1048576 by omega),j,decide_eq_true (show(Zv (JP r l)).length<=_ by omega),decide_eq_true rfl];rfl
  ·rw[show Yh ((o,(⟨[44,32]⟩:Str),()):List Str×Str×Unit).1=⟨Zv (JP r l)⟩from e]
   exact⟨Zj (by show 1+(Zv (JP r l)).length<=_;omega),Zj (by rw[List.length_append];show 1+(Zv (JP r l)).length+1<=_;omega),Zh (x:=(⟨[91]++Zv (JP r l)++[93]⟩:Str)) rfl⟩
 | succ d ih=>
  intro i o hi j
  have a:i<l.length:=by omega
  have ho:o.length<=7:=by rw[<- j,List.length_append,List.length_map]at g;omega
  have h:=ih (i+1) (o++[⟨ZC l[i]⟩]) (by omega) (by rw[<- j,List.drop_eq_getElem_cons a,List.map_append,List.map_cons,List.append_assoc];rfl)
  rw[List.length_append,List.map_append]at h
  refine LD r l i o.length o (ZN (Yw a) ⟨Zt a rfl,ZK a ⟨Zc (l[i],()) rfl (Ui (k _ (List.getElem_mem a))),Zb (l[i],()) rfl ⟨?_,?_⟩⟩⟩)
  ·show(List.length (List.map (enc:Str->PV) o)==o.length&&o.length==o.length&&decide ((o.length+1)*16<=1099511627776)&&decide (o.length+1<=1099511627776))=true
   rw[List.length_map,decide_eq_true (by omega),decide_eq_true (by omega)];simp
  ·rw[next (by omega)]
   exact h
theorem c2y: ∀ x:Sp×Unit,KV x.1.row x.1.dims=true->Zd Uw 0 (Za Vh (Zf (⟨Qo x.1.row x.1.dims⟩:Str))) VH [] (Zx c9e (encL x)):=by
 rintro⟨⟨r,l⟩,⟨⟩⟩ b
 have b:KV r l=true:=b
 show Zd Uw 0 (Za Vh (Zf (⟨Qo r l⟩:Str))) _ _ _
 have h6:l.length<=6:=by unfold KV at b;simp only[Bool.and_eq_true,decide_eq_true_eq]at b;exact b.1.2
 have i : ∀ x∈l,Zg x=true:=by unfold KV at b;simp only[Bool.and_eq_true]at b;exact List.all_eq_true.1 b.2
 have hr:r.s.length<=40∨r.s=[]:=by
  unfold KV at b
  simp only[Bool.and_eq_true,Bool.or_eq_true,decide_eq_true_eq]at b
  rcases b.1.1 with h|h
  ·exact .inr h
  ·have:=Ve h;exact .inl (by omega)
 refine e6p r l (BP (fun e=>⟨Zj (by have:=hr.resolve_right e;show r.s.length+2<=_;omega),?_⟩) fun e=> ?_)
 ·rw[List.length_map]
  exact b6o r l b l.length 0 [⟨r.s++[46,46]⟩] (by omega) (by unfold JP;rw[if_neg e];rfl)
 ·rw[List.length_map]
  cases l with
  | nil=>
   refine Ml r [] (0:Nat) (ZV (by simp) (DU ([],(⟨[44,32]⟩:Str),()) rfl ⟨Zj (by decide),Zj (by decide),Zh (x:=(⟨[91]++[]++[93]⟩:Str)) ?_⟩))
   have e:r.s=[]:=e
   unfold Qo JP
   rw[if_pos e];rfl
  | cons a t=>
   have g:0<(a::t).length:=by simp
   refine Ml r (a::t) (0:Nat) (ZN (Yw g) ⟨Zt g rfl,ZK g ⟨Zc (a,()) rfl (Ui (i _ (by simp))),Zb (a,()) rfl ?_⟩⟩)
   rw[next (by omega)]
   exact b6o r (a::t) b t.length 1 [⟨ZC a⟩] (by simp) (by have e:r.s=[]:=e;unfold JP;rw[if_pos e];rfl)
theorem d5g: ∀ l:List (List UInt8),l≠[]->F3 l++[10]=Qd l
 | [],h=>absurd rfl h
 | [s],_=>by simp[F3,Qd]
 | s::t::r,_=>by
  have h:=d5g (t::r) (by simp)
  unfold Qd at h ⊢
  rw[F3,List.flatMap_cons,<- h,List.append_assoc]
  simp
theorem c6r: ∀ l:List (List UInt8),(F3 l).length<=(l.map fun s=>s.length+1).sum
 | []=>Nat.le_refl _
 | [s]=>by simp[F3]
 | s::t::r=>by
  have h:=c6r (t::r)
  have e:F3 (s::t::r)=s++[10]++F3 (t::r):=by rw[F3];simp
  rw[e,List.length_append,List.length_append,List.map_cons,List.sum_cons]
  simp only[List.length_cons,List.length_nil]
  omega
theorem c1k(m:Mdu)(r:mW m=true)(h60:m.ds.length<=60)(R:Str×Int): ∀ (d i:Nat) (o:List Str),d+i=m.ds.length->1<=o.length->o.length<=3+i->(∀ s∈o,s.s.length<=1200000000) ->
  R=(if (m.ds.drop i).all Z6 then Jg ⟨Qd (o.map (·.s)++(m.ds.drop i).map Ku)⟩else(⟨[]⟩,1)) ->
  At Qp 0 (Za V4 (Zf R)) Uv 0 90 [(4,.row 0 o.length 0 o.length),(69,.pv (enc m.ds)),(70,.pv (.int .i64 m.ds.length)),(71,.pv (.int .i64 i))] [.obj (.row false 9 1 (o.map enc))]:=by
 have q:=mdB r
 intro d
 induction d with
 | zero=>
  intro i o hi h1 ho hs b
  rw[List.drop_eq_nil_of_le (by omega),List.map_nil,List.append_nil,List.all_nil,if_pos rfl]at b
  have hn:=c6r (o.map (·.s))
  have j:=QB (f:=fun s:List UInt8=>s.length+1) (c:=1200000001) (l:=o.map (·.s)) fun s g=>by
   obtain⟨y,k,rfl⟩:=List.mem_map.1 g
   have:=hs y k
   show y.s.length+1<=_
   omega
  rw[List.length_map]at j
  have hle:(F3 (o.map (·.s))).length<=80000000000:=by
   have:1200000001*o.length<=1200000001*63:=Nat.mul_le_mul_left _ (by omega)
   omega
  refine b3u m i o.length o (ZV (YD (by omega)) ⟨by simp,?_⟩)
  rw[BC]
  refine⟨Zc (o,(⟨[10]⟩:Str),()) rfl ?_,Zb (o,(⟨[10]⟩:Str),()) rfl ⟨Zj (by show(F3 (o.map (·.s))).length+1<=_;omega),Zb ((⟨F3 (o.map (·.s))++[10]⟩:Str),()) rfl ?_⟩⟩
  ·show(Rt o&&decide _)=true
   unfold Rt
   rw[decide_eq_true (show o.length<=1048576 by omega),decide_eq_true (show(F3 (o.map (·.s))).length<=_ by omega),decide_eq_true rfl];rfl
  ·refine Zh (x:=Jg ⟨F3 (o.map (·.s))++[10]⟩) ?_
   rw[b,d5g _ (fun e=>by have:=congrArg List.length e;simp at this;subst this;simp at h1)]
 | succ d ih=>
  intro i o hi h1 ho hs b
  have a:i<m.ds.length:=by omega
  have hd:=q.ds _ (List.getElem_mem a)
  rw[List.drop_eq_getElem_cons a,List.all_cons]at b
  refine b3u m i o.length o (ZN (Yw a) ⟨Zt a rfl,ZK a ⟨Zc (m.ds[i],()) rfl hd,Zb (m.ds[i],()) rfl (Y8 (fun hb=> ?_) fun hb=>⟨Zc (m.ds[i],()) rfl ?_,Zb (m.ds[i],()) rfl ⟨?_,?_⟩⟩)⟩⟩)
  ·have hb:Z6 m.ds[i]=false:=hb
   rw[hb]at b
   exact Zh (x:=((⟨[]⟩,1):Str×Int)) b.symm
  ·have hb:Z6 m.ds[i]=true:=hb
   show(dW m.ds[i]&&Z6 m.ds[i])=true
   rw[hd,hb];rfl
  ·show(List.length (List.map (enc:Str->PV) o)==o.length&&o.length==o.length&&decide ((o.length+1)*16<=1099511627776)&&decide (o.length+1<=1099511627776))=true
   rw[List.length_map,decide_eq_true (by omega),decide_eq_true (by omega)];simp
  ·have hb:Z6 m.ds[i]=true:=hb
   rw[hb,Bool.true_and]at b
   have h:=ih (i+1) (o++[Hl m.ds[i]]) (by omega) (by rw[List.length_append];omega) (by rw[List.length_append];show o.length+1<=_;omega)
    (fun s g=>by
     rcases List.mem_append.1 g with g|g
     ·exact hs s g
     ·rw[List.mem_singleton.1 g];exact Az hd hb)
    (by rw[b,List.map_append,List.map_cons,List.append_assoc];rfl)
   rw[List.length_append,List.map_append]at h
   rw[next (by omega)]
   exact h
theorem Gm{l:List Str}{n:Nat}(hn:l.length<=n)(hc:n<=1000)(h:(l.all fun s=>nameI s.s)=true):(Zv (l.map (·.s))).length<=40000:=by
 have h1:=YW (l.map (·.s))
 have h2:=QB (f:=fun s:List UInt8=>s.length+2) (c:=32) (l:=l.map (·.s)) fun s hs=>by
  obtain⟨y,a,rfl⟩:=List.mem_map.1 hs
  have:=(Xo (List.all_eq_true.1 h y a)).2.2
  show y.s.length+2<=_
  omega
 rw[List.length_map]at h2
 omega
theorem RQ{l:List Str}{n:Nat}(hn:l.length<=n)(hc:n<=1000)(h:(l.all fun s=>nameI s.s)=true):YO l=true:=by
 have:=Gm hn hc h
 unfold YO
 rw[decide_eq_true (by omega),decide_eq_true (by omega)];rfl
theorem D8{l:List Str}(h1:l.length<=1048576)(h2 : ∀ s∈l,s.s.length<=1048576):Xg l=true:=by
 unfold Xg
 rw[decide_eq_true h1,Bool.true_and,List.all_eq_true]
 exact fun s hs=>decide_eq_true (h2 s hs)
theorem c4y: ∀ x:Mdu×Unit,mW x.1=true->Zd Qp 0 (Za V4 (Zf (QO x.1))) Uv [] (Zx d9u (encL x)):=by
 rintro⟨m,⟨⟩⟩ u
 have j:=mdB u
 have u:mW m=true:=u
 show Zd Qp 0 (Za V4 (Zf (QO m))) _ _ _
 have bad:V6 m=false->Zf (QO m) (.tup [.str [],.int .i64 1]):=fun h=>Zh (x:=((⟨[]⟩,1):Str×Int)) (by unfold QO;rw[h];rfl)
 refine f3y m ⟨Zc ([m.name],()) rfl (JX j.name),Zb ([m.name],()) rfl (Y8 (fun h1=>bad ?_) fun h1=>⟨Zc (m.im,()) rfl (D8 j.iml j.im),Zb (m.im,()) rfl (Y8 (fun h2=>bad ?_) fun h2=>⟨Zc (m.ex,()) rfl (D8 j.exl j.ex),Zb (m.ex,()) rfl (Y8 (fun h3=>bad ?_) fun h3=>ZU (fun B=>bad ?_) fun B=>ZU (fun A=>bad ?_) fun A=>ZU (fun y=>bad ?_) fun y=> ?_)⟩)⟩)⟩
 ·have h1:nameI m.name.s=false:=(Jm m.name).symm.trans h1
  unfold V6;rw[h1];rfl
 ·have h2:(m.im.all fun s=>nameI s.s)=false:=h2
  unfold V6;rw[h2,Bool.and_false];rfl
 ·have h3:(m.ex.all fun s=>nameI s.s)=false:=h3
  unfold V6;rw[h3,Bool.and_false];rfl
 ·rw[List.length_map]at B
  unfold V6;rw[decide_eq_false (show ¬ m.im.length<=20 by omega),Bool.and_false];rfl
 ·rw[List.length_map]at A
  unfold V6;rw[decide_eq_false (show ¬ m.ex.length<=60 by omega),Bool.and_false];rfl
 ·rw[List.length_map]at y
  unfold V6;rw[decide_eq_false (show ¬ m.ds.length<=60 by omega),Bool.and_false]
 ·have h1:nameI m.name.s=true:=(Jm m.name).symm.trans h1
  have h2:(m.im.all fun s=>nameI s.s)=true:=h2
  have h3:(m.ex.all fun s=>nameI s.s)=true:=h3
  rw[List.length_map]at B A y
  have l1:=(Xo h1).2.2
  have F:V6 m=true:=by unfold V6;rw[h1,h2,h3,decide_eq_true (by omega),decide_eq_true (by omega),decide_eq_true (by omega)];rfl
  have c2:=Gm (n:=20) (by omega) (by omega) h2
  have c3:=Gm (n:=60) (by omega) (by omega) h3
  have g : ∀ o:List Str,o.map (·.s)=[e4a++[32]++m.name.s]++Q5 Ao m.im++Q5 SL m.ex->1<=o.length->o.length<=3->(∀ s∈o,s.s.length<=1200000000) ->
    At Qp 0 (Za V4 (Zf (QO m))) Uv 0 90 [(4,.row 0 o.length 0 o.length),(69,.pv (enc m.ds)),(70,.pv (.int .i64 m.ds.length)),(71,.pv (.int .i64 ((0:Nat):Int)))] [.obj (.row false 9 1 (o.map enc))]:=fun o ho h1 h2 h3=>
   c1k m u (by omega) (QO m) m.ds.length 0 o (by omega) h1 (by omega) h3 (by unfold QO f1m a9y;rw[F,Bool.true_and,List.drop_zero,ho])
  refine⟨Zj (by show 7+m.name.s.length<=_;omega),?_⟩
  rw[List.length_map,List.length_map,List.length_map]
  have r : ∀ s:Str,s=⟨[109,111,100,117,108,101,32]++m.name.s⟩->s.s.length<=1200000000:=fun s e=>by rw[e];simp only[e4a,List.length_append,List.length_cons,List.length_nil];omega
  have D : ∀ s:Str,s=⟨[105,109,112,111,114,116,32]++Zv (m.im.map (·.s))⟩->s.s.length<=1200000000:=fun s e=>by rw[e];simp only[Ao,List.length_append,List.length_cons,List.length_nil];omega
  have E : ∀ s:Str,s=⟨[101,120,112,111,114,116,32]++Zv (m.ex.map (·.s))⟩->s.s.length<=1200000000:=fun s e=>by rw[e];simp only[SL,List.length_append,List.length_cons,List.length_nil];omega
  have k : ∀ w:List UInt8,Q5 w []=[]:=fun w=>rfl
  have q : ∀ (w:List UInt8) (l:List Str),l≠[]->Q5 w l=[w++[32]++Zv (l.map (·.s))]:=fun w l h=>by unfold Q5;rw[if_neg h]
  have H:m.im≠[]->(fun x:List Str×Unit=>YO x.1) (m.im,())=true:=fun _=>by show YO m.im=true;exact RQ (n:=20) (by omega) (by omega) h2
  have C:m.ex≠[]->(fun x:List Str×Unit=>YO x.1) (m.ex,())=true:=fun _=>by show YO m.ex=true;exact RQ (n:=60) (by omega) (by omega) h3
  have z : ∀ {l:List Str},¬ ((l.length:Nat):Int)>0->l=[]:=fun {l} h=>List.length_eq_zero_iff.1 (by omega)
  have i : ∀ {l:List Str},((l.length:Nat):Int)>0->l≠[]:=fun {l} h e=>by subst e;simp at h
  refine ZU (fun a=>⟨Zc (m.im,()) rfl (H (i a)),Zb (m.im,()) rfl ⟨Zj (by show 7+(Zv (m.im.map (·.s))).length<=_;omega),ZU (fun b=>⟨Zc (m.ex,()) rfl (C (i b)),Zb (m.ex,()) rfl ⟨Zj (by show 7+(Zv (m.ex.map (·.s))).length<=_;omega),?_⟩⟩) fun b=> ?_⟩⟩) fun a=>ZU (fun b=>⟨Zc (m.ex,()) rfl (C (i b)),Zb (m.ex,()) rfl ⟨Zj (by show 7+(Zv (m.ex.map (·.s))).length<=_;omega),?_⟩⟩) fun b=> ?_
  ·refine id (g [⟨[109,111,100,117,108,101,32]++m.name.s⟩,⟨[105,109,112,111,114,116,32]++Zv (m.im.map (·.s))⟩,⟨[101,120,112,111,114,116,32]++Zv (m.ex.map (·.s))⟩] (by rw[q _ _ (i a),q _ _ (i b)];rfl) (by simp) (by simp) fun s hs=> ?_)
   simp only[List.mem_cons,List.not_mem_nil,or_false]at hs
   rcases hs with hs|hs|hs
   ·exact r s hs
   ·exact D s hs
   ·exact E s hs
  ·refine id (g [⟨[109,111,100,117,108,101,32]++m.name.s⟩,⟨[105,109,112,111,114,116,32]++Zv (m.im.map (·.s))⟩] (by rw[q _ _ (i a),z b,k];rfl) (by simp) (by simp) fun s hs=> ?_)
   simp only[List.mem_cons,List.not_mem_nil,or_false]at hs
   rcases hs with hs|hs
   ·exact r s hs
   ·exact D s hs
  ·refine id (g [⟨[109,111,100,117,108,101,32]++m.name.s⟩,⟨[101,120,112,111,114,116,32]++Zv (m.ex.map (·.s))⟩] (by rw[z a,k,q _ _ (i b)];rfl) (by simp) (by simp) fun s hs=> ?_)
   simp only[List.mem_cons,List.not_mem_nil,or_false]at hs
   rcases hs with hs|hs
   ·exact r s hs
   ·exact E s hs
  ·refine id (g [⟨[109,111,100,117,108,101,32]++m.name.s⟩] (by rw[z a,z b,k,k];rfl) (by simp) (by simp) fun s hs=> ?_)
   exact r s (List.mem_singleton.1 hs)
theorem b3n{a b:UInt8}(h:a.toNat<=b.toNat):a<=b:=UInt8.le_iff_toNat_le.2 h
theorem b4s{a b:UInt8}(h:a<=b):a.toNat<=b.toNat:=UInt8.le_iff_toNat_le.1 h
theorem g2k{s:List UInt8}{i:Nat}(h:i<s.length):s.getD (Int.toNat (i:Int)) 0=s[i]:=by rw[Int.toNat_natCast,List.getD_eq_getElem?_getD,List.getElem?_eq_getElem h];rfl
theorem a6h(c:UInt8)(r:List UInt8)(hl:r.length<=1048576)(R:Bool): ∀ (d i:Nat),d+i=r.length+1->1<=i->R=(decide (65<=c)&&decide (c<=90)&&((c::r).drop i).all digB&&decide (r.length<=29)) ->
  At K7 0 (Za QD (Zf R)) Qr 0 38 [(0,.pv (.str (c::r))),(3,.pv (.int .i64 i))] []:=by
 intro d
 induction d with
 | zero=>
  intro i hi h1 b
  rw[List.drop_eq_nil_of_le (by rw[List.length_cons];omega),List.all_nil,Bool.and_true]at b
  refine RF (c::r) i (ZV (YD (by rw[List.length_cons];omega)) (ZN (decide_eq_true (by rw[List.length_cons];omega)) (ZU (fun h2=>⟨by simp,ZU (fun h3=>⟨by simp,Zl ?_⟩) fun h3=>Zl ?_⟩) fun h2=>Zl ?_)))
  ·rw[List.length_cons]at h2
   have h3:(c.toNat:Int) ≥ 65:=h3
   rw[b,decide_eq_true (show(65:UInt8)<=c from b3n (by show 65<=c.toNat;omega)),decide_eq_true (show r.length<=29 by omega),Bool.and_true,Bool.true_and]
   show decide ((c.toNat:Int)<=90)=_
   exact decide_eq_decide.2 ⟨fun h=>b3n (by show c.toNat<=90;omega),fun h=>by have:c.toNat<=90:=b4s h;omega⟩
  ·have h3 : ¬ (c.toNat:Int) ≥ 65:=h3
   rw[b,decide_eq_false (fun k:(65:UInt8)<=c=>by have:65<=c.toNat:=b4s k;omega)];rfl
  ·rw[List.length_cons]at h2
   rw[b,decide_eq_false (show ¬ r.length<=29 by omega),Bool.and_false]
 | succ d ih=>
  intro i hi h1 b
  have a:i<(c::r).length:=by rw[List.length_cons];omega
  have e:(decide (0<=(i:Int))&&decide (Int.toNat (i:Int)<List.length (c::r)))=true:=by simp at a ⊢;omega
  have g:=g2k a
  rw[List.drop_eq_getElem_cons a,List.all_cons]at b
  refine RF (c::r) i (ZN (Yw a) ⟨e,ZU (fun h2=>Zl ?_) fun h2=>⟨e,ZU (fun h3=>Zl ?_) fun h3=> ?_⟩⟩)
  ·rw[g]at h2
   have:digB (c::r)[i]=false:=by unfold digB;rw[decide_eq_false (fun k:(48:UInt8)<=(c::r)[i]=>by have:48<=(c::r)[i].toNat:=b4s k;omega)];rfl
   rw[b,this,Bool.false_and,Bool.and_false];rfl
  ·rw[g]at h3
   have:digB (c::r)[i]=false:=by unfold digB;rw[decide_eq_false (fun k:(c::r)[i]<=(57:UInt8)=>by have:(c::r)[i].toNat<=57:=b4s k;omega),Bool.and_false]
   rw[b,this,Bool.false_and,Bool.and_false];rfl
  ·rw[g]at h2 h3
   have:digB (c::r)[i]=true:=by unfold digB;rw[decide_eq_true (show(48:UInt8)<=(c::r)[i]from b3n (by show 48<=(c::r)[i].toNat;omega)),decide_eq_true (show(c::r)[i]<=(57:UInt8)from b3n (by show(c::r)[i].toNat<=57;omega))];rfl
   rw[next (by omega)]
   exact ih (i+1) (by omega) (by omega) (by rw[b,this,Bool.true_and])
theorem c1f: ∀ x:Str×Unit,decide (x.1.s.length<=1048576)=true->Zd K7 0 (Za QD (Zf (evB x.1.s))) Qr [] (Zx d8c (encL x)):=by
 rintro⟨⟨s⟩,⟨⟩⟩ h
 cases s with
 | nil=>
  refine b3s [] ?_
  show At K7 0 (Za QD (Zf (evB []))) Qr 0 38 [(0,.pv (.str [])),(3,.pv (.int .i64 ((1:Nat):Int)))] []
  exact RF [] (1:Nat) (ZV (by decide) (ZV (by decide) (Zl rfl)))
 | cons c r=>
  have hl:r.length+1<=1048576:=of_decide_eq_true h
  refine b3s (c::r) ?_
  exact a6h c r (by omega) _ r.length 1 (by omega) (by omega) rfl
theorem c1j: ∀ x:Str×Unit,decide (x.1.s.length<=1048576)=true->Zd b7j 0 (Za EO (Zf (NS x.1.s))) a0b [] (Zx d6l (encL x)):=by
 rintro⟨⟨s⟩,⟨⟩⟩ h
 refine e6l s (Zy (fun h1=>Zl ?_) fun h1=>Zy (fun h2=>Zl ?_) fun h2=>⟨Zc ((⟨s⟩:Str),()) rfl h,Zb ((⟨s⟩:Str),()) rfl (Zl ?_)⟩)
 ·show true=NS s
  unfold NS;rw[show s=Xb from h1];rfl
 ·show true=NS s
  unfold NS;rw[show s=YM from h2];rfl
 ·show evB s=NS s
  unfold NS;rw[decide_eq_false (show ¬ s=Xb from h1),decide_eq_false (show ¬ s=YM from h2)];rfl
theorem e1z{l:Lin}(h:Xx l=true):XK l=true:=by unfold Xx at h;rw[Bool.and_eq_true]at h;exact h.1
theorem b0s(r:Str)(l:List Lin)(hl:l.length<=1048576)(hb : ∀ x∈l,Xx x=true)(R:Bool): ∀ (d i:Nat),d+i=l.length->R=((decide (r.s=[])||nameB r)&&decide (l.length<=6)&&(l.drop i).all Zg) ->
  At GL 0 (Za KT (Zf R)) KH 0 32 [(1,.ptr 0 0),(3,.pv (.int .i64 i))] [.obj (.box [.pv (.str r.s),.pv (.sl 2 false (l.map enc))])]:=by
 intro d
 induction d with
 | zero=>
  intro i hi b
  rw[List.drop_eq_nil_of_le (by omega),List.all_nil,Bool.and_true]at b
  refine a4h r l i (ZV (X7 (by omega)) (ZU (fun h1=>Zy (fun h2=>Zl ?_) fun h2=>Zb (r,()) rfl (Zl ?_)) fun h1=>Zl ?_))
  ·rw[List.length_map]at h1
   rw[b,decide_eq_true h2,decide_eq_true (show l.length<=6 by omega)];rfl
  ·rw[List.length_map]at h1
   rw[b,decide_eq_false h2,decide_eq_true (show l.length<=6 by omega),Bool.and_true];rfl
  ·rw[List.length_map]at h1
   rw[b,decide_eq_false (show ¬ l.length<=6 by omega),Bool.and_false]
 | succ d ih=>
  intro i hi b
  have a:i<l.length:=by omega
  rw[List.drop_eq_getElem_cons a,List.all_cons]at b
  refine a4h r l i (ZN (XY a) ⟨Zt a rfl,ZK a ⟨Zc (l[i],()) rfl (e1z (hb _ (List.getElem_mem a))),Zb (l[i],()) rfl (Y8 (fun h1=>Zl ?_) fun h1=> ?_)⟩⟩)
  ·have h1:Zg l[i]=false:=h1
   rw[b,h1,Bool.false_and,Bool.and_false]
  ·have h1:Zg l[i]=true:=h1
   rw[next (by omega)]
   exact ih (i+1) (by omega) (by rw[b,h1,Bool.true_and])
theorem c1r: ∀ x:Sp×Unit,P5 x.1=true->Zd GL 0 (Za KT (Zf (KV x.1.row x.1.dims))) KH [] (Zx c8n (encL x)):=by
 rintro⟨⟨r,l⟩,⟨⟩⟩ h
 have a:=spB h
 refine e7f r l ?_
 exact b0s r l a.len (List.all_eq_true.1 a.lin) _ l.length 0 (by omega) (by rw[List.drop_zero];rfl)
def jnO:List UInt8->List (List UInt8)->List UInt8
 | o,[]=>o
 | o,s::r=>jnO (if o=[]then s else o++[44,32]++s) r
theorem b8c(a b:List UInt8): ∀ r:List (List UInt8),Zv ((a++b)::r)=a++Zv (b::r)
 | []=>rfl
 | c::r=>by rw[J4,J4,List.append_assoc,List.append_assoc,List.append_assoc]
theorem b0i: ∀ (l:List (List UInt8)) (o:List UInt8),o≠[]->jnO o l=Zv (o::l)
 | [],o,_=>rfl
 | s::r,o,h=>by
  rw[jnO,if_neg h,b0i r _ (by simp),b8c,J4]
theorem e4l: ∀ l:List (List UInt8),(∀ s∈l,s≠[])->jnO [] l=Zv l
 | [],_=>rfl
 | s::r,h=>by rw[jnO,if_pos rfl,b0i r s (h s (by simp))]
theorem Pk(r:Str)(l:List Lin)(hl:l.length<=6)(hb : ∀ x∈l,Zg x=true)(R:Str×Int): ∀ (d i:Nat) (o:List UInt8),d+i=l.length->o.length+1002*d<=10000->R=(⟨[91]++jnO o ((l.drop i).map ZC)++[93]⟩,0) ->
  At Qf 0 (Za VN (Zf R)) UI 0 37 [(1,.ptr 0 0),(4,.pv (.str o)),(5,.pv (.int .i64 i))] [.obj (.box [.pv (.str r.s),.pv (.sl 2 false (l.map enc))])]:=by
 intro d
 induction d with
 | zero=>
  intro i o hi ho b
  rw[List.drop_eq_nil_of_le (by omega)]at b
  exact a0j r l o i (ZV (X7 (by omega)) ⟨Zj (by show 1+o.length<=_;omega),Zj (by rw[List.length_append];show 1+o.length+1<=_;omega),Zh (x:=((⟨[91]++o++[93]⟩,0):Str×Int)) b.symm⟩)
 | succ d ih=>
  intro i o hi ho b
  have a:i<l.length:=by omega
  have g:=Ui (hb _ (List.getElem_mem a))
  have hpl:=Wv l[i]
  rw[List.drop_eq_getElem_cons a,List.map_cons,jnO]at b
  have k:=fun o'=>ih (i+1) o' (by omega)
  refine a0j r l o i (ZN (XY a) (BP (fun e=>⟨Zj (by show o.length+2<=_;omega),Zt a rfl,ZK a ⟨Zc (l[i],()) rfl g,Zb (l[i],()) rfl ⟨Zj (by rw[List.length_append];show o.length+2+(ZC l[i]).length<=_;omega),?_⟩⟩⟩) fun e=>⟨Zt a rfl,ZK a ⟨Zc (l[i],()) rfl g,Zb (l[i],()) rfl ⟨Zj (by show o.length+(ZC l[i]).length<=_;omega),?_⟩⟩⟩))
  ·rw[next (by omega)]
   rw[if_neg e]at b
   exact k _ (by rw[List.length_append,List.length_append];show o.length+2+(ZC l[i]).length+_<=_;omega) b
  ·rw[next (by omega)]
   have e:o=[]:=e
   subst e
   rw[if_pos rfl]at b
   exact k _ (by show(ZC l[i]).length+_<=_;omega) b
theorem b8a: ∀ x:Sp×Unit,P5 x.1=true->Zd Qf 0 (Za VN (Zf (PY x.1.row x.1.dims))) UI [] (Zx d6z (encL x)):=by
 rintro⟨⟨r,l⟩,⟨⟩⟩ h
 show Zd Qf 0 (Za VN (Zf (PY r l))) _ _ _
 refine e4u r l ⟨Zc (⟨r,l⟩,()) rfl h,Zb (⟨r,l⟩,()) rfl (Y8 (fun a=> ?_) fun a=> ?_)⟩
 ·have a:KV r l=false:=a
  exact Zh (x:=((⟨[]⟩,1):Str×Int)) (by unfold PY;rw[a];rfl)
 ·have a:KV r l=true:=a
  have e:PY r l=(⟨Qo r l⟩,0):=by unfold PY;rw[a];rfl
  rw[e]
  unfold KV at a
  simp only[Bool.and_eq_true,Bool.or_eq_true,decide_eq_true_eq]at a
  have b:=List.all_eq_true.1 a.2
  have i : ∀ s∈l.map ZC,s≠[]:=fun s hs=>by
   obtain⟨x,j,rfl⟩:=List.mem_map.1 hs
   exact(Dm (b x j)).1
  refine BP (fun g=> ?_) fun g=> ?_
  ·have hr:=Ve (a.1.1.resolve_left g)
   refine⟨Zj (by show r.s.length+2<=_;omega),Pk r l a.1.2 b _ l.length 0 _ (by omega) (by rw[List.length_append];show r.s.length+2+_<=_;omega) ?_⟩
   rw[List.drop_zero,b0i _ _ (by simp)]
   unfold Qo JP
   rw[if_neg g];rfl
  ·have g:r.s=[]:=g
   refine Pk r l a.1.2 b _ l.length 0 [] (by omega) (by show 0+_<=_;omega) ?_
   rw[List.drop_zero,e4l _ i]
   unfold Qo JP
   rw[if_pos g];rfl
theorem c0p: ∀ x:TyS×Unit,yW x.1=true->Zd b5i 0 (Za a4b (Zf (QZ x.1))) a4j [] (Zx d9l (encL x)):=by
 rintro⟨t,⟨⟩⟩ h
 have a:=tyB h
 refine e5a t ⟨Zc (t.elem,()) rfl (decide_eq_true a.elem),Zb (t.elem,()) rfl (YX (fun h1=>⟨Zc (⟨t.row,t.dims⟩,()) rfl a.sp,Zb (⟨t.row,t.dims⟩,()) rfl (Zl ?_)⟩) fun h1=>Zl ?_)⟩
 ·have h1:NS t.elem.s=true:=h1
  show KV t.row t.dims=QZ t
  unfold QZ;rw[h1];rfl
 ·have h1:NS t.elem.s=false:=h1
  show false=QZ t
  unfold QZ;rw[h1];rfl
theorem c0j: ∀ x:TyS×Unit,yW x.1=true->Zd FU 0 (Za PM (Zf (KX x.1))) EJ [] (Zx d8i (encL x)):=by
 rintro⟨t,⟨⟩⟩ h
 have h:yW t=true:=h
 have b:=tyB h
 show Zd FU 0 (Za PM (Zf (KX t))) _ _ _
 refine e3h t ⟨Zc (t,()) rfl h,Zb (t,()) rfl (Y8 (fun a=> ?_) fun a=>⟨Zc (⟨t.row,t.dims⟩,()) rfl b.sp,Zb (⟨t.row,t.dims⟩,()) rfl ?_⟩)⟩
 ·have a:QZ t=false:=a
  exact Zh (x:=((⟨[]⟩,1):Str×Int)) (by unfold KX;rw[a];rfl)
 ·have a:QZ t=true:=a
  have hs:KV t.row t.dims=true:=by unfold QZ at a;rw[Bool.and_eq_true]at a;exact a.2
  have e:PY t.row t.dims=(⟨Qo t.row t.dims⟩,0):=by unfold PY;rw[hs];rfl
  have g:KX t=(⟨tyT t⟩,0):=by unfold KX;rw[a];rfl
  rw[show PY (((⟨t.row,t.dims⟩,()):Sp×Unit).1).row (((⟨t.row,t.dims⟩,()):Sp×Unit).1).dims=_ from e,g]
  have l1:=Bc hs
  refine Zy (fun h1=>⟨Zj (by have:=b.elem;show 0+t.elem.s.length<=_;omega),Zh (x:=((⟨[]++t.elem.s⟩,0):Str×Int)) ?_⟩) fun h1=>⟨Zj (by have:=b.elem;show(Qo t.row t.dims).length+t.elem.s.length<=_;omega),Zh (x:=((⟨Qo t.row t.dims++t.elem.s⟩,0):Str×Int)) ?_⟩
  ·unfold tyT;rw[if_pos h1]
  ·unfold tyT;rw[if_neg h1]
theorem e3e: ∀ x:TyS×Unit,yW x.1=true->Zd e9i 0 (Za d2n (Zf (KX x.1).1)) d6u [] (Zx f4c (encL x)):=by
 rintro⟨t,⟨⟩⟩ h
 exact f8j t ⟨Zc (t,()) rfl h,Zb (t,()) rfl (Zh (x:=(KX t).1) rfl)⟩
theorem zvn(y:Coef):PV.asStr (List.getD (List.drop 0 (PV.cells (enc y))) 0 default)=y.v.s:=rfl
theorem zsn(y:Coef):(decide (0+List.length [Sh.str]<=List.length (List.drop 0 (PV.cells (enc y))))&&YV (List.drop 0 (PV.cells (enc y))) 0 [Sh.str])=true:=rfl
theorem c3a(t:TyS)(hs : ∀ x∈t.dims,Zg x=true)(i:Nat)(a:i<t.dims.length)(R:Bool)(g:R=(t.dims.drop (i+1)).all Q7->At XW 0 (Za Xi (Zf R)) XA 0 64 [(1,.ptr 0 0),(3,.pv (.int .i64 ((i+1:Nat):Int)))] [.obj (.box (a2d t))])(hi:i<1000):
  ∀ (d k:Nat),d+k=t.dims[i].t.length->R=(((t.dims[i].t.drop k).all fun c=>nameI c.v.s)&&(t.dims.drop (i+1)).all Q7) ->
  At XW 0 (Za Xi (Zf R)) XA 1 64 [(1,.ptr 0 0),(3,.pv (.int .i64 i)),(4,.pv (.int .i64 k))] [.obj (.box (a2d t))]:=by
 have h:=hs _ (List.getElem_mem a)
 have hvl:=Uh h
 intro d
 induction d with
 | zero=>
  intro k j e
  rw[List.drop_eq_nil_of_le (by omega),List.all_nil,Bool.true_and]at e
  refine Mf t i k ⟨Zt a rfl,ZK a ?_⟩
  refine ZV (X7 (l:=t.dims[i].t) (i:=k) (by omega)) ?_
  rw[next (by omega)]
  exact g e
 | succ d ih=>
  intro k j e
  have b:k<t.dims[i].t.length:=by omega
  have m:(decide (0<=(k:Int))&&decide (Int.toNat (k:Int)<List.length (List.map (enc:Coef->PV) t.dims[i].t))&&2==2)=true:=by simp[b]
  have hn:=Ve (WK h (List.getElem_mem b)).1
  rw[List.drop_eq_getElem_cons b,List.all_cons]at e
  refine Mf t i k ⟨Zt a rfl,ZK a ?_⟩
  refine ZN (XY (l:=t.dims[i].t) (i:=k) b) ⟨Zt a rfl,ZK a ?_⟩
  rw[a7k,Wl enc b]
  refine⟨m,zsn _,?_⟩
  rw[zvn]
  refine KU (by omega) (Y8 (fun h1=>Zl ?_) fun h1=> ?_)
  ·rw[e,h1];rfl
  ·rw[next (by omega)]
   exact ih (k+1) (by omega) (by rw[e,h1];rfl)
theorem a2a(t:TyS)(hl:t.dims.length<=6)(hs : ∀ x∈t.dims,Zg x=true)(R:Bool): ∀ (d i:Nat),d+i=t.dims.length->R=(t.dims.drop i).all Q7 ->
  At XW 0 (Za Xi (Zf R)) XA 0 64 [(1,.ptr 0 0),(3,.pv (.int .i64 i))] [.obj (.box (a2d t))]:=by
 intro d
 induction d with
 | zero=>
  intro i hi b
  rw[List.drop_eq_nil_of_le (by omega),List.all_nil]at b
  exact Nz t i (ZV (X7 (by omega)) (Zl b.symm))
 | succ d ih=>
  intro i hi b
  have a:i<t.dims.length:=by omega
  rw[List.drop_eq_getElem_cons a,List.all_cons]at b
  refine Nz t i (ZN (XY a) ?_)
  refine c3a t hs i a R (fun h=>ih (i+1) (by omega) h) (by omega) t.dims[i].t.length 0 (by omega) ?_
  rw[b,List.drop_zero]
  unfold Q7 Va
  rw[List.all_map]
  rfl
theorem a9a: ∀ x:TyS×Unit,yW x.1=true->Zd XW 0 (Za Xi (Zf (Y7 x.1))) XA [] (Zx b9h (encL x)):=by
 rintro⟨t,⟨⟩⟩ h
 have i:=tyB h
 show Zd XW 0 (Za Xi (Zf (Y7 t))) _ _ _
 have fin:QZ t=true->(t.elem.s=Xb∨t.elem.s=YM)->(t.row.s=[]∨nameI t.row.s=true)->At XW 0 (Za Xi (Zf (Y7 t))) XA 0 64 [(1,.ptr 0 0),(3,.pv (.int .i64 0))] [.obj (.box (a2d t))]:=fun a b c=>by
  obtain⟨l,e⟩:=a1o a
  refine a2a t l (List.all_eq_true.1 e) _ t.dims.length 0 (by omega) ?_
  unfold Y7
  have k:(decide (t.elem.s=Xb)||decide (t.elem.s=YM))=true:=by simpa using b
  have j:(decide (t.row.s=[])||nameI t.row.s)=true:=by simpa using c
  rw[a,k,j,List.drop_zero];rfl
 refine d9h t ⟨Zc (t,()) rfl h,Zb (t,()) rfl (Y8 (fun e=>Zl ?_) fun e=>BP (fun h1=>BP (fun h2=>Zl ?_) fun h2=>BP (fun h3=>KU i.row (Y8 (fun g=>Zl ?_) fun g=>fin e (.inr h2) (.inr g))) fun h3=>fin e (.inr h2) (.inl h3)) fun h1=>BP (fun h3=>KU i.row (Y8 (fun g=>Zl ?_) fun g=>fin e (.inl h1) (.inr g))) fun h3=>fin e (.inl h1) (.inl h3))⟩
 ·have e:QZ t=false:=e
  unfold Y7;rw[e];rfl
 ·unfold Y7
  rw[decide_eq_false (show ¬ t.elem.s=Xb from h1),decide_eq_false (show ¬ t.elem.s=YM from h2),Bool.or_self,Bool.and_false];rfl
 ·unfold Y7
  rw[decide_eq_false h3,g,Bool.or_self,Bool.and_false];rfl
 ·unfold Y7
  rw[decide_eq_false h3,g,Bool.or_self,Bool.and_false];rfl
theorem a9z: ∀ x:Bool×TyS×Unit,yW x.2.1=true->Zd a3o 0 (Za M4 (Zf (Yy x.1 x.2.1))) MB [] (Zx b8q (encL x)):=by
 rintro⟨b,t,⟨⟩⟩ h
 refine c7j b t (YX (fun hb=>⟨Zc (t,()) rfl h,Zb (t,()) rfl (Zl ?_)⟩) fun hb=>Zy (fun h1=>Zy (fun h2=>Zl ?_) fun h2=>Zl ?_) fun h1=>Zl ?_)
 ·show Y7 t=Yy b t
  unfold Yy;rw[hb];rfl
 ·show _=Yy b t
  unfold Yy
  rw[hb,decide_eq_true h1,decide_eq_true h2,List.length_map]
  by_cases h3:t.dims.length=0
  ·rw[h3];rfl
  ·rw[decide_eq_false h3]
   show((t.dims.length:Int)==0)=false
   simpa using h3
 ·show _=Yy b t
  unfold Yy
  rw[hb,decide_eq_false h2,Bool.and_false];rfl
 ·show _=Yy b t
  unfold Yy
  rw[hb,decide_eq_false h1];rfl
theorem a6p(d:Df)(h:dW d=true)(R:Bool): ∀ (m i:Nat),m+i=d.ps.length->R=((nameI d.name.s&&decide (d.ps.length<=8)&&Yy d.given d.res&&YK d.body)&&(d.ps.drop i).all Bi) ->
  At Gp 0 (Za KS (Zf R)) KM 0 56 [(1,.ptr 0 0),(3,.pv (.int .i64 i))] [.obj (.box (FE d))]:=by
 have e:=dfB h
 intro m
 induction m with
 | zero=>
  intro i hi b
  rw[List.drop_eq_nil_of_le (by omega),List.all_nil,Bool.and_true]at b
  refine EY d i (ZV (X7 (by omega)) (KU e.name (YX (fun h1=>ZU (fun h2=>⟨Zc (d.given,d.res,()) rfl e.res,Zb (d.given,d.res,()) rfl (YX (fun h3=>⟨Zc (d.body,()) (UA d) e.body,Zb (d.body,()) (UA d) (Zl ?_)⟩) fun h3=>Zl ?_)⟩) fun h2=>Zl ?_) fun h1=>Zl ?_)))
  ·have h3:Yy d.given d.res=true:=h3
   rw[List.length_map]at h2
   rw[b,h1,h3,decide_eq_true (show d.ps.length<=8 by omega)];rfl
  ·have h3:Yy d.given d.res=false:=h3
   rw[b,h3,Bool.and_false];rfl
  ·rw[List.length_map]at h2
   rw[b,decide_eq_false (show ¬ d.ps.length<=8 by omega),Bool.and_false];rfl
  ·rw[b,h1];rfl
 | succ m ih=>
  intro i hi b
  have a:i<d.ps.length:=by omega
  have g:=CK (e.pw _ (List.getElem_mem a))
  have hl:=e.ps
  rw[List.drop_eq_getElem_cons a,List.all_cons]at b
  refine EY d i (ZN (XY a) ⟨Zt a rfl,ZK a (KU g.1 (Y8 (fun h1=>Zl ?_) fun h1=>⟨Zt a rfl,ZK a ⟨Zt a rfl,ZK a ⟨Zc (d.ps[i].given,d.ps[i].ty,()) rfl g.2,Zb (d.ps[i].given,d.ps[i].ty,()) rfl (Y8 (fun h2=>Zl ?_) fun h2=> ?_)⟩⟩⟩))⟩)
  ·have:Bi d.ps[i]=false:=by unfold Bi;rw[h1];rfl
   rw[b,this,Bool.false_and,Bool.and_false]
  ·have h2:Yy d.ps[i].given d.ps[i].ty=false:=h2
   have:Bi d.ps[i]=false:=by unfold Bi;rw[h2,Bool.and_false]
   rw[b,this,Bool.false_and,Bool.and_false]
  ·have h2:Yy d.ps[i].given d.ps[i].ty=true:=h2
   have:Bi d.ps[i]=true:=by unfold Bi;rw[h1,h2];rfl
   rw[next (by omega)]
   exact ih (i+1) (by omega) (by rw[b,this,Bool.true_and])
theorem c3r: ∀ x:Df×Unit,dW x.1=true->Zd Gp 0 (Za KS (Zf (Z6 x.1))) KM [] (Zx c9u (encL x)):=by
 rintro⟨d,⟨⟩⟩ h
 refine e3k d ?_
 exact a6p d h _ d.ps.length 0 (by omega) (by rw[List.drop_zero];rfl)
theorem LQ(p:Pm):pmT p=p.name.s++(if p.given=true then [58,32]++(KX p.ty).1.s else []):=rfl
theorem b8w(d:Df)(h:dW d=true)(E:Z6 d=true)(R:Str): ∀ (m i:Nat) (o:List UInt8),m+i=d.ps.length->o.length<=2000000+1060002*i ->
  R=⟨Bv o (decide (i=0)) ((d.ps.drop i).map pmT)++[41]++K5 d.given d.res++[32,61,32]++ZM d.body⟩ ->
  At Jh 0 (Za U4 (Zf R)) Qa 0 60 [(1,.ptr 0 0),(3,.pv (.str o)),(4,.pv (.int .i64 i))] [.obj (.box (FE d))]:=by
 have y:=dfB h
 have r:=E
 unfold Z6 at r
 simp only[Bool.and_eq_true,decide_eq_true_eq]at r
 have h8:=r.1.1.1.2
 have B:Z9 d.body=true:=Jq (by have:=r.1.2;unfold YK at this;rw[Bool.and_eq_true]at this;exact this.1)
 have hbl:(Zr d.body).s.length<=1153433592:=K6 y.body B
 have htl:=TM d.res
 have C:(fun x:Tm×Unit=>tW x.1&&Z9 x.1) (d.body,())=true:=by show(tW d.body&&Z9 d.body)=true;rw[y.body,B];rfl
 intro m
 induction m with
 | zero=>
  intro i o hi ho q
  rw[List.drop_eq_nil_of_le (by omega)]at q
  have z:o.length<=11000000:=by have:1060002*i<=1060002*8:=Nat.mul_le_mul_left _ (by omega);omega
  refine b5z d o i (ZV (X7 (by omega)) ⟨Zj (by show o.length+1<=_;omega),YX (fun l=>⟨Zc (d.res,()) rfl y.res,Zb (d.res,()) rfl ⟨Zj (by show 2+(KX d.res).1.s.length<=_;omega),Zj (by rw[List.length_append,List.length_append];show o.length+1+(2+(KX d.res).1.s.length)<=_;omega),Zj (by rw[List.length_append,List.length_append,List.length_append];show o.length+1+(2+(KX d.res).1.s.length)+3<=_;omega),Zc (d.body,()) (UA d) C,Zb (d.body,()) (UA d) ⟨Zj (by rw[List.length_append,List.length_append,List.length_append,List.length_append];show o.length+1+(2+(KX d.res).1.s.length)+3+(Zr d.body).s.length<=_;omega),Zh (x:=(⟨_⟩:Str)) ?_⟩⟩⟩) fun l=>⟨Zj (by rw[List.length_append];show o.length+1+3<=_;omega),Zc (d.body,()) (UA d) C,Zb (d.body,()) (UA d) ⟨Zj (by rw[List.length_append,List.length_append];show o.length+1+3+(Zr d.body).s.length<=_;omega),Zh (x:=(⟨_⟩:Str)) ?_⟩⟩⟩)
  ·rw[q]
   unfold K5
   rw[l]
   rfl
  ·rw[q]
   unfold K5
   rw[l]
   show(⟨o++[41]++[32,61,32]++ZM d.body⟩:Str)=⟨o++[41]++[]++[32,61,32]++ZM d.body⟩
   rw[List.append_nil]
 | succ m ih=>
  intro i o hi ho q
  have e:i<d.ps.length:=by omega
  have u:=y.pw _ (List.getElem_mem e)
  have A:=CK u
  have j:=b4v u
  have hty:=TM d.ps[i].ty
  have z:o.length<=11000000:=by have:1060002*i<=1060002*8:=Nat.mul_le_mul_left _ (by omega);omega
  have hnl:=A.1
  rw[List.drop_eq_getElem_cons e,List.map_cons,Bv]at q
  have k:=fun o'=>ih (i+1) o' (by omega)
  rw[decide_eq_false (show ¬ i+1=0 by omega)]at k
  have g : ∀ a b:List UInt8,(a++b).length=a.length+b.length:=fun a b=>List.length_append
  refine b5z d o i (ZN (XY e) (ZU (fun D=>⟨Zj (by show o.length+2<=_;omega),Zt e rfl,ZK e ⟨Zj (by rw[g];show o.length+2+d.ps[i].name.s.length<=_;omega),Zt e rfl,ZK e (YX (fun l=>⟨Zt e rfl,ZK e ⟨Zc (d.ps[i].ty,()) rfl A.2,Zb (d.ps[i].ty,()) rfl ⟨Zj (by show 2+(KX d.ps[i].ty).1.s.length<=_;omega),Zj (by rw[g,g,g];show o.length+2+d.ps[i].name.s.length+(2+(KX d.ps[i].ty).1.s.length)<=_;omega),?_⟩⟩⟩) fun l=> ?_)⟩⟩) fun D=>⟨Zt e rfl,ZK e ⟨Zj (by show o.length+d.ps[i].name.s.length<=_;omega),Zt e rfl,ZK e (YX (fun l=>⟨Zt e rfl,ZK e ⟨Zc (d.ps[i].ty,()) rfl A.2,Zb (d.ps[i].ty,()) rfl ⟨Zj (by show 2+(KX d.ps[i].ty).1.s.length<=_;omega),Zj (by rw[g,g];show o.length+d.ps[i].name.s.length+(2+(KX d.ps[i].ty).1.s.length)<=_;omega),?_⟩⟩⟩) fun l=> ?_)⟩⟩))
  ·rw[next (by omega)]
   rw[decide_eq_false (show ¬ i=0 by omega),LQ,l,if_pos rfl]at q
   rw[LQ,l,if_pos rfl,g,g]at j
   refine k _ ?_ ?_
   ·rw[g,g,g,g];show o.length+2+d.ps[i].name.s.length+(2+(KX d.ps[i].ty).1.s.length)<=_
    have j:d.ps[i].name.s.length+(2+(KX d.ps[i].ty).1.s.length)<=1060000:=j
    omega
   ·rw[q]
    show(⟨Bv (o++[44,32]++(d.ps[i].name.s++([58,32]++(KX d.ps[i].ty).1.s))) false _++[41]++K5 d.given d.res++[32,61,32]++ZM d.body⟩:Str)=_
    rw[<- List.append_assoc (o++[44,32]) d.ps[i].name.s]
  ·rw[next (by omega)]
   rw[decide_eq_false (show ¬ i=0 by omega),LQ,l,if_neg (by simp),if_neg (by simp),List.append_nil]at q
   refine k _ ?_ q
   rw[g,g];show o.length+2+d.ps[i].name.s.length<=_
   omega
  ·rw[next (by omega)]
   rw[decide_eq_true (show i=0 by omega),LQ,l,if_pos rfl,if_pos rfl,List.append_nil]at q
   rw[LQ,l,if_pos rfl,g,g]at j
   refine k _ ?_ ?_
   ·rw[g,g,g];show o.length+d.ps[i].name.s.length+(2+(KX d.ps[i].ty).1.s.length)<=_
    have j:d.ps[i].name.s.length+(2+(KX d.ps[i].ty).1.s.length)<=1060000:=j
    omega
   ·rw[q,<- List.append_assoc o d.ps[i].name.s]
  ·rw[next (by omega)]
   rw[decide_eq_true (show i=0 by omega),LQ,l,if_pos rfl,if_neg (by simp),List.append_nil,List.append_nil]at q
   refine k _ ?_ q
   rw[g];omega
theorem c4g: ∀ x:Df×Unit,(dW x.1&&Z6 x.1)=true->Zd Jh 0 (Za U4 (Zf (Hl x.1))) Qa [] (Zx e3d (encL x)):=by
 rintro⟨d,⟨⟩⟩ h
 simp only[Bool.and_eq_true]at h
 have hn:=(dfB h.1).name
 refine f5u d ⟨Zj (by show 4+d.name.s.length<=_;omega),Zj (by rw[List.length_append];show 4+d.name.s.length+1<=_;omega),?_⟩
 refine b8w d h.1 h.2 _ d.ps.length 0 _ (by omega) (by rw[List.length_append,List.length_append];show 4+d.name.s.length+1<=_;omega) ?_
 rw[List.drop_zero,show decide (0=0)=true from rfl,TN]
 rfl
def tlO(l:List (List UInt8)):List UInt8:=l.flatMap fun s=>[44,32]++s
theorem a4i(a:List UInt8): ∀ l:List (List UInt8),Zv (a::l)=a++tlO l
 | []=>by simp[Zv,tlO]
 | b::l=>by rw[J4,a4i b l];unfold tlO;rw[List.flatMap_cons,List.append_assoc,List.append_assoc]
theorem a3r(w:List UInt8)(l:List Str)(hl:l.length<=60)(hn : ∀ s∈l,s.s.length<=30)(R:Str): ∀ (d i:Nat) (o:List UInt8),d+i=l.length->1<=i->o≠[]->o.length<=100+32*i->R=⟨o++tlO ((l.drop i).map (·.s))++[10]⟩ ->
  At UT 0 (Za Vw (Zf R)) VA 0 34 [(0,.pv (.str w)),(1,.pv (enc l)),(5,.pv (.str o)),(6,.pv (.int .i64 i))] []:=by
 intro d
 induction d with
 | zero=>
  intro i o hi h1 ho e b
  rw[List.drop_eq_nil_of_le (by omega)]at b
  refine Gg w l o i (ZV (X7 (by omega)) (BP (fun _=>⟨Zj (by show o.length+1<=_;omega),Zh (x:=(⟨o++[10]⟩:Str)) ?_⟩) fun h=>absurd h ho))
  rw[b]
  show _=(⟨o++[]++[10]⟩:Str)
  rw[List.append_nil]
 | succ d ih=>
  intro i o hi h1 ho e b
  have a:i<l.length:=by omega
  have hs:=hn _ (List.getElem_mem a)
  rw[List.drop_eq_getElem_cons a,List.map_cons]at b
  refine Gg w l o i (ZN (XY a) (Zy (fun h=>absurd h (by omega)) fun _=>⟨Zt a rfl,ZK a ⟨Zj (by show 2+l[i].s.length<=_;omega),Zj (by rw[List.length_append];show o.length+(2+l[i].s.length)<=_;omega),?_⟩⟩))
  rw[next (by omega)]
  refine ih (i+1) _ (by omega) (by omega) (by simp) (by rw[List.length_append,List.length_append];show o.length+(2+l[i].s.length)<=_;omega) ?_
  rw[b]
  unfold tlO
  rw[List.flatMap_cons,<- List.append_assoc o]
theorem a6l: ∀ x:Str×List Str×Unit,(decide (x.1.s.length<=30)&&decide (x.1.s≠[])&&decide (x.2.1.length<=60)&&x.2.1.all fun s:Str=>nameI s.s)=true->Zd UT 0 (Za Vw (Zf (⟨Qd (Q5 x.1.s x.2.1)⟩:Str))) VA [] (Zx c3g (encL x)):=by
 rintro⟨⟨w⟩,l,⟨⟩⟩ h
 simp only[Bool.and_eq_true,decide_eq_true_eq,List.all_eq_true]at h
 obtain⟨⟨⟨h1,h2⟩,h3⟩,h4⟩:=h
 have h1:w.length<=30:=h1
 have h3:l.length<=60:=h3
 have hn : ∀ s∈l,s.s.length<=30:=fun s hs=>(Xo (h4 s hs)).2.2
 refine d4n w l ?_
 show At UT 0 (Za Vw (Zf (⟨Qd (Q5 w l)⟩:Str))) VA 0 34 [(0,.pv (.str w)),(1,.pv (enc l)),(5,.pv (.str [])),(6,.pv (.int .i64 ((0:Nat):Int)))] []
 cases l with
 | nil=>exact Gg w [] [] (0:Nat) (ZV (by decide) (BP (fun h=>absurd rfl h) fun _=>Zh (x:=(⟨[]⟩:Str)) rfl))
 | cons a r=>
  have b:0<(a::r).length:=by simp
  have ha:=hn a (by simp)
  refine Gg w (a::r) [] (0:Nat) (ZN (XY b) (ZN (by decide) ⟨Zj (by show w.length+1<=_;omega),Zt b rfl,ZK b ⟨Zj (by rw[List.length_append];show w.length+1+a.s.length<=_;omega),?_⟩⟩))
  rw[next (by omega)]
  refine a3r w (a::r) h3 hn _ r.length 1 _ (by rw[List.length_cons]) (by omega) (by simp) (by rw[List.length_append,List.length_append];show w.length+1+a.s.length<=_;omega) ?_
  show(⟨(w++[32]++Zv (a.s::r.map fun x:Str=>x.s))++[10]++[]⟩:Str)=⟨w++[32]++a.s++tlO (r.map fun x:Str=>x.s)++[10]⟩
  rw[a4i,List.append_nil,<- List.append_assoc (w++[32])]
theorem a1y(l:List Str)(hl:l.length<=1048576)(hs : ∀ s∈l,s.s.length<=1048576)(R:Bool): ∀ (d i:Nat),d+i=l.length->R=((l.drop i).all fun s=>nameI s.s) ->
  At Kl 0 (Za Qh (Zf R)) Qg 0 16 [(0,.pv (enc l)),(3,.pv (.int .i64 i))] []:=by
 intro d
 induction d with
 | zero=>
  intro i hi b
  rw[List.drop_eq_nil_of_le (by omega)]at b
  exact NB l i (ZV (X7 (by omega)) (Zl b.symm))
 | succ d ih=>
  intro i hi b
  have a:i<l.length:=by omega
  rw[List.drop_eq_getElem_cons a,List.all_cons]at b
  refine NB l i (ZN (XY a) ⟨Zt a rfl,ZK a (KU (hs _ (List.getElem_mem a)) (Y8 (fun h1=>Zl ?_) fun h1=> ?_))⟩)
  ·rw[b,h1];rfl
  ·rw[next (by omega)]
   exact ih (i+1) (by omega) (by rw[b,h1,Bool.true_and])
theorem b1b: ∀ x:List Str×Unit,Xg x.1=true->Zd Kl 0 (Za Qh (Zf (x.1.all fun s:Str=>nameI s.s))) Qg [] (Zx b7u (encL x)):=by
 rintro⟨l,⟨⟩⟩ h
 have h:=Mm h
 refine c4i l ?_
 exact a1y l h.1 h.2 _ l.length 0 (by omega) (by rw[List.drop_zero])
theorem e7c(m:Mdu)(g:mW m=true)(h60:m.ds.length<=60)(ha:m.ds.all Z6=true)(R:Str×Int): ∀ (d i:Nat) (o:List UInt8),d+i=m.ds.length->o.length<=200000+1200000001*i ->
  R=Jg ⟨o++Qd ((m.ds.drop i).map Ku)⟩->At QE 0 (Za VV (Zf R)) Ux 1 87 [(1,.ptr 0 0),(4,.pv (.str o)),(6,.pv (.int .i64 i))] [.obj (.box (c1o m))]:=by
 have h:=mdB g
 intro d
 induction d with
 | zero=>
  intro i o hi ho b
  rw[List.drop_eq_nil_of_le (by omega)]at b
  have b:R=Jg ⟨o++[]⟩:=b
  rw[List.append_nil]at b
  unfold Jg at b
  refine b5h m o i (ZV (X7 (by omega)) (ZU (fun h1=> ?_) fun h1=> ?_))
  ·rw[if_pos h1]at b
   exact Zh (x:=((⟨[]⟩,3):Str×Int)) b.symm
  ·rw[if_neg h1]at b
   exact Zh (x:=((⟨o⟩,0):Str×Int)) b.symm
 | succ d ih=>
  intro i o hi ho b
  have a:i<m.ds.length:=by omega
  have hd:=h.ds _ (List.getElem_mem a)
  have e:=List.all_eq_true.1 ha _ (List.getElem_mem a)
  have hll:=Az hd e
  have hol:o.length<=80000000000:=by have:1200000001*i<=1200000001*60:=Nat.mul_le_mul_left _ (by omega);omega
  rw[List.drop_eq_getElem_cons a,List.map_cons]at b
  refine b5h m o i (ZN (XY a) ⟨Zt a rfl,ZK a ⟨Zc (m.ds[i],()) rfl (by show(dW m.ds[i]&&Z6 m.ds[i])=true;rw[hd,e];rfl),Zb (m.ds[i],()) rfl ⟨Zj (by show(Ku m.ds[i]).length+1<=_;omega),Zj (by rw[List.length_append];show o.length+((Ku m.ds[i]).length+1)<=_;omega),?_⟩⟩⟩)
  rw[next (by omega)]
  refine ih (i+1) _ (by omega) (by rw[List.length_append,List.length_append];show o.length+((Ku m.ds[i]).length+1)<=_;omega) ?_
  rw[b]
  unfold Qd
  rw[List.flatMap_cons,<- List.append_assoc o]
  rfl
theorem e5m(m:Mdu)(g:mW m=true)(e:m.ds.length<=60)(o:List UInt8)(ho:o.length<=200000)(R:Str×Int)(h:m.ds.all Z6=true->R=Jg ⟨o++Qd (m.ds.map Ku)⟩)(hb:m.ds.all Z6=false->R=(⟨[]⟩,1)):
  ∀ (d i:Nat),d+i=m.ds.length->m.ds.all Z6=(m.ds.drop i).all Z6->At QE 0 (Za VV (Zf R)) Ux 0 87 [(1,.ptr 0 0),(4,.pv (.str o)),(5,.pv (.int .i64 i))] [.obj (.box (c1o m))]:=by
 have j:=mdB g
 intro d
 induction d with
 | zero=>
  intro i hi b
  rw[List.drop_eq_nil_of_le (by omega),List.all_nil]at b
  refine b5g m o i (ZV (X7 (by omega)) ?_)
  exact e7c m g e b R m.ds.length 0 o (by omega) (by omega) (by rw[List.drop_zero];exact h b)
 | succ d ih=>
  intro i hi b
  have a:i<m.ds.length:=by omega
  rw[List.drop_eq_getElem_cons a,List.all_cons]at b
  refine b5g m o i (ZN (XY a) ⟨Zt a rfl,ZK a ⟨Zc (m.ds[i],()) rfl (j.ds _ (List.getElem_mem a)),Zb (m.ds[i],()) rfl (Y8 (fun h1=> ?_) fun h1=> ?_)⟩⟩)
  ·have h1:Z6 m.ds[i]=false:=h1
   rw[h1]at b
   exact Zh (x:=((⟨[]⟩,1):Str×Int)) (hb b).symm
  ·have h1:Z6 m.ds[i]=true:=h1
   rw[next (by omega)]
   exact ih (i+1) (by omega) (by rw[b,h1,Bool.true_and])
theorem b5y{w:List UInt8}{l:List Str}(hw:w.length<=30)(hn:l.length<=1000)(h:(l.all fun s=>nameI s.s)=true):(Qd (Q5 w l)).length<=40032:=by
 unfold Q5
 split
 ·exact Nat.zero_le _
 ·have:=Gm hn (Nat.le_refl _) h
  show((((w++[32]++Zv (l.map fun x:Str=>x.s))++[10])++[]:List UInt8)).length<=_
  rw[List.append_nil,List.length_append,List.length_append,List.length_append]
  show w.length+1+_+1<=_
  omega
theorem d8x: ∀ x:Mdu×Unit,mW x.1=true->Zd QE 0 (Za VV (Zf (QO x.1))) Ux [] (Zx e1g (encL x)):=by
 rintro⟨m,⟨⟩⟩ i
 have g:=mdB i
 have i:mW m=true:=i
 show Zd QE 0 (Za VV (Zf (QO m))) _ _ _
 have bad:V6 m=false->Zf (QO m) (.tup [.str [],.int .i64 1]):=fun h=>Zh (x:=((⟨[]⟩,1):Str×Int)) (by unfold QO;rw[h];rfl)
 refine f0n m (KU g.name (Y8 (fun h1=>bad ?_) fun h1=>⟨Zc (m.im,()) rfl (D8 g.iml g.im),Zb (m.im,()) rfl (Y8 (fun h2=>bad ?_) fun h2=>⟨Zc (m.ex,()) rfl (D8 g.exl g.ex),Zb (m.ex,()) rfl (Y8 (fun h3=>bad ?_) fun h3=>ZU (fun l=>bad ?_) fun l=>ZU (fun k=>bad ?_) fun k=>ZU (fun j=>bad ?_) fun j=> ?_)⟩)⟩))
 ·unfold V6;rw[h1];rfl
 ·have h2:(m.im.all fun s=>nameI s.s)=false:=h2
  unfold V6;rw[h2,Bool.and_false];rfl
 ·have h3:(m.ex.all fun s=>nameI s.s)=false:=h3
  unfold V6;rw[h3,Bool.and_false];rfl
 ·rw[List.length_map]at l
  unfold V6;rw[decide_eq_false (show ¬ m.im.length<=20 by omega),Bool.and_false];rfl
 ·rw[List.length_map]at k
  unfold V6;rw[decide_eq_false (show ¬ m.ex.length<=60 by omega),Bool.and_false];rfl
 ·rw[List.length_map]at j
  unfold V6;rw[decide_eq_false (show ¬ m.ds.length<=60 by omega),Bool.and_false]
 ·have h2:(m.im.all fun s=>nameI s.s)=true:=h2
  have h3:(m.ex.all fun s=>nameI s.s)=true:=h3
  rw[List.length_map]at l k j
  have l1:=(Xo h1).2.2
  have r:V6 m=true:=by unfold V6;rw[h1,h2,h3,decide_eq_true (by omega),decide_eq_true (by omega),decide_eq_true (by omega)];rfl
  have i2:=b5y (w:=Ao) (by decide) (show m.im.length<=1000 by omega) h2
  have i3:=b5y (w:=SL) (by decide) (show m.ex.length<=1000 by omega) h3
  have u:(fun x:Str×List Str×Unit=>decide (x.1.s.length<=30)&&decide (x.1.s≠[])&&decide (x.2.1.length<=60)&&x.2.1.all fun s:Str=>nameI s.s) ((⟨Ao⟩:Str),m.im,())=true:=by
   show(decide (Ao.length<=30)&&decide (Ao≠[])&&decide (m.im.length<=60)&&m.im.all fun s=>nameI s.s)=true
   rw[h2,decide_eq_true (show m.im.length<=60 by omega)];rfl
  have q:(fun x:Str×List Str×Unit=>decide (x.1.s.length<=30)&&decide (x.1.s≠[])&&decide (x.2.1.length<=60)&&x.2.1.all fun s:Str=>nameI s.s) ((⟨SL⟩:Str),m.ex,())=true:=by
   show(decide (SL.length<=30)&&decide (SL≠[])&&decide (m.ex.length<=60)&&m.ex.all fun s=>nameI s.s)=true
   rw[h3,decide_eq_true (show m.ex.length<=60 by omega)];rfl
  have e : ∀ a b:List UInt8,(a++b).length=a.length+b.length:=fun a b=>List.length_append
  refine⟨Zj (by show 7+m.name.s.length<=_;omega),Zj (by rw[e];show 7+m.name.s.length+1<=_;omega),Zc ((⟨Ao⟩:Str),m.im,()) rfl u,Zb ((⟨Ao⟩:Str),m.im,()) rfl ⟨Zj (by rw[e,e];show 7+m.name.s.length+1+(Qd (Q5 Ao m.im)).length<=_;omega),Zc ((⟨SL⟩:Str),m.ex,()) rfl q,Zb ((⟨SL⟩:Str),m.ex,()) rfl ⟨Zj (by rw[e,e,e];show 7+m.name.s.length+1+(Qd (Q5 Ao m.im)).length+(Qd (Q5 SL m.ex)).length<=_;omega),?_⟩⟩⟩
  refine e5m m i (by omega) _ ?_ (QO m) (fun ha=> ?_) (fun hb=> ?_) m.ds.length 0 (by omega) (by rw[List.drop_zero])
  ·rw[e,e,e,e];show 7+m.name.s.length+1+(Qd (Q5 Ao m.im)).length+(Qd (Q5 SL m.ex)).length<=_;omega
  ·unfold QO f1m a9y
   rw[r,ha]
   show Jg _=Jg _
   congr 2
   show Qd _=([109,111,100,117,108,101,32]:List UInt8)++m.name.s++[10]++Qd (Q5 Ao m.im)++Qd (Q5 SL m.ex)++Qd (m.ds.map Ku)
   unfold Qd
   rw[List.flatMap_append,List.flatMap_append,List.flatMap_append]
   simp[e4a]
  ·unfold QO;rw[hb,Bool.and_false];rfl
def nmV(l:Lin)(i:Nat):List Str:=(l.t.take i).map (·.v)
theorem a2x(l:Lin){i:Nat}(h:i<l.t.length):(nmV l (i+1)).map (enc:Str->PV)=(nmV l i).map enc++[.str l.t[i].v.s]:=by
 unfold nmV
 rw[List.take_succ_eq_append_getElem h,List.map_append,List.map_append];rfl
theorem El(l:Lin){i:Nat}(h:i<=l.t.length):(nmV l i).length=i:=by unfold nmV;rw[List.length_map,List.length_take];omega
theorem e1i(l:Lin):nmV l l.t.length=Va l:=by unfold nmV Va;rw[List.take_of_length_le (Nat.le_refl _)]
theorem e7t{q sz m:Nat}{xs:List PV}(h:xs.length=q)(h1:(q+m)*sz<=1099511627776)(h2:q+m<=1099511627776):(xs.length==q&&q==q&&decide ((q+m)*sz<=1099511627776)&&decide (q+m<=1099511627776))=true:=by simp[h,h1,h2]
theorem a3w(l:Lin)(hl:l.t.length<=1000000): ∀ (k i:Nat),k+i=l.t.length->1<=i ->
  At QX 0 (Za UD (Zf (Va l))) UG 0 20 [(3,.row 0 i 0 i),(7,.pv (enc l.t)),(8,.pv (.int .i64 l.t.length)),(9,.pv (.int .i64 i))] [.obj (.row false 9 1 ((nmV l i).map enc))]:=by
 intro k
 induction k with
 | zero=>
  intro i hi h1
  obtain rfl:i=l.t.length:=by omega
  refine PL l _ _ (nmV l l.t.length) (ZV (YD (by omega)) ⟨by simp[El],?_⟩)
  rw[List.drop_zero,List.take_of_length_le (by rw[List.length_map,El l (Nat.le_refl _)];exact Nat.le_refl _),e1i]
  exact Zh (x:=Va l) rfl
 | succ k ih=>
  intro i hi h1
  have a:i<l.t.length:=by omega
  refine PL l i i (nmV l i) (ZN (Yw a) ⟨Zt a rfl,ZK a ⟨e7t (m:=1) (by rw[List.length_map,El l (by omega)]) (by omega) (by omega),?_⟩⟩)
  have:=ih (i+1) (by omega) (by omega)
  rw[a2x l a,<- next (by omega)]at this
  exact this
theorem a9u: ∀ a:Lin×Unit,decide (a.1.t.length<=1000000)=true->Zd QX 0 (Za UD (Zf (Va a.1))) UG [] (Zx d8k (encL a)):=by
 rintro⟨l,⟨⟩⟩ h
 have h:l.t.length<=1000000:=of_decide_eq_true h
 refine d4w l ?_
 rw[List.length_map]
 by_cases h0:l.t.length=0
 ·refine Pi l ((0:Nat):Int) (ZV (YD (by omega)) ?_)
  have:Va l=[]:=by unfold Va;rw[List.length_eq_zero_iff.1 h0];rfl
  rw[this]
  exact⟨rfl,rfl⟩
 ·have b:0<l.t.length:=by omega
  refine Pi l ((0:Nat):Int) (ZN (Yw b) ⟨Zt b rfl,ZK b ?_⟩)
  have:=a3w l h (l.t.length - 1) 1 (by omega) (by omega)
  rw[show(1:Nat)=0+1 from rfl,a2x l b]at this
  exact this
end Go.Pl
namespace Go.Pl
open Go.RowKit
open Enc (enc dec is)
open EncL (encL decL isL)
set_option maxRecDepth 100000
noncomputable def Yj:IC:=YR Proofs.Tryz.f3
def Yk:List IRes:=[(.tmp 6)]
abbrev c7t:Nat:=78
def YI:ZB:=Yi [(5,.pure (preT (fun _:Unit=>true)) (Zi (fun _:Unit=>true))),(6,.pure (preT (fun _:Str×Unit=>true)) (Zi (fun x:Str×Unit=>vT x.1))),(7,.pure (preT (fun x:Mdu×Unit=>mW x.1)) (Zi (fun x:Mdu×Unit=>QO x.1))),(8,.pure (preT (fun x:Mdu×Unit=>mW x.1)) (Zi (fun x:Mdu×Unit=>QO x.1)))]
abbrev QA(a:UInt8):Nat×AV:=(2,(.pv (.int IntKind.u8 (↑(UInt8.toNat a):Int))))
abbrev DY(a:UInt8):Nat×AV:=(1,(.pv (.int IntKind.u8 (↑(UInt8.toNat a):Int))))
theorem e7e{G:PV->Prop}(s:List UInt8)(n k:UInt8)(h:Dx (fun(x:Unit)=>true) [] fun a:Bool=>if (!a)=true then G ((.bool false))else(if (decide ((↑(List.length s):Int)>30))=true then G ((.bool true))else(At YI 0 (Za Yk G) Yj 0 78 [(0,(.pv (.str s))),(DY n),(QA k),(7,(.pv (.sl 0 true []))),(8,(.pv (.int .i64 0)))] []))):Zd YI 0 (Za Yk G) Yj [] (Zx 78 [.str s,enc n,enc k]):=Zd.tp (dm [dv Bool] 15 0x1420001452) h
theorem b8t{G:PV->Prop}(s:List UInt8)(n k:UInt8)(i:Int)(c:Nat)(o:List Tm)(h:if (decide (i<IntKind.wrap IntKind.i64 (1+Int.tmod (IntKind.wrap IntKind.i64 (↑(UInt8.toNat n):Int)) 16)))=true then(List.length (List.map enc o)==c)=true∧(At YI 0 (Za Yk G) Yj 1 78 [(DY n),(QA k),(7,(.row 0 c 0 c)),(9,(.row 1 1 0 1)),(10,(.pv (.int .i64 (IntKind.wrap IntKind.i64 (i+1)))))] [(.obj (.row true 29 10 (List.map enc o))),(.obj (.row false 29 10 [(.agg [(.int .i64 7),(.int .i64 0),(.str []),(.int .i64 0),(.str []),(.sl 0 true []),(.sl 0 true []),(.sl 0 true []),(.sl 0 true []),(.sl 10 false (List.drop 0 (List.take c (List.map enc o))))])]))])else(At YI 0 (Za Yk G) Yj 2 78 [(QA k),(9,(.pv (.sl 0 true []))),(11,(.ptr 0 0)),(12,(.pv (.int .i64 0)))] [(.obj (.box [(.pv (.str [(109:UInt8)])),(.pv (.sl 0 true [])),(.pv (.sl 0 true [])),(.pv (.sl 0 true []))]))])):At YI 0 (Za Yk G) Yj 1 78 [(1,.pv (.int .u8 n.toNat)),(2,.pv (.int .u8 k.toNat)),(7,.row 0 c 0 c),(9,.pv (.sl 0 true [])),(10,.pv (.int .i64 i))] [.obj (.row false 29 10 (o.map enc))]:=At.tp (dm [] 17 0x22222210084222) h
theorem LF{G:PV->Prop}(s:List UInt8)(n k:UInt8)(i:Int)(c e:Nat)(o:List Tm)(q:List PV)(h:if (decide (i<IntKind.wrap IntKind.i64 (1+Int.tmod (IntKind.wrap IntKind.i64 (↑(UInt8.toNat n):Int)) 16)))=true then(List.length (List.map enc o)==c)=true∧((List.length q==e&&e==e&&decide ((e+List.length (List.drop 0 (List.take 1 [PV.agg [PV.int .i64 7,PV.int .i64 0,PV.str [],PV.int .i64 0,PV.str [],PV.sl 0 true [],PV.sl 0 true [],PV.sl 0 true [],PV.sl 0 true [],PV.sl 10 false (List.drop 0 (List.take c (List.map enc o)))]])))*176<=1099511627776)&&decide (e+List.length (List.drop 0 (List.take 1 [PV.agg [PV.int .i64 7,PV.int .i64 0,PV.str [],PV.int .i64 0,PV.str [],PV.sl 0 true [],PV.sl 0 true [],PV.sl 0 true [],PV.sl 0 true [],PV.sl 10 false (List.drop 0 (List.take c (List.map enc o)))]]))<=1099511627776))=true∧(At YI 0 (Za Yk G) Yj 1 78 [(DY n),(QA k),(7,(.row 0 c 0 c)),(9,(.row 1 (e+List.length (List.drop 0 (List.take 1 [PV.agg [PV.int .i64 7,PV.int .i64 0,PV.str [],PV.int .i64 0,PV.str [],PV.sl 0 true [],PV.sl 0 true [],PV.sl 0 true [],PV.sl 0 true [],PV.sl 10 false (List.drop 0 (List.take c (List.map enc o)))]]))) 0 (e+List.length (List.drop 0 (List.take 1 [PV.agg [PV.int .i64 7,PV.int .i64 0,PV.str [],PV.int .i64 0,PV.str [],PV.sl 0 true [],PV.sl 0 true [],PV.sl 0 true [],PV.sl 0 true [],PV.sl 10 false (List.drop 0 (List.take c (List.map enc o)))]]))))),(10,(.pv (.int .i64 (IntKind.wrap IntKind.i64 (i+1)))))] [(.obj (.row true 29 10 (List.map enc o))),(.obj (.row false 29 10 (q++List.drop 0 (List.take 1 [PV.agg [PV.int .i64 7,PV.int .i64 0,PV.str [],PV.int .i64 0,PV.str [],PV.sl 0 true [],PV.sl 0 true [],PV.sl 0 true [],PV.sl 0 true [],PV.sl 10 false (List.drop 0 (List.take c (List.map enc o)))]]))))]))else(At YI 0 (Za Yk G) Yj 2 78 [(QA k),(9,(.row 0 e 0 e)),(11,(.ptr 1 0)),(12,(.pv (.int .i64 0)))] [(.obj (.row false 29 10 q)),(.obj (.box [(.pv (.str [(109:UInt8)])),(.pv (.sl 0 true [])),(.pv (.sl 0 true [])),(.pv (.sl 0 true []))]))])):At YI 0 (Za Yk G) Yj 1 78 [(1,.pv (.int .u8 n.toNat)),(2,.pv (.int .u8 k.toNat)),(7,.row 0 c 0 c),(9,.row 1 e 0 e),(10,.pv (.int .i64 i))] [.obj (.row true 29 10 (o.map enc)),.obj (.row false 29 10 q)]:=At.tp (dm [] 15 0x212210064222) h
theorem NI{G:PV->Prop}(s:List UInt8)(n k:UInt8)(i:Int)(e:Nat)(q:List PV)(h:if (decide (i<Int.tmod (IntKind.wrap IntKind.i64 (↑(UInt8.toNat k):Int)) 26))=true then(List.length q==e)=true∧(At YI 0 (Za Yk G) Yj 2 78 [(QA k),(9,(.row 0 e 0 e)),(11,(.ptr 1 0)),(12,(.pv (.int .i64 (IntKind.wrap IntKind.i64 (i+1)))))] [(.obj (.row true 29 10 q)),(.obj (.box [(.pv (.str [(109:UInt8)])),(.pv (.sl 0 true [])),(.pv (.sl 0 true [])),(.row 2 1 0 1)])),(.obj (.row false 41 17 [(.agg [(.str [(102:UInt8)]),(.int .i64 0),(.sl 0 true []),(.bool false),(.str []),(.str []),(.sl 0 true []),(.int .i64 7),(.int .i64 0),(.str []),(.int .i64 0),(.str []),(.sl 0 true []),(.sl 0 true []),(.sl 0 true []),(.sl 0 true []),(.sl 10 false (List.drop 0 (List.take e q)))])]))])else(Dx (fun(x:Mdu×Unit)=>QO x.1) [(.agg [(.str [(109:UInt8)]),(.sl 0 true []),(.sl 0 true []),(.sl 0 true [])])] fun a:Str×Int=>Dx (fun(x:Mdu×Unit)=>QO x.1) [(.agg [(.str [(109:UInt8)]),(.sl 0 true []),(.sl 0 true []),(.sl 0 true [])])] fun b:Str×Int=>if (Str.s a.1==Str.s b.1)=true then G ((.bool (a.2==b.2)))else(G ((.bool false))))):At YI 0 (Za Yk G) Yj 2 78 [(2,.pv (.int .u8 k.toNat)),(9,.row 0 e 0 e),(11,.ptr 1 0),(12,.pv (.int .i64 i))] [.obj (.row false 29 10 q),.obj (.box [.pv (.str [109]),.pv (.sl 0 true []),.pv (.sl 0 true []),.pv (.sl 0 true [])])]:=At.tp (dm [dv (Str×Int)] 33 0x2220222200542525202222221008422) h
theorem MZ{G:PV->Prop}(s:List UInt8)(n k:UInt8)(i:Int)(e g:Nat)(q r:List PV)(h:if (decide (i<Int.tmod (IntKind.wrap IntKind.i64 (↑(UInt8.toNat k):Int)) 26))=true then(List.length q==e)=true∧((List.length r==g&&g==g&&decide ((g+List.length (List.drop 0 (List.take 1 [PV.agg [PV.str [(102:UInt8)],PV.int .i64 0,PV.sl 0 true [],PV.bool false,PV.str [],PV.str [],PV.sl 0 true [],PV.int .i64 7,PV.int .i64 0,PV.str [],PV.int .i64 0,PV.str [],PV.sl 0 true [],PV.sl 0 true [],PV.sl 0 true [],PV.sl 0 true [],PV.sl 10 false (List.drop 0 (List.take e q))]])))*288<=1099511627776)&&decide (g+List.length (List.drop 0 (List.take 1 [PV.agg [PV.str [(102:UInt8)],PV.int .i64 0,PV.sl 0 true [],PV.bool false,PV.str [],PV.str [],PV.sl 0 true [],PV.int .i64 7,PV.int .i64 0,PV.str [],PV.int .i64 0,PV.str [],PV.sl 0 true [],PV.sl 0 true [],PV.sl 0 true [],PV.sl 0 true [],PV.sl 10 false (List.drop 0 (List.take e q))]]))<=1099511627776))=true∧(At YI 0 (Za Yk G) Yj 2 78 [(QA k),(9,(.row 0 e 0 e)),(11,(.ptr 1 0)),(12,(.pv (.int .i64 (IntKind.wrap IntKind.i64 (i+1)))))] [(.obj (.row true 29 10 q)),(.obj (.box [(.pv (.str [(109:UInt8)])),(.pv (.sl 0 true [])),(.pv (.sl 0 true [])),(.row 2 (g+List.length (List.drop 0 (List.take 1 [PV.agg [PV.str [(102:UInt8)],PV.int .i64 0,PV.sl 0 true [],PV.bool false,PV.str [],PV.str [],PV.sl 0 true [],PV.int .i64 7,PV.int .i64 0,PV.str [],PV.int .i64 0,PV.str [],PV.sl 0 true [],PV.sl 0 true [],PV.sl 0 true [],PV.sl 0 true [],PV.sl 10 false (List.drop 0 (List.take e q))]]))) 0 (g+List.length (List.drop 0 (List.take 1 [PV.agg [PV.str [(102:UInt8)],PV.int .i64 0,PV.sl 0 true [],PV.bool false,PV.str [],PV.str [],PV.sl 0 true [],PV.int .i64 7,PV.int .i64 0,PV.str [],PV.int .i64 0,PV.str [],PV.sl 0 true [],PV.sl 0 true [],PV.sl 0 true [],PV.sl 0 true [],PV.sl 10 false (List.drop 0 (List.take e q))]]))))])),(.obj (.row false 41 17 (r++List.drop 0 (List.take 1 [PV.agg [PV.str [(102:UInt8)],PV.int .i64 0,PV.sl 0 true [],PV.bool false,PV.str [],PV.str [],PV.sl 0 true [],PV.int .i64 7,PV.int .i64 0,PV.str [],PV.int .i64 0,PV.str [],PV.sl 0 true [],PV.sl 0 true [],PV.sl 0 true [],PV.sl 0 true [],PV.sl 10 false (List.drop 0 (List.take e q))]]))))]))else((List.length r==g)=true∧((Go.Pl.preT (fun(x:Mdu×Unit)=>mW x.1) [(.agg [(.str [(109:UInt8)]),(.sl 0 true []),(.sl 0 true []),(.sl 17 false (List.drop 0 (List.take g r)))])])=true∧(Dx (fun(x:Mdu×Unit)=>QO x.1) [(.agg [(.str [(109:UInt8)]),(.sl 0 true []),(.sl 0 true []),(.sl 17 false (List.drop 0 (List.take g r)))])] fun a:Str×Int=>(List.length r==g)=true∧((Go.Pl.preT (fun(x:Mdu×Unit)=>mW x.1) [(.agg [(.str [(109:UInt8)]),(.sl 0 true []),(.sl 0 true []),(.sl 17 false (List.drop 0 (List.take g r)))])])=true∧(Dx (fun(x:Mdu×Unit)=>QO x.1) [(.agg [(.str [(109:UInt8)]),(.sl 0 true []),(.sl 0 true []),(.sl 17 false (List.drop 0 (List.take g r)))])] fun b:Str×Int=>if (Str.s a.1==Str.s b.1)=true then G ((.bool (a.2==b.2)))else(G ((.bool false))))))))):At YI 0 (Za Yk G) Yj 2 78 [(2,.pv (.int .u8 k.toNat)),(9,.row 0 e 0 e),(11,.ptr 1 0),(12,.pv (.int .i64 i))] [.obj (.row true 29 10 q),.obj (.box [.pv (.str [109]),.pv (.sl 0 true []),.pv (.sl 0 true []),.row 2 g 0 g]),.obj (.row false 41 17 r)]:=At.tp (dm [dv (Str×Int)] 33 0x2220222200542511511021221006422) h
theorem c0w{G:PV->Prop}(s:List UInt8)(n k:UInt8)(i:Int)(h:if (decide (i<16))=true then Dx (fun(x:Str×Unit)=>vT x.1) [(.str s)] fun a:Tm=>(List.all [enc a] fun(x:PV)=>List.length (PV.cells x)==10&&PV.cellsOk x)=true∧(At YI 0 (Za Yk G) Yj 0 78 [(0,(.pv (.str s))),(DY n),(QA k),(7,(.row 0 1 0 1)),(8,(.pv (.int .i64 (IntKind.wrap IntKind.i64 (i+1)))))] [(.obj (.row false 29 10 [enc a]))])else(At YI 0 (Za Yk G) Yj 1 78 [(DY n),(QA k),(7,(.pv (.sl 0 true []))),(9,(.pv (.sl 0 true []))),(10,(.pv (.int .i64 0)))] [])):At YI 0 (Za Yk G) Yj 0 78 [(0,.pv (.str s)),(1,.pv (.int .u8 n.toNat)),(2,.pv (.int .u8 k.toNat)),(7,.pv (.sl 0 true [])),(8,.pv (.int .i64 i))] []:=At.tp (dm [dv Tm] 16 0x2222215200942) h
theorem Mi{G:PV->Prop}(s:List UInt8)(n k:UInt8)(i:Int)(c:Nat)(o:List Tm)(h:if (decide (i<16))=true then Dx (fun(x:Str×Unit)=>vT x.1) [(.str s)] fun a:Tm=>(List.all [enc a] fun(x:PV)=>List.length (PV.cells x)==10&&PV.cellsOk x)=true∧((List.length (List.map enc o)==c&&c==c&&decide ((c+List.length (List.drop 0 (List.take 1 [enc a])))*176<=1099511627776)&&decide (c+List.length (List.drop 0 (List.take 1 [enc a]))<=1099511627776))=true∧(At YI 0 (Za Yk G) Yj 0 78 [(0,(.pv (.str s))),(DY n),(QA k),(7,(.row 0 (c+List.length (List.drop 0 (List.take 1 [enc a]))) 0 (c+List.length (List.drop 0 (List.take 1 [enc a]))))),(8,(.pv (.int .i64 (IntKind.wrap IntKind.i64 (i+1)))))] [(.obj (.row false 29 10 (List.map enc o++List.drop 0 (List.take 1 [enc a]))))]))else(At YI 0 (Za Yk G) Yj 1 78 [(DY n),(QA k),(7,(.row 0 c 0 c)),(9,(.pv (.sl 0 true []))),(10,(.pv (.int .i64 0)))] [(.obj (.row false 29 10 (List.map enc o)))])):At YI 0 (Za Yk G) Yj 0 78 [(0,.pv (.str s)),(1,.pv (.int .u8 n.toNat)),(2,.pv (.int .u8 k.toNat)),(7,.row 0 c 0 c),(8,.pv (.int .i64 i))] [.obj (.row false 29 10 (o.map enc))]:=At.tp (dm [dv Tm] 14 0x21215200742) h
end Go.Pl
